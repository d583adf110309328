/-
Walks: package vergeref10, MinRev of two intervals that are not empty.
-/
import Derived.Test.YthaojemejpbbgaaM18
set_option linter.unusedSimpArgs false
set_option linter.unusedVariables false

namespace Go.Proofs.Ythaojemejpbbgaa
open Go.RowKit

theorem PcVal.grown {w w' : World} {g : Nat} {t : TypeId} {cs : Array Value} {a b : Int} {xs : List Value} (h : PcVal w a b xs) (hb : Blk w g t cs) (hc : NoWd cs) (hg : w.grownBy w' (some g)) : PcVal w' a b xs := by
  obtain ⟨a1, a2, a3, a4, a5, g1, A1, n1, c1, B1, m1, d1, g2, A2, n2, c2, B2, m2, d2, e, r1, r2⟩ := h
  exact ⟨a1, a2, a3, a4, a5, g1, A1, n1, c1, B1, m1, d1, g2, A2, n2, c2, B2, m2, d2, e, r1.grown hb hc hg, r2.grown hb hc hg⟩
theorem OwnP.capOk {w : World} {B : Nat} {A : Option Addr} {n cap : Nat} {xs : List Value} (h : OwnP w B (.slice A n cap) n xs) (hn : 0 < n) : n ≤ cap := by
  obtain ⟨g, c, e, -, h2⟩ := h.form hn
  injection e with e1 e2 e3
  omega

set_option maxRecDepth 2000 in
set_option maxHeartbeats 12800000 in
theorem mr_none (b1 b2 c1 c2 x y : Nat) (i1 i2 i3 i4 : Int) (w : World) (hb1 : b1 < 18446744073709551616) (hb2 : b2 < 18446744073709551616) (hc1 : c1 < 18446744073709551616) (hc2 : c2 < 18446744073709551616) (hx : x < 18446744073709551616) (hy : y < 18446744073709551616) (hcc : snd c1 c2 = true) (hbb : snd b1 b2 = true) (e1 : idx c1 = i1) (e2 : idx c2 = i2) (e3 : idx b1 = i3) (e4 : idx b2 = i4) (q0 : i4 < i1) :
    Calls Try.prog 7 #[.agg #[.int .u64 (b1 : Int), .int .u64 (b2 : Int)], .agg #[.int .u64 (c1 : Int), .int .u64 (c2 : Int)], .agg #[.int .u64 (x : Int), .int .u64 (y : Int)]] w fun e w' => e = .returned (.agg #[.int .u64 (pat (((M : Int), -(M : Int))).1 : Int), .int .u64 (pat (((M : Int), -(M : Int))).2 : Int)]) ∧ Below w.heap.size w w' := by
  have hdc := of_decide_eq_true hcc
  have hdb := of_decide_eq_true hbb
  have a1 := idx_bounds hdc.1
  have a2 := idx_bounds hdc.2.1
  have a3 := idx_bounds hdb.1
  have a4 := idx_bounds hdb.2.1
  rw [e1] at a1; rw [e2] at a2; rw [e3] at a3; rw [e4] at a4
  have u1 := hdc.2.2; have u2 := hdb.2.2
  rw [e1, e2] at u1; rw [e3, e4] at u2
  have HC := Lib.hid fun W => of_full c1 c2 W hc1 hc2 hcc
  have HBB := Lib.hid fun W => of_full b1 b2 W hb1 hb2 hbb
  rw [e1, e2] at HC
  rw [e3, e4] at HBB
  have Q14 := ec_idx a1.1 a1.2 a4.1 a4.2
  have Q42 := ec_idx a4.1 a4.2 a2.1 a2.2
  have Q32 := ec_idx a3.1 a3.2 a2.1 a2.2
  have Q13 := ec_idx a1.1 a1.2 a3.1 a3.2
  unfold SameSign at Q14 Q42 Q32 Q13
  have z1 : es i1 ≠ 0 → ex i1 = 0 := ex_inf
  have z2 : es i2 ≠ 0 → ex i2 = 0 := ex_inf
  have z3 : es i3 ≠ 0 → ex i3 = 0 := ex_inf
  have z4 : es i4 ≠ 0 → ex i4 = 0 := ex_inf
  have E1 := Lib.hid (rfl : es i1 = es i1)
  obtain ⟨s1, es1⟩ : ∃ s, es i1 = s := ⟨_, rfl⟩
  obtain ⟨x1, ex1⟩ : ∃ s, ex i1 = s := ⟨_, rfl⟩
  have ES1 := Lib.hid es1
  have EX1 := Lib.hid ex1
  rw [es1, ex1] at z1
  obtain ⟨s2, es2⟩ : ∃ s, es i2 = s := ⟨_, rfl⟩
  obtain ⟨x2, ex2⟩ : ∃ s, ex i2 = s := ⟨_, rfl⟩
  have ES2 := Lib.hid es2
  have EX2 := Lib.hid ex2
  rw [es2, ex2] at z2
  obtain ⟨s3, es3⟩ : ∃ s, es i3 = s := ⟨_, rfl⟩
  obtain ⟨x3, ex3⟩ : ∃ s, ex i3 = s := ⟨_, rfl⟩
  have ES3 := Lib.hid es3
  have EX3 := Lib.hid ex3
  rw [es3, ex3] at z3
  obtain ⟨s4, es4⟩ : ∃ s, es i4 = s := ⟨_, rfl⟩
  obtain ⟨x4, ex4⟩ : ∃ s, ex i4 = s := ⟨_, rfl⟩
  have ES4 := Lib.hid es4
  have EX4 := Lib.hid ex4
  rw [es4, ex4] at z4
  rw [es1, ex1, es2, ex2] at HC
  rw [es3, ex3, es4, ex4] at HBB
  rw [es1, ex1, es4, ex4] at Q14
  rw [es4, ex4, es2, ex2] at Q42
  rw [es3, ex3, es2, ex2] at Q32
  rw [es1, ex1, es3, ex3] at Q13
  obtain ⟨r14, er14⟩ : ∃ r, ec s1 x1 s4 x4 = r := ⟨_, rfl⟩
  obtain ⟨r42, er42⟩ : ∃ r, ec s4 x4 s2 x2 = r := ⟨_, rfl⟩
  obtain ⟨r32, er32⟩ : ∃ r, ec s3 x3 s2 x2 = r := ⟨_, rfl⟩
  obtain ⟨r13, er13⟩ : ∃ r, ec s1 x1 s3 x3 = r := ⟨_, rfl⟩
  rw [er14] at Q14; rw [er42] at Q42; rw [er32] at Q32; rw [er13] at Q13
  have R14 := Lib.hid er14
  have R42 := Lib.hid er42
  have R32 := Lib.hid er32
  have R13 := Lib.hid er13
  have c14 : ¬ r14 ≤ 0 := by omega
  have d14 : decide (r14 ≤ 0) = false := by simp; omega
  have hM : M = 9218868437227405312 := rfl
  have HBD := Lib.hid (⟨a1, a2, a3, a4, u1, u2⟩ : _ ∧ _ ∧ _ ∧ _ ∧ _ ∧ _)
  have HQQ := Lib.hid (⟨q0, trivial⟩ : i4 < i1 ∧ True)
  have Z1 := Lib.hid z1
  have Z2 := Lib.hid z2
  have Z3 := Lib.hid z3
  have Z4 := Lib.hid z4
  have HALL := Lib.hid fun W => all_nil x y W hx hy
  rw [pat_max, pat_min]
  clear hdc hdb a1 a2 a3 a4 u1 u2 Q14 Q42 Q32 Q13 es1 es2 es3 es4 ex1 ex2 ex3 ex4 er14 er42 er32 er13 e1 e2 e3 e4 z1 z2 z3 z4 hM hcc hbb q0
  have LB0 := Lib.hid (show Below w.heap.size w ((((w.alloc (.cells #[.int .u64 (b1 : Int), .int .u64 (b2 : Int)] 24)).alloc (.cells #[.int .u64 (c1 : Int), .int .u64 (c2 : Int)] 24)).alloc (.cells #[.int .u64 (x : Int), .int .u64 (y : Int)] 24)).alloc (.cells #[.int .u64 0, .int .u64 0] 24)) from ((((below_alloc w _).alloc (by simp <;> omega) _).alloc (by simp <;> omega) _).alloc (by simp <;> omega) _))
  have LG0_0 := Lib.hid (((((Blk.at (W := w) (g := w.heap.size) (by simp <;> omega) 24 #[.int .u64 (b1 : Int), .int .u64 (b2 : Int)]).alloc (.cells #[.int .u64 (c1 : Int), .int .u64 (c2 : Int)] 24)).alloc (.cells #[.int .u64 (x : Int), .int .u64 (y : Int)] 24)).alloc (.cells #[.int .u64 0, .int .u64 0] 24)))
  have LG1_0 := Lib.hid ((((Blk.at (W := (w.alloc (.cells #[.int .u64 (b1 : Int), .int .u64 (b2 : Int)] 24))) (g := (w.heap.size + 1)) (by simp <;> omega) 24 #[.int .u64 (c1 : Int), .int .u64 (c2 : Int)]).alloc (.cells #[.int .u64 (x : Int), .int .u64 (y : Int)] 24)).alloc (.cells #[.int .u64 0, .int .u64 0] 24)))
  have LG2_0 := Lib.hid (((Blk.at (W := ((w.alloc (.cells #[.int .u64 (b1 : Int), .int .u64 (b2 : Int)] 24)).alloc (.cells #[.int .u64 (c1 : Int), .int .u64 (c2 : Int)] 24))) (g := (w.heap.size + 2)) (by simp <;> omega) 24 #[.int .u64 (x : Int), .int .u64 (y : Int)]).alloc (.cells #[.int .u64 0, .int .u64 0] 24)))
  have LR0 := Lib.hid (HasBlk.of (n := 2) (Blk.at (W := (((w.alloc (.cells #[.int .u64 (b1 : Int), .int .u64 (b2 : Int)] 24)).alloc (.cells #[.int .u64 (c1 : Int), .int .u64 (c2 : Int)] 24)).alloc (.cells #[.int .u64 (x : Int), .int .u64 (y : Int)] 24))) (g := (w.heap.size + 3)) (by simp <;> omega) 24 #[.int .u64 0, .int .u64 0]) rfl rfl)
  go_enter Try.func7, Try.ntmps7
  go_wp2_with fail
  refine (HC.out _).mono ?_
  rintro e w1 ⟨g1, A1, n1, k1, B1, m1, d1, g2, A2, n2, k2, B2, m2, d2, rfl, h1, h2, hbA⟩
  have LB1 := Lib.hid (LB0.out.trans (hbA.mono LB0.out.size))
  have LR1 := Lib.hid (LR0.out.keep hbA)
  have LG0_1 := Lib.hid (LG0_0.out.keep hbA)
  have LG1_1 := Lib.hid (LG1_0.out.keep hbA)
  have LG2_1 := Lib.hid (LG2_0.out.keep hbA)
  clear LB0 LR0 LG0_0 LG1_0 LG2_0
  go_upto_region 2 with fail
  have hlt2 := LR1.out.lt
  have LB2 := Lib.hid (LB1.out.alloc LB1.out.size (.cells #[.bool false, .int .i64 s1, .bool g1, .slice A1 n1 k1, .slice B1 m1 d1, .int .i64 s2, .bool g2, .slice A2 n2 k2, .slice B2 m2 d2] 48))
  have LR2 := Lib.hid (LR1.out.alloc (.cells #[.bool false, .int .i64 s1, .bool g1, .slice A1 n1 k1, .slice B1 m1 d1, .int .i64 s2, .bool g2, .slice A2 n2 k2, .slice B2 m2 d2] 48))
  have LG0_2 := Lib.hid (LG0_1.out.alloc (.cells #[.bool false, .int .i64 s1, .bool g1, .slice A1 n1 k1, .slice B1 m1 d1, .int .i64 s2, .bool g2, .slice A2 n2 k2, .slice B2 m2 d2] 48))
  have LG1_2 := Lib.hid (LG1_1.out.alloc (.cells #[.bool false, .int .i64 s1, .bool g1, .slice A1 n1 k1, .slice B1 m1 d1, .int .i64 s2, .bool g2, .slice A2 n2 k2, .slice B2 m2 d2] 48))
  have LG2_2 := Lib.hid (LG2_1.out.alloc (.cells #[.bool false, .int .i64 s1, .bool g1, .slice A1 n1 k1, .slice B1 m1 d1, .int .i64 s2, .bool g2, .slice A2 n2 k2, .slice B2 m2 d2] 48))
  have LG3_2 := Lib.hid (Blk.new w1 48 #[.bool false, .int .i64 s1, .bool g1, .slice A1 n1 k1, .slice B1 m1 d1, .int .i64 s2, .bool g2, .slice A2 n2 k2, .slice B2 m2 d2])
  clear LB1 LR1 LG0_1 LG1_1 LG2_1
  have h1a := h1.below (below_alloc w1 (.cells #[.bool false, .int .i64 s1, .bool g1, .slice A1 n1 k1, .slice B1 m1 d1, .int .i64 s2, .bool g2, .slice A2 n2 k2, .slice B2 m2 d2] 48))
  have h2a := h2.below (below_alloc w1 (.cells #[.bool false, .int .i64 s1, .bool g1, .slice A1 n1 k1, .slice B1 m1 d1, .int .i64 s2, .bool g2, .slice A2 n2 k2, .slice B2 m2 d2] 48))
  obtain ⟨V1, hV1⟩ : ∃ X, (w1.alloc (.cells #[.bool false, .int .i64 s1, .bool g1, .slice A1 n1 k1, .slice B1 m1 d1, .int .i64 s2, .bool g2, .slice A2 n2 k2, .slice B2 m2 d2] 48)) = X := ⟨_, rfl⟩
  have hlV : w1.heap.size < V1.heap.size := by rw [← hV1]; simp
  rw [hV1] at LB2 LR2 LG0_2 LG1_2 LG2_2 LG3_2 h1a h2a ⊢
  clear hV1 h1 h2 hbA
  have q0_0 : _ = some (.int .u64 (b1 : Int) : Value) := LG0_2.out.cell 0
  have q0_1 : _ = some (.int .u64 (b2 : Int) : Value) := LG0_2.out.cell 1
  go_wp2_with fail
  refine (HBB.out _).mono ?_
  rintro e w2 ⟨g3, A3, n3, k3, B3, m3, d3, g4, A4, n4, k4, B4, m4, d4, rfl, h3, h4, hbB⟩
  have LB3 := Lib.hid (LB2.out.trans (hbB.mono LB2.out.size))
  have LR3 := Lib.hid (LR2.out.keep hbB)
  have LG0_3 := Lib.hid (LG0_2.out.keep hbB)
  have LG1_3 := Lib.hid (LG1_2.out.keep hbB)
  have LG2_3 := Lib.hid (LG2_2.out.keep hbB)
  have LG3_3 := Lib.hid (LG3_2.out.keep hbB)
  clear LB2 LR2 LG0_2 LG1_2 LG2_2 LG3_2
  have h1b := h1a.below hbB
  have h2b := h2a.below hbB
  have hlW := hbB.size
  clear h1a h2a hbB q0_0 q0_1
  go_upto_region 3 with fail
  have hlt4 := LR3.out.lt
  have LB4 := Lib.hid (LB3.out.alloc LB3.out.size (.cells #[.bool false, .int .i64 s3, .bool g3, .slice A3 n3 k3, .slice B3 m3 d3, .int .i64 s4, .bool g4, .slice A4 n4 k4, .slice B4 m4 d4] 48))
  have LR4 := Lib.hid (LR3.out.alloc (.cells #[.bool false, .int .i64 s3, .bool g3, .slice A3 n3 k3, .slice B3 m3 d3, .int .i64 s4, .bool g4, .slice A4 n4 k4, .slice B4 m4 d4] 48))
  have LG0_4 := Lib.hid (LG0_3.out.alloc (.cells #[.bool false, .int .i64 s3, .bool g3, .slice A3 n3 k3, .slice B3 m3 d3, .int .i64 s4, .bool g4, .slice A4 n4 k4, .slice B4 m4 d4] 48))
  have LG1_4 := Lib.hid (LG1_3.out.alloc (.cells #[.bool false, .int .i64 s3, .bool g3, .slice A3 n3 k3, .slice B3 m3 d3, .int .i64 s4, .bool g4, .slice A4 n4 k4, .slice B4 m4 d4] 48))
  have LG2_4 := Lib.hid (LG2_3.out.alloc (.cells #[.bool false, .int .i64 s3, .bool g3, .slice A3 n3 k3, .slice B3 m3 d3, .int .i64 s4, .bool g4, .slice A4 n4 k4, .slice B4 m4 d4] 48))
  have LG3_4 := Lib.hid (LG3_3.out.alloc (.cells #[.bool false, .int .i64 s3, .bool g3, .slice A3 n3 k3, .slice B3 m3 d3, .int .i64 s4, .bool g4, .slice A4 n4 k4, .slice B4 m4 d4] 48))
  have LG4_4 := Lib.hid (Blk.new w2 48 #[.bool false, .int .i64 s3, .bool g3, .slice A3 n3 k3, .slice B3 m3 d3, .int .i64 s4, .bool g4, .slice A4 n4 k4, .slice B4 m4 d4])
  clear LB3 LR3 LG0_3 LG1_3 LG2_3 LG3_3
  have H1 := Lib.hid (h1b.below (below_alloc w2 (.cells #[.bool false, .int .i64 s3, .bool g3, .slice A3 n3 k3, .slice B3 m3 d3, .int .i64 s4, .bool g4, .slice A4 n4 k4, .slice B4 m4 d4] 48)))
  have H2 := Lib.hid (h2b.below (below_alloc w2 (.cells #[.bool false, .int .i64 s3, .bool g3, .slice A3 n3 k3, .slice B3 m3 d3, .int .i64 s4, .bool g4, .slice A4 n4 k4, .slice B4 m4 d4] 48)))
  have H3 := Lib.hid (h3.below (below_alloc w2 (.cells #[.bool false, .int .i64 s3, .bool g3, .slice A3 n3 k3, .slice B3 m3 d3, .int .i64 s4, .bool g4, .slice A4 n4 k4, .slice B4 m4 d4] 48)))
  have H4 := Lib.hid (h4.below (below_alloc w2 (.cells #[.bool false, .int .i64 s3, .bool g3, .slice A3 n3 k3, .slice B3 m3 d3, .int .i64 s4, .bool g4, .slice A4 n4 k4, .slice B4 m4 d4] 48)))
  obtain ⟨V2, hV2⟩ : ∃ X, (w2.alloc (.cells #[.bool false, .int .i64 s3, .bool g3, .slice A3 n3 k3, .slice B3 m3 d3, .int .i64 s4, .bool g4, .slice A4 n4 k4, .slice B4 m4 d4] 48)) = X := ⟨_, rfl⟩
  have hlV2 : w2.heap.size < V2.heap.size := by rw [← hV2]; simp
  rw [hV2] at LB4 LR4 LG0_4 LG1_4 LG2_4 LG3_4 LG4_4 H1 H2 H3 H4 ⊢
  clear hV2 h1b h2b h3 h4
  have hlt9 : w1.heap.size < w2.heap.size := by omega
  have LV4 := Lib.hid (Below.refl V2.heap.size V2)
  have q3_0 : _ = some (.bool false : Value) := LG3_4.out.cell 0
  have q3_1 : _ = some (.int .i64 s1 : Value) := LG3_4.out.cell 1
  have q3_2 : _ = some (.bool g1 : Value) := LG3_4.out.cell 2
  have q3_3 : _ = some (.slice A1 n1 k1 : Value) := LG3_4.out.cell 3
  have q3_4 : _ = some (.slice B1 m1 d1 : Value) := LG3_4.out.cell 4
  have q3_5 : _ = some (.int .i64 s2 : Value) := LG3_4.out.cell 5
  have q3_6 : _ = some (.bool g2 : Value) := LG3_4.out.cell 6
  have q3_7 : _ = some (.slice A2 n2 k2 : Value) := LG3_4.out.cell 7
  have q3_8 : _ = some (.slice B2 m2 d2 : Value) := LG3_4.out.cell 8
  have q4_0 : _ = some (.bool false : Value) := LG4_4.out.cell 0
  have q4_1 : _ = some (.int .i64 s3 : Value) := LG4_4.out.cell 1
  have q4_2 : _ = some (.bool g3 : Value) := LG4_4.out.cell 2
  have q4_3 : _ = some (.slice A3 n3 k3 : Value) := LG4_4.out.cell 3
  have q4_4 : _ = some (.slice B3 m3 d3 : Value) := LG4_4.out.cell 4
  have q4_5 : _ = some (.int .i64 s4 : Value) := LG4_4.out.cell 5
  have q4_6 : _ = some (.bool g4 : Value) := LG4_4.out.cell 6
  have q4_7 : _ = some (.slice A4 n4 k4 : Value) := LG4_4.out.cell 7
  have q4_8 : _ = some (.slice B4 m4 d4 : Value) := LG4_4.out.cell 8
  have HT := Lib.hid (ecmp_any 34 s1 g1 A1 n1 k1 B1 m1 d1 x1 s4 g4 A4 n4 k4 B4 m4 d4 x4 _ (H1.out.below LV4.out) (H4.out.below LV4.out) (by omega))
  rw [R14.out] at HT
  go_wp2_with fail
  refine HT.out.mono ?_
  rintro e wc1 ⟨rfl, hbc1⟩
  have LB5 := Lib.hid (LB4.out.trans (hbc1.mono LB4.out.size))
  have LR5 := Lib.hid (LR4.out.keep hbc1)
  have LG0_5 := Lib.hid (LG0_4.out.keep hbc1)
  have LG1_5 := Lib.hid (LG1_4.out.keep hbc1)
  have LG2_5 := Lib.hid (LG2_4.out.keep hbc1)
  have LG3_5 := Lib.hid (LG3_4.out.keep hbc1)
  have LG4_5 := Lib.hid (LG4_4.out.keep hbc1)
  have LV5 := Lib.hid (LV4.out.trans (hbc1.mono LV4.out.size))
  clear LB4 LR4 LG0_4 LG1_4 LG2_4 LG3_4 LG4_4 LV4
  clear HT hbc1 q3_0 q3_1 q3_2 q3_3 q3_4 q3_5 q3_6 q3_7 q3_8 q4_0 q4_1 q4_2 q4_3 q4_4 q4_5 q4_6 q4_7 q4_8
  have q3_0 : _ = some (.bool false : Value) := LG3_5.out.cell 0
  have q3_1 : _ = some (.int .i64 s1 : Value) := LG3_5.out.cell 1
  have q3_2 : _ = some (.bool g1 : Value) := LG3_5.out.cell 2
  have q3_3 : _ = some (.slice A1 n1 k1 : Value) := LG3_5.out.cell 3
  have q3_4 : _ = some (.slice B1 m1 d1 : Value) := LG3_5.out.cell 4
  have q3_5 : _ = some (.int .i64 s2 : Value) := LG3_5.out.cell 5
  have q3_6 : _ = some (.bool g2 : Value) := LG3_5.out.cell 6
  have q3_7 : _ = some (.slice A2 n2 k2 : Value) := LG3_5.out.cell 7
  have q3_8 : _ = some (.slice B2 m2 d2 : Value) := LG3_5.out.cell 8
  have q4_0 : _ = some (.bool false : Value) := LG4_5.out.cell 0
  have q4_1 : _ = some (.int .i64 s3 : Value) := LG4_5.out.cell 1
  have q4_2 : _ = some (.bool g3 : Value) := LG4_5.out.cell 2
  have q4_3 : _ = some (.slice A3 n3 k3 : Value) := LG4_5.out.cell 3
  have q4_4 : _ = some (.slice B3 m3 d3 : Value) := LG4_5.out.cell 4
  have q4_5 : _ = some (.int .i64 s4 : Value) := LG4_5.out.cell 5
  have q4_6 : _ = some (.bool g4 : Value) := LG4_5.out.cell 6
  have q4_7 : _ = some (.slice A4 n4 k4 : Value) := LG4_5.out.cell 7
  have q4_8 : _ = some (.slice B4 m4 d4 : Value) := LG4_5.out.cell 8
  have HT := Lib.hid (ecmp_any 34 s1 g1 A1 n1 k1 B1 m1 d1 x1 s4 g4 A4 n4 k4 B4 m4 d4 x4 _ (H1.out.below LV5.out) (H4.out.below LV5.out) (by omega))
  rw [R14.out] at HT
  go_wp2_with fail
  refine HT.out.mono ?_
  rintro e wc2 ⟨rfl, hbc2⟩
  have LB6 := Lib.hid (LB5.out.trans (hbc2.mono LB5.out.size))
  have LR6 := Lib.hid (LR5.out.keep hbc2)
  have LG0_6 := Lib.hid (LG0_5.out.keep hbc2)
  have LG1_6 := Lib.hid (LG1_5.out.keep hbc2)
  have LG2_6 := Lib.hid (LG2_5.out.keep hbc2)
  have LG3_6 := Lib.hid (LG3_5.out.keep hbc2)
  have LG4_6 := Lib.hid (LG4_5.out.keep hbc2)
  have LV6 := Lib.hid (LV5.out.trans (hbc2.mono LV5.out.size))
  clear LB5 LR5 LG0_5 LG1_5 LG2_5 LG3_5 LG4_5 LV5
  clear HT hbc2 q3_0 q3_1 q3_2 q3_3 q3_4 q3_5 q3_6 q3_7 q3_8 q4_0 q4_1 q4_2 q4_3 q4_4 q4_5 q4_6 q4_7 q4_8
  have q2_0 : _ = some (.int .u64 (x : Int) : Value) := LG2_6.out.cell 0
  have q2_1 : _ = some (.int .u64 (y : Int) : Value) := LG2_6.out.cell 1
  go_wp2_with fail
  refine (HALL.out _).mono ?_
  rintro e w9 ⟨rfl, hb9⟩
  have LB7 := Lib.hid (LB6.out.trans (hb9.mono LB6.out.size))
  have LR7 := Lib.hid (LR6.out.keep hb9)
  have LG0_7 := Lib.hid (LG0_6.out.keep hb9)
  have LG1_7 := Lib.hid (LG1_6.out.keep hb9)
  have LG2_7 := Lib.hid (LG2_6.out.keep hb9)
  have LG3_7 := Lib.hid (LG3_6.out.keep hb9)
  have LG4_7 := Lib.hid (LG4_6.out.keep hb9)
  have LV7 := Lib.hid (LV6.out.trans (hb9.mono LV6.out.size))
  clear LB6 LR6 LG0_6 LG1_6 LG2_6 LG3_6 LG4_6 LV6
  clear hb9 q2_0 q2_1
  have ha0 := LR7.out.someCell 0 (by decide)
  have hf0 := LR7.out.frozen 0
  have ha1 := LR7.out.someCell 1 (by decide)
  have hf1 := LR7.out.frozen 1
  have hk0 := LR7.out.setCell [.int .u64 9218868437227405312, .int .u64 18442240474082181120] rfl 0 (by decide)
  have hk1 := LR7.out.setCell [.int .u64 9218868437227405312, .int .u64 18442240474082181120] rfl 1 (by decide)
  have F := Lib.hid (below_sets (w0 := w) (r := (w.heap.size + 3)) (by omega) [.int .u64 9218868437227405312, .int .u64 18442240474082181120] 0 _ LB7.out)
  simp [sets] at hk0 hk1
  go_wp2
  refine bodyPost_ret (v := .agg #[.int .u64 9218868437227405312, .int .u64 18442240474082181120]) (by simp [results, Try.results7, go_sem, hk0, hk1]) rfl ?_
  exact ⟨rfl, F.out⟩

set_option maxRecDepth 2000 in
set_option maxHeartbeats 12800000 in
theorem mr_1 (b1 b2 c1 c2 x y : Nat) (i1 i2 i3 i4 : Int) (w : World) (hb1 : b1 < 18446744073709551616) (hb2 : b2 < 18446744073709551616) (hc1 : c1 < 18446744073709551616) (hc2 : c2 < 18446744073709551616) (hx : x < 18446744073709551616) (hy : y < 18446744073709551616) (hcc : snd c1 c2 = true) (hbb : snd b1 b2 = true) (e1 : idx c1 = i1) (e2 : idx c2 = i2) (e3 : idx b1 = i3) (e4 : idx b2 = i4) (q0 : i1 ≤ i4) (q1 : i2 ≤ i4) (q2 : i2 < i3) :
    Calls Try.prog 7 #[.agg #[.int .u64 (b1 : Int), .int .u64 (b2 : Int)], .agg #[.int .u64 (c1 : Int), .int .u64 (c2 : Int)], .agg #[.int .u64 (x : Int), .int .u64 (y : Int)]] w fun e w' => e = .returned (.agg #[.int .u64 (pat (zf (rd x y).1 (rd x y).2 (mrL i3 i4 i1 i2) 1).1 : Int), .int .u64 (pat (zf (rd x y).1 (rd x y).2 (mrL i3 i4 i1 i2) 1).2 : Int)]) ∧ Below w.heap.size w w' := by
  have hdc := of_decide_eq_true hcc
  have hdb := of_decide_eq_true hbb
  have a1 := idx_bounds hdc.1
  have a2 := idx_bounds hdc.2.1
  have a3 := idx_bounds hdb.1
  have a4 := idx_bounds hdb.2.1
  rw [e1] at a1; rw [e2] at a2; rw [e3] at a3; rw [e4] at a4
  have u1 := hdc.2.2; have u2 := hdb.2.2
  rw [e1, e2] at u1; rw [e3, e4] at u2
  have HC := Lib.hid fun W => of_full c1 c2 W hc1 hc2 hcc
  have HBB := Lib.hid fun W => of_full b1 b2 W hb1 hb2 hbb
  rw [e1, e2] at HC
  rw [e3, e4] at HBB
  have Q14 := ec_idx a1.1 a1.2 a4.1 a4.2
  have Q42 := ec_idx a4.1 a4.2 a2.1 a2.2
  have Q32 := ec_idx a3.1 a3.2 a2.1 a2.2
  have Q13 := ec_idx a1.1 a1.2 a3.1 a3.2
  unfold SameSign at Q14 Q42 Q32 Q13
  have z1 : es i1 ≠ 0 → ex i1 = 0 := ex_inf
  have z2 : es i2 ≠ 0 → ex i2 = 0 := ex_inf
  have z3 : es i3 ≠ 0 → ex i3 = 0 := ex_inf
  have z4 : es i4 ≠ 0 → ex i4 = 0 := ex_inf
  have D1 : mrL i3 i4 i1 i2 0 = (i1, i2) := by unfold mrL; rw [if_pos rfl, show min i2 i4 = i2 from by omega]
  obtain ⟨L, hL⟩ : ∃ L, mrL i3 i4 i1 i2 = L := ⟨_, rfl⟩
  rw [hL] at D1 ⊢
  clear hL
  have E1 := Lib.hid (rfl : es i1 = es i1)
  obtain ⟨s1, es1⟩ : ∃ s, es i1 = s := ⟨_, rfl⟩
  obtain ⟨x1, ex1⟩ : ∃ s, ex i1 = s := ⟨_, rfl⟩
  have ES1 := Lib.hid es1
  have EX1 := Lib.hid ex1
  rw [es1, ex1] at z1
  obtain ⟨s2, es2⟩ : ∃ s, es i2 = s := ⟨_, rfl⟩
  obtain ⟨x2, ex2⟩ : ∃ s, ex i2 = s := ⟨_, rfl⟩
  have ES2 := Lib.hid es2
  have EX2 := Lib.hid ex2
  rw [es2, ex2] at z2
  obtain ⟨s3, es3⟩ : ∃ s, es i3 = s := ⟨_, rfl⟩
  obtain ⟨x3, ex3⟩ : ∃ s, ex i3 = s := ⟨_, rfl⟩
  have ES3 := Lib.hid es3
  have EX3 := Lib.hid ex3
  rw [es3, ex3] at z3
  obtain ⟨s4, es4⟩ : ∃ s, es i4 = s := ⟨_, rfl⟩
  obtain ⟨x4, ex4⟩ : ∃ s, ex i4 = s := ⟨_, rfl⟩
  have ES4 := Lib.hid es4
  have EX4 := Lib.hid ex4
  rw [es4, ex4] at z4
  rw [es1, ex1, es2, ex2] at HC
  rw [es3, ex3, es4, ex4] at HBB
  rw [es1, ex1, es4, ex4] at Q14
  rw [es4, ex4, es2, ex2] at Q42
  rw [es3, ex3, es2, ex2] at Q32
  rw [es1, ex1, es3, ex3] at Q13
  obtain ⟨r14, er14⟩ : ∃ r, ec s1 x1 s4 x4 = r := ⟨_, rfl⟩
  obtain ⟨r42, er42⟩ : ∃ r, ec s4 x4 s2 x2 = r := ⟨_, rfl⟩
  obtain ⟨r32, er32⟩ : ∃ r, ec s3 x3 s2 x2 = r := ⟨_, rfl⟩
  obtain ⟨r13, er13⟩ : ∃ r, ec s1 x1 s3 x3 = r := ⟨_, rfl⟩
  rw [er14] at Q14; rw [er42] at Q42; rw [er32] at Q32; rw [er13] at Q13
  have R14 := Lib.hid er14
  have R42 := Lib.hid er42
  have R32 := Lib.hid er32
  have R13 := Lib.hid er13
  have c14 : r14 ≤ 0 := by omega
  have d14 : decide (r14 ≤ 0) = true := by simp; omega
  have c42 : ¬ r42 < 0 := by omega
  have c32 : decide (r32 ≤ 0) = false := by simp; omega
  have hM : M = 9218868437227405312 := rfl
  have HBD := Lib.hid (⟨a1, a2, a3, a4, u1, u2⟩ : _ ∧ _ ∧ _ ∧ _ ∧ _ ∧ _)
  have HQQ := Lib.hid (⟨q0, q1, q2, trivial⟩ : i1 ≤ i4 ∧ i2 ≤ i4 ∧ i2 < i3 ∧ True)
  have Z1 := Lib.hid z1
  have Z2 := Lib.hid z2
  have Z3 := Lib.hid z3
  have Z4 := Lib.hid z4
  have D1 := Lib.hid D1
  have HALL := Lib.hid fun (ad : Addr) (n c : Nat) W (h1 : n ≤ 100) (h2 : n ≤ c) (h3 : ∀ k : Nat, k < n → PcAt W ad k (L k).1 (L k).2) => all_any x y ad n c L W hx hy h1 h2 h3
  obtain ⟨PP, hPP⟩ : ∃ P, zf (rd x y).1 (rd x y).2 L 1 = P := ⟨_, rfl⟩
  rw [hPP]
  have HPP := Lib.hid hPP
  clear hPP
  clear hdc hdb a1 a2 a3 a4 u1 u2 Q14 Q42 Q32 Q13 es1 es2 es3 es4 ex1 ex2 ex3 ex4 er14 er42 er32 er13 e1 e2 e3 e4 z1 z2 z3 z4 hM hcc hbb q0 q1 q2
  have LB0 := Lib.hid (show Below w.heap.size w ((((w.alloc (.cells #[.int .u64 (b1 : Int), .int .u64 (b2 : Int)] 24)).alloc (.cells #[.int .u64 (c1 : Int), .int .u64 (c2 : Int)] 24)).alloc (.cells #[.int .u64 (x : Int), .int .u64 (y : Int)] 24)).alloc (.cells #[.int .u64 0, .int .u64 0] 24)) from ((((below_alloc w _).alloc (by simp <;> omega) _).alloc (by simp <;> omega) _).alloc (by simp <;> omega) _))
  have LG0_0 := Lib.hid (((((Blk.at (W := w) (g := w.heap.size) (by simp <;> omega) 24 #[.int .u64 (b1 : Int), .int .u64 (b2 : Int)]).alloc (.cells #[.int .u64 (c1 : Int), .int .u64 (c2 : Int)] 24)).alloc (.cells #[.int .u64 (x : Int), .int .u64 (y : Int)] 24)).alloc (.cells #[.int .u64 0, .int .u64 0] 24)))
  have LG1_0 := Lib.hid ((((Blk.at (W := (w.alloc (.cells #[.int .u64 (b1 : Int), .int .u64 (b2 : Int)] 24))) (g := (w.heap.size + 1)) (by simp <;> omega) 24 #[.int .u64 (c1 : Int), .int .u64 (c2 : Int)]).alloc (.cells #[.int .u64 (x : Int), .int .u64 (y : Int)] 24)).alloc (.cells #[.int .u64 0, .int .u64 0] 24)))
  have LG2_0 := Lib.hid (((Blk.at (W := ((w.alloc (.cells #[.int .u64 (b1 : Int), .int .u64 (b2 : Int)] 24)).alloc (.cells #[.int .u64 (c1 : Int), .int .u64 (c2 : Int)] 24))) (g := (w.heap.size + 2)) (by simp <;> omega) 24 #[.int .u64 (x : Int), .int .u64 (y : Int)]).alloc (.cells #[.int .u64 0, .int .u64 0] 24)))
  have LR0 := Lib.hid (HasBlk.of (n := 2) (Blk.at (W := (((w.alloc (.cells #[.int .u64 (b1 : Int), .int .u64 (b2 : Int)] 24)).alloc (.cells #[.int .u64 (c1 : Int), .int .u64 (c2 : Int)] 24)).alloc (.cells #[.int .u64 (x : Int), .int .u64 (y : Int)] 24))) (g := (w.heap.size + 3)) (by simp <;> omega) 24 #[.int .u64 0, .int .u64 0]) rfl rfl)
  go_enter Try.func7, Try.ntmps7
  go_wp2_with fail
  refine (HC.out _).mono ?_
  rintro e w1 ⟨g1, A1, n1, k1, B1, m1, d1, g2, A2, n2, k2, B2, m2, d2, rfl, h1, h2, hbA⟩
  have LB1 := Lib.hid (LB0.out.trans (hbA.mono LB0.out.size))
  have LR1 := Lib.hid (LR0.out.keep hbA)
  have LG0_1 := Lib.hid (LG0_0.out.keep hbA)
  have LG1_1 := Lib.hid (LG1_0.out.keep hbA)
  have LG2_1 := Lib.hid (LG2_0.out.keep hbA)
  clear LB0 LR0 LG0_0 LG1_0 LG2_0
  go_upto_region 2 with fail
  have hlt2 := LR1.out.lt
  have LB2 := Lib.hid (LB1.out.alloc LB1.out.size (.cells #[.bool false, .int .i64 s1, .bool g1, .slice A1 n1 k1, .slice B1 m1 d1, .int .i64 s2, .bool g2, .slice A2 n2 k2, .slice B2 m2 d2] 48))
  have LR2 := Lib.hid (LR1.out.alloc (.cells #[.bool false, .int .i64 s1, .bool g1, .slice A1 n1 k1, .slice B1 m1 d1, .int .i64 s2, .bool g2, .slice A2 n2 k2, .slice B2 m2 d2] 48))
  have LG0_2 := Lib.hid (LG0_1.out.alloc (.cells #[.bool false, .int .i64 s1, .bool g1, .slice A1 n1 k1, .slice B1 m1 d1, .int .i64 s2, .bool g2, .slice A2 n2 k2, .slice B2 m2 d2] 48))
  have LG1_2 := Lib.hid (LG1_1.out.alloc (.cells #[.bool false, .int .i64 s1, .bool g1, .slice A1 n1 k1, .slice B1 m1 d1, .int .i64 s2, .bool g2, .slice A2 n2 k2, .slice B2 m2 d2] 48))
  have LG2_2 := Lib.hid (LG2_1.out.alloc (.cells #[.bool false, .int .i64 s1, .bool g1, .slice A1 n1 k1, .slice B1 m1 d1, .int .i64 s2, .bool g2, .slice A2 n2 k2, .slice B2 m2 d2] 48))
  have LG3_2 := Lib.hid (Blk.new w1 48 #[.bool false, .int .i64 s1, .bool g1, .slice A1 n1 k1, .slice B1 m1 d1, .int .i64 s2, .bool g2, .slice A2 n2 k2, .slice B2 m2 d2])
  clear LB1 LR1 LG0_1 LG1_1 LG2_1
  have h1a := h1.below (below_alloc w1 (.cells #[.bool false, .int .i64 s1, .bool g1, .slice A1 n1 k1, .slice B1 m1 d1, .int .i64 s2, .bool g2, .slice A2 n2 k2, .slice B2 m2 d2] 48))
  have h2a := h2.below (below_alloc w1 (.cells #[.bool false, .int .i64 s1, .bool g1, .slice A1 n1 k1, .slice B1 m1 d1, .int .i64 s2, .bool g2, .slice A2 n2 k2, .slice B2 m2 d2] 48))
  obtain ⟨V1, hV1⟩ : ∃ X, (w1.alloc (.cells #[.bool false, .int .i64 s1, .bool g1, .slice A1 n1 k1, .slice B1 m1 d1, .int .i64 s2, .bool g2, .slice A2 n2 k2, .slice B2 m2 d2] 48)) = X := ⟨_, rfl⟩
  have hlV : w1.heap.size < V1.heap.size := by rw [← hV1]; simp
  rw [hV1] at LB2 LR2 LG0_2 LG1_2 LG2_2 LG3_2 h1a h2a ⊢
  clear hV1 h1 h2 hbA
  have q0_0 : _ = some (.int .u64 (b1 : Int) : Value) := LG0_2.out.cell 0
  have q0_1 : _ = some (.int .u64 (b2 : Int) : Value) := LG0_2.out.cell 1
  go_wp2_with fail
  refine (HBB.out _).mono ?_
  rintro e w2 ⟨g3, A3, n3, k3, B3, m3, d3, g4, A4, n4, k4, B4, m4, d4, rfl, h3, h4, hbB⟩
  have LB3 := Lib.hid (LB2.out.trans (hbB.mono LB2.out.size))
  have LR3 := Lib.hid (LR2.out.keep hbB)
  have LG0_3 := Lib.hid (LG0_2.out.keep hbB)
  have LG1_3 := Lib.hid (LG1_2.out.keep hbB)
  have LG2_3 := Lib.hid (LG2_2.out.keep hbB)
  have LG3_3 := Lib.hid (LG3_2.out.keep hbB)
  clear LB2 LR2 LG0_2 LG1_2 LG2_2 LG3_2
  have h1b := h1a.below hbB
  have h2b := h2a.below hbB
  have hlW := hbB.size
  clear h1a h2a hbB q0_0 q0_1
  go_upto_region 3 with fail
  have hlt4 := LR3.out.lt
  have LB4 := Lib.hid (LB3.out.alloc LB3.out.size (.cells #[.bool false, .int .i64 s3, .bool g3, .slice A3 n3 k3, .slice B3 m3 d3, .int .i64 s4, .bool g4, .slice A4 n4 k4, .slice B4 m4 d4] 48))
  have LR4 := Lib.hid (LR3.out.alloc (.cells #[.bool false, .int .i64 s3, .bool g3, .slice A3 n3 k3, .slice B3 m3 d3, .int .i64 s4, .bool g4, .slice A4 n4 k4, .slice B4 m4 d4] 48))
  have LG0_4 := Lib.hid (LG0_3.out.alloc (.cells #[.bool false, .int .i64 s3, .bool g3, .slice A3 n3 k3, .slice B3 m3 d3, .int .i64 s4, .bool g4, .slice A4 n4 k4, .slice B4 m4 d4] 48))
  have LG1_4 := Lib.hid (LG1_3.out.alloc (.cells #[.bool false, .int .i64 s3, .bool g3, .slice A3 n3 k3, .slice B3 m3 d3, .int .i64 s4, .bool g4, .slice A4 n4 k4, .slice B4 m4 d4] 48))
  have LG2_4 := Lib.hid (LG2_3.out.alloc (.cells #[.bool false, .int .i64 s3, .bool g3, .slice A3 n3 k3, .slice B3 m3 d3, .int .i64 s4, .bool g4, .slice A4 n4 k4, .slice B4 m4 d4] 48))
  have LG3_4 := Lib.hid (LG3_3.out.alloc (.cells #[.bool false, .int .i64 s3, .bool g3, .slice A3 n3 k3, .slice B3 m3 d3, .int .i64 s4, .bool g4, .slice A4 n4 k4, .slice B4 m4 d4] 48))
  have LG4_4 := Lib.hid (Blk.new w2 48 #[.bool false, .int .i64 s3, .bool g3, .slice A3 n3 k3, .slice B3 m3 d3, .int .i64 s4, .bool g4, .slice A4 n4 k4, .slice B4 m4 d4])
  clear LB3 LR3 LG0_3 LG1_3 LG2_3 LG3_3
  have H1 := Lib.hid (h1b.below (below_alloc w2 (.cells #[.bool false, .int .i64 s3, .bool g3, .slice A3 n3 k3, .slice B3 m3 d3, .int .i64 s4, .bool g4, .slice A4 n4 k4, .slice B4 m4 d4] 48)))
  have H2 := Lib.hid (h2b.below (below_alloc w2 (.cells #[.bool false, .int .i64 s3, .bool g3, .slice A3 n3 k3, .slice B3 m3 d3, .int .i64 s4, .bool g4, .slice A4 n4 k4, .slice B4 m4 d4] 48)))
  have H3 := Lib.hid (h3.below (below_alloc w2 (.cells #[.bool false, .int .i64 s3, .bool g3, .slice A3 n3 k3, .slice B3 m3 d3, .int .i64 s4, .bool g4, .slice A4 n4 k4, .slice B4 m4 d4] 48)))
  have H4 := Lib.hid (h4.below (below_alloc w2 (.cells #[.bool false, .int .i64 s3, .bool g3, .slice A3 n3 k3, .slice B3 m3 d3, .int .i64 s4, .bool g4, .slice A4 n4 k4, .slice B4 m4 d4] 48)))
  obtain ⟨V2, hV2⟩ : ∃ X, (w2.alloc (.cells #[.bool false, .int .i64 s3, .bool g3, .slice A3 n3 k3, .slice B3 m3 d3, .int .i64 s4, .bool g4, .slice A4 n4 k4, .slice B4 m4 d4] 48)) = X := ⟨_, rfl⟩
  have hlV2 : w2.heap.size < V2.heap.size := by rw [← hV2]; simp
  rw [hV2] at LB4 LR4 LG0_4 LG1_4 LG2_4 LG3_4 LG4_4 H1 H2 H3 H4 ⊢
  clear hV2 h1b h2b h3 h4
  have hlt9 : w1.heap.size < w2.heap.size := by omega
  have LV4 := Lib.hid (Below.refl V2.heap.size V2)
  have q3_0 : _ = some (.bool false : Value) := LG3_4.out.cell 0
  have q3_1 : _ = some (.int .i64 s1 : Value) := LG3_4.out.cell 1
  have q3_2 : _ = some (.bool g1 : Value) := LG3_4.out.cell 2
  have q3_3 : _ = some (.slice A1 n1 k1 : Value) := LG3_4.out.cell 3
  have q3_4 : _ = some (.slice B1 m1 d1 : Value) := LG3_4.out.cell 4
  have q3_5 : _ = some (.int .i64 s2 : Value) := LG3_4.out.cell 5
  have q3_6 : _ = some (.bool g2 : Value) := LG3_4.out.cell 6
  have q3_7 : _ = some (.slice A2 n2 k2 : Value) := LG3_4.out.cell 7
  have q3_8 : _ = some (.slice B2 m2 d2 : Value) := LG3_4.out.cell 8
  have q4_0 : _ = some (.bool false : Value) := LG4_4.out.cell 0
  have q4_1 : _ = some (.int .i64 s3 : Value) := LG4_4.out.cell 1
  have q4_2 : _ = some (.bool g3 : Value) := LG4_4.out.cell 2
  have q4_3 : _ = some (.slice A3 n3 k3 : Value) := LG4_4.out.cell 3
  have q4_4 : _ = some (.slice B3 m3 d3 : Value) := LG4_4.out.cell 4
  have q4_5 : _ = some (.int .i64 s4 : Value) := LG4_4.out.cell 5
  have q4_6 : _ = some (.bool g4 : Value) := LG4_4.out.cell 6
  have q4_7 : _ = some (.slice A4 n4 k4 : Value) := LG4_4.out.cell 7
  have q4_8 : _ = some (.slice B4 m4 d4 : Value) := LG4_4.out.cell 8
  have HT := Lib.hid (ecmp_any 34 s1 g1 A1 n1 k1 B1 m1 d1 x1 s4 g4 A4 n4 k4 B4 m4 d4 x4 _ (H1.out.below LV4.out) (H4.out.below LV4.out) (by omega))
  rw [R14.out] at HT
  go_wp2_with fail
  refine HT.out.mono ?_
  rintro e wc1 ⟨rfl, hbc1⟩
  have LB5 := Lib.hid (LB4.out.trans (hbc1.mono LB4.out.size))
  have LR5 := Lib.hid (LR4.out.keep hbc1)
  have LG0_5 := Lib.hid (LG0_4.out.keep hbc1)
  have LG1_5 := Lib.hid (LG1_4.out.keep hbc1)
  have LG2_5 := Lib.hid (LG2_4.out.keep hbc1)
  have LG3_5 := Lib.hid (LG3_4.out.keep hbc1)
  have LG4_5 := Lib.hid (LG4_4.out.keep hbc1)
  have LV5 := Lib.hid (LV4.out.trans (hbc1.mono LV4.out.size))
  clear LB4 LR4 LG0_4 LG1_4 LG2_4 LG3_4 LG4_4 LV4
  clear HT hbc1 q3_0 q3_1 q3_2 q3_3 q3_4 q3_5 q3_6 q3_7 q3_8 q4_0 q4_1 q4_2 q4_3 q4_4 q4_5 q4_6 q4_7 q4_8
  have q3_0 : _ = some (.bool false : Value) := LG3_5.out.cell 0
  have q3_1 : _ = some (.int .i64 s1 : Value) := LG3_5.out.cell 1
  have q3_2 : _ = some (.bool g1 : Value) := LG3_5.out.cell 2
  have q3_3 : _ = some (.slice A1 n1 k1 : Value) := LG3_5.out.cell 3
  have q3_4 : _ = some (.slice B1 m1 d1 : Value) := LG3_5.out.cell 4
  have q3_5 : _ = some (.int .i64 s2 : Value) := LG3_5.out.cell 5
  have q3_6 : _ = some (.bool g2 : Value) := LG3_5.out.cell 6
  have q3_7 : _ = some (.slice A2 n2 k2 : Value) := LG3_5.out.cell 7
  have q3_8 : _ = some (.slice B2 m2 d2 : Value) := LG3_5.out.cell 8
  have HT := Lib.hid (piece_some 34 s1 g1 A1 n1 k1 B1 m1 d1 x1 s2 g2 A2 n2 k2 B2 m2 d2 x2 _ (H1.out.below LV5.out) (H2.out.below LV5.out) (by omega) Z1.out Z2.out)
  obtain ⟨o5, eo5⟩ : ∃ s, decide (s1 ≠ 0) = s := ⟨_, rfl⟩
  obtain ⟨o6, eo6⟩ : ∃ s, decide (s2 ≠ 0) = s := ⟨_, rfl⟩
  rw [eo5, eo6] at HT
  have EO5 := Lib.hid eo5
  have EO6 := Lib.hid eo6
  clear eo5 eo6
  go_wp2_with fail
  refine HT.out.mono ?_
  rintro e w4 ⟨g5, A5, n5, k5, B5, m5, d5, g6, A6, n6, k6, B6, m6, d6, rfl, h5, h6, hb4⟩
  have LB6 := Lib.hid (LB5.out.trans (hb4.mono LB5.out.size))
  have LR6 := Lib.hid (LR5.out.keep hb4)
  have LG0_6 := Lib.hid (LG0_5.out.keep hb4)
  have LG1_6 := Lib.hid (LG1_5.out.keep hb4)
  have LG2_6 := Lib.hid (LG2_5.out.keep hb4)
  have LG3_6 := Lib.hid (LG3_5.out.keep hb4)
  have LG4_6 := Lib.hid (LG4_5.out.keep hb4)
  have LV6 := Lib.hid (LV5.out.trans (hb4.mono LV5.out.size))
  clear LB5 LR5 LG0_5 LG1_5 LG2_5 LG3_5 LG4_5 LV5
  clear HT hb4 q3_0 q3_1 q3_2 q3_3 q3_4 q3_5 q3_6 q3_7 q3_8
  have H5 := Lib.hid h5
  have H6 := Lib.hid h6
  clear h5 h6
  have LP6 := Lib.hid (Below.refl w4.heap.size w4)
  go_upto_region 8 with fail
  have hlp1 := LV6.out.size
  have hlt7 := LR6.out.lt
  have LB7 := Lib.hid (LB6.out.alloc LB6.out.size (.cells #[.bool false, .int .i64 s1, .bool g5, .slice A5 n5 k5, .slice B5 m5 d5, .int .i64 1, .bool o5, .int .i64 s2, .bool g6, .slice A6 n6 k6, .slice B6 m6 d6, .int .i64 1, .bool o6] 56))
  have LR7 := Lib.hid (LR6.out.alloc (.cells #[.bool false, .int .i64 s1, .bool g5, .slice A5 n5 k5, .slice B5 m5 d5, .int .i64 1, .bool o5, .int .i64 s2, .bool g6, .slice A6 n6 k6, .slice B6 m6 d6, .int .i64 1, .bool o6] 56))
  have LG0_7 := Lib.hid (LG0_6.out.alloc (.cells #[.bool false, .int .i64 s1, .bool g5, .slice A5 n5 k5, .slice B5 m5 d5, .int .i64 1, .bool o5, .int .i64 s2, .bool g6, .slice A6 n6 k6, .slice B6 m6 d6, .int .i64 1, .bool o6] 56))
  have LG1_7 := Lib.hid (LG1_6.out.alloc (.cells #[.bool false, .int .i64 s1, .bool g5, .slice A5 n5 k5, .slice B5 m5 d5, .int .i64 1, .bool o5, .int .i64 s2, .bool g6, .slice A6 n6 k6, .slice B6 m6 d6, .int .i64 1, .bool o6] 56))
  have LG2_7 := Lib.hid (LG2_6.out.alloc (.cells #[.bool false, .int .i64 s1, .bool g5, .slice A5 n5 k5, .slice B5 m5 d5, .int .i64 1, .bool o5, .int .i64 s2, .bool g6, .slice A6 n6 k6, .slice B6 m6 d6, .int .i64 1, .bool o6] 56))
  have LG3_7 := Lib.hid (LG3_6.out.alloc (.cells #[.bool false, .int .i64 s1, .bool g5, .slice A5 n5 k5, .slice B5 m5 d5, .int .i64 1, .bool o5, .int .i64 s2, .bool g6, .slice A6 n6 k6, .slice B6 m6 d6, .int .i64 1, .bool o6] 56))
  have LG4_7 := Lib.hid (LG4_6.out.alloc (.cells #[.bool false, .int .i64 s1, .bool g5, .slice A5 n5 k5, .slice B5 m5 d5, .int .i64 1, .bool o5, .int .i64 s2, .bool g6, .slice A6 n6 k6, .slice B6 m6 d6, .int .i64 1, .bool o6] 56))
  have LG5_7 := Lib.hid (Blk.new w4 56 #[.bool false, .int .i64 s1, .bool g5, .slice A5 n5 k5, .slice B5 m5 d5, .int .i64 1, .bool o5, .int .i64 s2, .bool g6, .slice A6 n6 k6, .slice B6 m6 d6, .int .i64 1, .bool o6])
  have LV7 := Lib.hid (LV6.out.alloc LV6.out.size (.cells #[.bool false, .int .i64 s1, .bool g5, .slice A5 n5 k5, .slice B5 m5 d5, .int .i64 1, .bool o5, .int .i64 s2, .bool g6, .slice A6 n6 k6, .slice B6 m6 d6, .int .i64 1, .bool o6] 56))
  have LP7 := Lib.hid (LP6.out.alloc LP6.out.size (.cells #[.bool false, .int .i64 s1, .bool g5, .slice A5 n5 k5, .slice B5 m5 d5, .int .i64 1, .bool o5, .int .i64 s2, .bool g6, .slice A6 n6 k6, .slice B6 m6 d6, .int .i64 1, .bool o6] 56))
  clear LB6 LR6 LG0_6 LG1_6 LG2_6 LG3_6 LG4_6 LV6 LP6
  obtain ⟨V4, hV4⟩ : ∃ X, (w4.alloc (.cells #[.bool false, .int .i64 s1, .bool g5, .slice A5 n5 k5, .slice B5 m5 d5, .int .i64 1, .bool o5, .int .i64 s2, .bool g6, .slice A6 n6 k6, .slice B6 m6 d6, .int .i64 1, .bool o6] 56)) = X := ⟨_, rfl⟩
  rw [hV4] at LB7 LR7 LG0_7 LG1_7 LG2_7 LG3_7 LG4_7 LG5_7 LV7 LP7 ⊢
  clear hV4
  have q3_0 : _ = some (.bool false : Value) := LG3_7.out.cell 0
  have q3_1 : _ = some (.int .i64 s1 : Value) := LG3_7.out.cell 1
  have q3_2 : _ = some (.bool g1 : Value) := LG3_7.out.cell 2
  have q3_3 : _ = some (.slice A1 n1 k1 : Value) := LG3_7.out.cell 3
  have q3_4 : _ = some (.slice B1 m1 d1 : Value) := LG3_7.out.cell 4
  have q3_5 : _ = some (.int .i64 s2 : Value) := LG3_7.out.cell 5
  have q3_6 : _ = some (.bool g2 : Value) := LG3_7.out.cell 6
  have q3_7 : _ = some (.slice A2 n2 k2 : Value) := LG3_7.out.cell 7
  have q3_8 : _ = some (.slice B2 m2 d2 : Value) := LG3_7.out.cell 8
  have q4_0 : _ = some (.bool false : Value) := LG4_7.out.cell 0
  have q4_1 : _ = some (.int .i64 s3 : Value) := LG4_7.out.cell 1
  have q4_2 : _ = some (.bool g3 : Value) := LG4_7.out.cell 2
  have q4_3 : _ = some (.slice A3 n3 k3 : Value) := LG4_7.out.cell 3
  have q4_4 : _ = some (.slice B3 m3 d3 : Value) := LG4_7.out.cell 4
  have q4_5 : _ = some (.int .i64 s4 : Value) := LG4_7.out.cell 5
  have q4_6 : _ = some (.bool g4 : Value) := LG4_7.out.cell 6
  have q4_7 : _ = some (.slice A4 n4 k4 : Value) := LG4_7.out.cell 7
  have q4_8 : _ = some (.slice B4 m4 d4 : Value) := LG4_7.out.cell 8
  have HT := Lib.hid (ecmp_any 34 s4 g4 A4 n4 k4 B4 m4 d4 x4 s2 g2 A2 n2 k2 B2 m2 d2 x2 _ (H4.out.below LV7.out) (H2.out.below LV7.out) (by omega))
  rw [R42.out] at HT
  go_wp2_with fail
  refine HT.out.mono ?_
  rintro e wc2 ⟨rfl, hbc2⟩
  have LB8 := Lib.hid (LB7.out.trans (hbc2.mono LB7.out.size))
  have LR8 := Lib.hid (LR7.out.keep hbc2)
  have LG0_8 := Lib.hid (LG0_7.out.keep hbc2)
  have LG1_8 := Lib.hid (LG1_7.out.keep hbc2)
  have LG2_8 := Lib.hid (LG2_7.out.keep hbc2)
  have LG3_8 := Lib.hid (LG3_7.out.keep hbc2)
  have LG4_8 := Lib.hid (LG4_7.out.keep hbc2)
  have LG5_8 := Lib.hid (LG5_7.out.keep hbc2)
  have LV8 := Lib.hid (LV7.out.trans (hbc2.mono LV7.out.size))
  have LP8 := Lib.hid (LP7.out.trans (hbc2.mono LP7.out.size))
  clear LB7 LR7 LG0_7 LG1_7 LG2_7 LG3_7 LG4_7 LG5_7 LV7 LP7
  clear HT hbc2 q3_0 q3_1 q3_2 q3_3 q3_4 q3_5 q3_6 q3_7 q3_8 q4_0 q4_1 q4_2 q4_3 q4_4 q4_5 q4_6 q4_7 q4_8
  have hbd := HBD.out
  have hqq := HQQ.out
  have hM : M = 9218868437227405312 := rfl
  have PC1 := Lib.hid (show PcVal wc2 i1 i2 [.bool false, .int .i64 s1, .bool g5, .slice A5 n5 k5, .slice B5 m5 d5, .int .i64 1, .bool o5, .int .i64 s2, .bool g6, .slice A6 n6 k6, .slice B6 m6 d6, .int .i64 1, .bool o6] from ⟨by omega, by omega, by omega, by omega, by omega, g5, A5, n5, k5, B5, m5, d5, g6, A6, n6, k6, B6, m6, d6, by rw [ES1.out, EO5.out, ES2.out, EO6.out], by rw [EX1.out]; exact H5.out.below LP8.out, by rw [EX2.out]; exact (H6.out.below LP8.out)⟩)
  clear hbd hqq hM
  have KB := Lib.hid LB8.out
  have KR := Lib.hid LR8.out
  have KX := Lib.hid LG2_8.out
  have hcs := LB8.out.size
  have hcs2 := LV8.out.size
  clear LP8
  have LA8 := Lib.hid (Below.refl wc2.heap.size wc2)
  have q5_0 : _ = some (.bool false : Value) := LG5_8.out.cell 0
  have q5_1 : _ = some (.int .i64 s1 : Value) := LG5_8.out.cell 1
  have q5_2 : _ = some (.bool g5 : Value) := LG5_8.out.cell 2
  have q5_3 : _ = some (.slice A5 n5 k5 : Value) := LG5_8.out.cell 3
  have q5_4 : _ = some (.slice B5 m5 d5 : Value) := LG5_8.out.cell 4
  have q5_5 : _ = some (.int .i64 1 : Value) := LG5_8.out.cell 5
  have q5_6 : _ = some (.bool o5 : Value) := LG5_8.out.cell 6
  have q5_7 : _ = some (.int .i64 s2 : Value) := LG5_8.out.cell 7
  have q5_8 : _ = some (.bool g6 : Value) := LG5_8.out.cell 8
  have q5_9 : _ = some (.slice A6 n6 k6 : Value) := LG5_8.out.cell 9
  have q5_10 : _ = some (.slice B6 m6 d6 : Value) := LG5_8.out.cell 10
  have q5_11 : _ = some (.int .i64 1 : Value) := LG5_8.out.cell 11
  have q5_12 : _ = some (.bool o6 : Value) := LG5_8.out.cell 12
  go_wp2_with (at_builtin; refine wpList_append_pc1 _ rfl _ _ rfl wc2.heap.size rfl ⟨wc2.heap.size, 0, none⟩ 1 [.bool false, .int .i64 s1, .bool g5, .slice A5 n5 k5, .slice B5 m5 d5, .int .i64 1, .bool o5, .int .i64 s2, .bool g6, .slice A6 n6 k6, .slice B6 m6 d6, .int .i64 1, .bool o6] rfl rfl ?c1 ?c2 rfl ?c3 ?_)
  case c1 => exact fun j u hu => lit_cells wc2 _ _ j u hu
  case c2 => intro u hu; exact List.all_eq_true.1 (show List.all [.bool false, .int .i64 s1, .bool g5, .slice A5 n5 k5, .slice B5 m5 d5, .int .i64 1, .bool o5, .int .i64 s2, .bool g6, .slice A6 n6 k6, .slice B6 m6 d6, .int .i64 1, .bool o6] Value.oneCell' = true from rfl) u hu
  case c3 => simp
  rintro v' w6 ⟨gr, cap, cs, rfl, hown, hg1, hg2, hgb, hnw, hbw⟩
  have hb6 : Below wc2.heap.size wc2 w6 := (below_alloc wc2 _).trans (hbw.mono (by simp))
  have OWN := Lib.hid hown
  have GB := Lib.hid hgb
  have NW := Lib.hid hnw
  have LB9 := Lib.hid (LB8.out.trans (hb6.mono LB8.out.size))
  have LR9 := Lib.hid (LR8.out.keep hb6)
  have LG0_9 := Lib.hid (LG0_8.out.keep hb6)
  have LG1_9 := Lib.hid (LG1_8.out.keep hb6)
  have LG2_9 := Lib.hid (LG2_8.out.keep hb6)
  have LG3_9 := Lib.hid (LG3_8.out.keep hb6)
  have LG4_9 := Lib.hid (LG4_8.out.keep hb6)
  have LG5_9 := Lib.hid (LG5_8.out.keep hb6)
  have LV9 := Lib.hid (LV8.out.trans (hb6.mono LV8.out.size))
  have LA9 := Lib.hid (LA8.out.trans (hb6.mono LA8.out.size))
  clear LB8 LR8 LG0_8 LG1_8 LG2_8 LG3_8 LG4_8 LG5_8 LV8 LA8
  clear hown hgb hnw hbw hb6 hg2 q5_0 q5_1 q5_2 q5_3 q5_4 q5_5 q5_6 q5_7 q5_8 q5_9 q5_10 q5_11 q5_12
  have LW9 := Lib.hid (Below.refl w6.heap.size w6)
  have q3_0 : _ = some (.bool false : Value) := LG3_9.out.cell 0
  have q3_1 : _ = some (.int .i64 s1 : Value) := LG3_9.out.cell 1
  have q3_2 : _ = some (.bool g1 : Value) := LG3_9.out.cell 2
  have q3_3 : _ = some (.slice A1 n1 k1 : Value) := LG3_9.out.cell 3
  have q3_4 : _ = some (.slice B1 m1 d1 : Value) := LG3_9.out.cell 4
  have q3_5 : _ = some (.int .i64 s2 : Value) := LG3_9.out.cell 5
  have q3_6 : _ = some (.bool g2 : Value) := LG3_9.out.cell 6
  have q3_7 : _ = some (.slice A2 n2 k2 : Value) := LG3_9.out.cell 7
  have q3_8 : _ = some (.slice B2 m2 d2 : Value) := LG3_9.out.cell 8
  have q4_0 : _ = some (.bool false : Value) := LG4_9.out.cell 0
  have q4_1 : _ = some (.int .i64 s3 : Value) := LG4_9.out.cell 1
  have q4_2 : _ = some (.bool g3 : Value) := LG4_9.out.cell 2
  have q4_3 : _ = some (.slice A3 n3 k3 : Value) := LG4_9.out.cell 3
  have q4_4 : _ = some (.slice B3 m3 d3 : Value) := LG4_9.out.cell 4
  have q4_5 : _ = some (.int .i64 s4 : Value) := LG4_9.out.cell 5
  have q4_6 : _ = some (.bool g4 : Value) := LG4_9.out.cell 6
  have q4_7 : _ = some (.slice A4 n4 k4 : Value) := LG4_9.out.cell 7
  have q4_8 : _ = some (.slice B4 m4 d4 : Value) := LG4_9.out.cell 8
  have HT := Lib.hid (ecmp_any 34 s1 g1 A1 n1 k1 B1 m1 d1 x1 s4 g4 A4 n4 k4 B4 m4 d4 x4 _ (H1.out.below LV9.out) (H4.out.below LV9.out) (by omega))
  rw [R14.out] at HT
  go_wp2_with fail
  refine HT.out.mono ?_
  rintro e wc3 ⟨rfl, hbc3⟩
  have LB10 := Lib.hid (LB9.out.trans (hbc3.mono LB9.out.size))
  have LR10 := Lib.hid (LR9.out.keep hbc3)
  have LG0_10 := Lib.hid (LG0_9.out.keep hbc3)
  have LG1_10 := Lib.hid (LG1_9.out.keep hbc3)
  have LG2_10 := Lib.hid (LG2_9.out.keep hbc3)
  have LG3_10 := Lib.hid (LG3_9.out.keep hbc3)
  have LG4_10 := Lib.hid (LG4_9.out.keep hbc3)
  have LG5_10 := Lib.hid (LG5_9.out.keep hbc3)
  have LV10 := Lib.hid (LV9.out.trans (hbc3.mono LV9.out.size))
  have LA10 := Lib.hid (LA9.out.trans (hbc3.mono LA9.out.size))
  have LW10 := Lib.hid (LW9.out.trans (hbc3.mono LW9.out.size))
  clear LB9 LR9 LG0_9 LG1_9 LG2_9 LG3_9 LG4_9 LG5_9 LV9 LA9 LW9
  clear HT hbc3 q3_0 q3_1 q3_2 q3_3 q3_4 q3_5 q3_6 q3_7 q3_8 q4_0 q4_1 q4_2 q4_3 q4_4 q4_5 q4_6 q4_7 q4_8
  have q3_0 : _ = some (.bool false : Value) := LG3_10.out.cell 0
  have q3_1 : _ = some (.int .i64 s1 : Value) := LG3_10.out.cell 1
  have q3_2 : _ = some (.bool g1 : Value) := LG3_10.out.cell 2
  have q3_3 : _ = some (.slice A1 n1 k1 : Value) := LG3_10.out.cell 3
  have q3_4 : _ = some (.slice B1 m1 d1 : Value) := LG3_10.out.cell 4
  have q3_5 : _ = some (.int .i64 s2 : Value) := LG3_10.out.cell 5
  have q3_6 : _ = some (.bool g2 : Value) := LG3_10.out.cell 6
  have q3_7 : _ = some (.slice A2 n2 k2 : Value) := LG3_10.out.cell 7
  have q3_8 : _ = some (.slice B2 m2 d2 : Value) := LG3_10.out.cell 8
  have q4_0 : _ = some (.bool false : Value) := LG4_10.out.cell 0
  have q4_1 : _ = some (.int .i64 s3 : Value) := LG4_10.out.cell 1
  have q4_2 : _ = some (.bool g3 : Value) := LG4_10.out.cell 2
  have q4_3 : _ = some (.slice A3 n3 k3 : Value) := LG4_10.out.cell 3
  have q4_4 : _ = some (.slice B3 m3 d3 : Value) := LG4_10.out.cell 4
  have q4_5 : _ = some (.int .i64 s4 : Value) := LG4_10.out.cell 5
  have q4_6 : _ = some (.bool g4 : Value) := LG4_10.out.cell 6
  have q4_7 : _ = some (.slice A4 n4 k4 : Value) := LG4_10.out.cell 7
  have q4_8 : _ = some (.slice B4 m4 d4 : Value) := LG4_10.out.cell 8
  have HT := Lib.hid (ecmp_any 34 s3 g3 A3 n3 k3 B3 m3 d3 x3 s2 g2 A2 n2 k2 B2 m2 d2 x2 _ (H3.out.below LV10.out) (H2.out.below LV10.out) (by omega))
  rw [R32.out] at HT
  go_wp2_with fail
  refine HT.out.mono ?_
  rintro e wc4 ⟨rfl, hbc4⟩
  have LB11 := Lib.hid (LB10.out.trans (hbc4.mono LB10.out.size))
  have LR11 := Lib.hid (LR10.out.keep hbc4)
  have LG0_11 := Lib.hid (LG0_10.out.keep hbc4)
  have LG1_11 := Lib.hid (LG1_10.out.keep hbc4)
  have LG2_11 := Lib.hid (LG2_10.out.keep hbc4)
  have LG3_11 := Lib.hid (LG3_10.out.keep hbc4)
  have LG4_11 := Lib.hid (LG4_10.out.keep hbc4)
  have LG5_11 := Lib.hid (LG5_10.out.keep hbc4)
  have LV11 := Lib.hid (LV10.out.trans (hbc4.mono LV10.out.size))
  have LA11 := Lib.hid (LA10.out.trans (hbc4.mono LA10.out.size))
  have LW11 := Lib.hid (LW10.out.trans (hbc4.mono LW10.out.size))
  clear LB10 LR10 LG0_10 LG1_10 LG2_10 LG3_10 LG4_10 LG5_10 LV10 LA10 LW10
  clear HT hbc4 q3_0 q3_1 q3_2 q3_3 q3_4 q3_5 q3_6 q3_7 q3_8 q4_0 q4_1 q4_2 q4_3 q4_4 q4_5 q4_6 q4_7 q4_8
  have q2_0 : _ = some (.int .u64 (x : Int) : Value) := LG2_11.out.cell 0
  have q2_1 : _ = some (.int .u64 (y : Int) : Value) := LG2_11.out.cell 1
  have hcap := (OWN.out.keep LW11.out).capOk (by omega)
  have HT := Lib.hid (HALL.out ⟨gr, 0, none⟩ 1 cap _ (by omega) hcap (fun k hk => by
    obtain rfl : k = 0 := by omega
    rw [D1.out]
    exact pcAt_of (OWN.out.keep LW11.out) (by omega) (fun j hj => by rw [Nat.zero_mul, Nat.zero_add]) (PC1.out.below LA11.out)))
  rw [HPP.out] at HT
  clear hcap
  go_wp2_with fail
  refine HT.out.mono ?_
  rintro e w9 ⟨rfl, hb9⟩
  have LB12 := Lib.hid (LB11.out.trans (hb9.mono LB11.out.size))
  have LR12 := Lib.hid (LR11.out.keep hb9)
  have LG0_12 := Lib.hid (LG0_11.out.keep hb9)
  have LG1_12 := Lib.hid (LG1_11.out.keep hb9)
  have LG2_12 := Lib.hid (LG2_11.out.keep hb9)
  have LG3_12 := Lib.hid (LG3_11.out.keep hb9)
  have LG4_12 := Lib.hid (LG4_11.out.keep hb9)
  have LG5_12 := Lib.hid (LG5_11.out.keep hb9)
  have LV12 := Lib.hid (LV11.out.trans (hb9.mono LV11.out.size))
  have LA12 := Lib.hid (LA11.out.trans (hb9.mono LA11.out.size))
  have LW12 := Lib.hid (LW11.out.trans (hb9.mono LW11.out.size))
  clear LB11 LR11 LG0_11 LG1_11 LG2_11 LG3_11 LG4_11 LG5_11 LV11 LA11 LW11
  clear HT hb9 q2_0 q2_1
  have ha0 := LR12.out.someCell 0 (by decide)
  have hf0 := LR12.out.frozen 0
  have ha1 := LR12.out.someCell 1 (by decide)
  have hf1 := LR12.out.frozen 1
  have hk0 := LR12.out.setCell [.int .u64 (pat PP.1 : Int), .int .u64 (pat PP.2 : Int)] rfl 0 (by decide)
  have hk1 := LR12.out.setCell [.int .u64 (pat PP.1 : Int), .int .u64 (pat PP.2 : Int)] rfl 1 (by decide)
  have F := Lib.hid (below_sets (w0 := w) (r := (w.heap.size + 3)) (by omega) [.int .u64 (pat PP.1 : Int), .int .u64 (pat PP.2 : Int)] 0 _ LB12.out)
  simp [sets] at hk0 hk1
  go_wp2
  refine bodyPost_ret (v := .agg #[.int .u64 (pat PP.1 : Int), .int .u64 (pat PP.2 : Int)]) (by simp [results, Try.results7, go_sem, hk0, hk1]) rfl ?_
  exact ⟨rfl, F.out⟩

set_option maxRecDepth 2000 in
set_option maxHeartbeats 12800000 in
theorem mr_1r (b1 b2 c1 c2 x y : Nat) (i1 i2 i3 i4 : Int) (w : World) (hb1 : b1 < 18446744073709551616) (hb2 : b2 < 18446744073709551616) (hc1 : c1 < 18446744073709551616) (hc2 : c2 < 18446744073709551616) (hx : x < 18446744073709551616) (hy : y < 18446744073709551616) (hcc : snd c1 c2 = true) (hbb : snd b1 b2 = true) (e1 : idx c1 = i1) (e2 : idx c2 = i2) (e3 : idx b1 = i3) (e4 : idx b2 = i4) (q0 : i1 ≤ i4) (q1 : i4 < i2) (q2 : i2 < i3) :
    Calls Try.prog 7 #[.agg #[.int .u64 (b1 : Int), .int .u64 (b2 : Int)], .agg #[.int .u64 (c1 : Int), .int .u64 (c2 : Int)], .agg #[.int .u64 (x : Int), .int .u64 (y : Int)]] w fun e w' => e = .returned (.agg #[.int .u64 (pat (zf (rd x y).1 (rd x y).2 (mrL i3 i4 i1 i2) 1).1 : Int), .int .u64 (pat (zf (rd x y).1 (rd x y).2 (mrL i3 i4 i1 i2) 1).2 : Int)]) ∧ Below w.heap.size w w' := by
  have hdc := of_decide_eq_true hcc
  have hdb := of_decide_eq_true hbb
  have a1 := idx_bounds hdc.1
  have a2 := idx_bounds hdc.2.1
  have a3 := idx_bounds hdb.1
  have a4 := idx_bounds hdb.2.1
  rw [e1] at a1; rw [e2] at a2; rw [e3] at a3; rw [e4] at a4
  have u1 := hdc.2.2; have u2 := hdb.2.2
  rw [e1, e2] at u1; rw [e3, e4] at u2
  have HC := Lib.hid fun W => of_full c1 c2 W hc1 hc2 hcc
  have HBB := Lib.hid fun W => of_full b1 b2 W hb1 hb2 hbb
  rw [e1, e2] at HC
  rw [e3, e4] at HBB
  have Q14 := ec_idx a1.1 a1.2 a4.1 a4.2
  have Q42 := ec_idx a4.1 a4.2 a2.1 a2.2
  have Q32 := ec_idx a3.1 a3.2 a2.1 a2.2
  have Q13 := ec_idx a1.1 a1.2 a3.1 a3.2
  unfold SameSign at Q14 Q42 Q32 Q13
  have z1 : es i1 ≠ 0 → ex i1 = 0 := ex_inf
  have z2 : es i2 ≠ 0 → ex i2 = 0 := ex_inf
  have z3 : es i3 ≠ 0 → ex i3 = 0 := ex_inf
  have z4 : es i4 ≠ 0 → ex i4 = 0 := ex_inf
  have D1 : mrL i3 i4 i1 i2 0 = (i1, i4) := by unfold mrL; rw [if_pos rfl, show min i2 i4 = i4 from by omega]
  obtain ⟨L, hL⟩ : ∃ L, mrL i3 i4 i1 i2 = L := ⟨_, rfl⟩
  rw [hL] at D1 ⊢
  clear hL
  have E1 := Lib.hid (rfl : es i1 = es i1)
  obtain ⟨s1, es1⟩ : ∃ s, es i1 = s := ⟨_, rfl⟩
  obtain ⟨x1, ex1⟩ : ∃ s, ex i1 = s := ⟨_, rfl⟩
  have ES1 := Lib.hid es1
  have EX1 := Lib.hid ex1
  rw [es1, ex1] at z1
  obtain ⟨s2, es2⟩ : ∃ s, es i2 = s := ⟨_, rfl⟩
  obtain ⟨x2, ex2⟩ : ∃ s, ex i2 = s := ⟨_, rfl⟩
  have ES2 := Lib.hid es2
  have EX2 := Lib.hid ex2
  rw [es2, ex2] at z2
  obtain ⟨s3, es3⟩ : ∃ s, es i3 = s := ⟨_, rfl⟩
  obtain ⟨x3, ex3⟩ : ∃ s, ex i3 = s := ⟨_, rfl⟩
  have ES3 := Lib.hid es3
  have EX3 := Lib.hid ex3
  rw [es3, ex3] at z3
  obtain ⟨s4, es4⟩ : ∃ s, es i4 = s := ⟨_, rfl⟩
  obtain ⟨x4, ex4⟩ : ∃ s, ex i4 = s := ⟨_, rfl⟩
  have ES4 := Lib.hid es4
  have EX4 := Lib.hid ex4
  rw [es4, ex4] at z4
  rw [es1, ex1, es2, ex2] at HC
  rw [es3, ex3, es4, ex4] at HBB
  rw [es1, ex1, es4, ex4] at Q14
  rw [es4, ex4, es2, ex2] at Q42
  rw [es3, ex3, es2, ex2] at Q32
  rw [es1, ex1, es3, ex3] at Q13
  obtain ⟨r14, er14⟩ : ∃ r, ec s1 x1 s4 x4 = r := ⟨_, rfl⟩
  obtain ⟨r42, er42⟩ : ∃ r, ec s4 x4 s2 x2 = r := ⟨_, rfl⟩
  obtain ⟨r32, er32⟩ : ∃ r, ec s3 x3 s2 x2 = r := ⟨_, rfl⟩
  obtain ⟨r13, er13⟩ : ∃ r, ec s1 x1 s3 x3 = r := ⟨_, rfl⟩
  rw [er14] at Q14; rw [er42] at Q42; rw [er32] at Q32; rw [er13] at Q13
  have R14 := Lib.hid er14
  have R42 := Lib.hid er42
  have R32 := Lib.hid er32
  have R13 := Lib.hid er13
  have c14 : r14 ≤ 0 := by omega
  have d14 : decide (r14 ≤ 0) = true := by simp; omega
  have c42 : r42 < 0 := by omega
  have c32 : decide (r32 ≤ 0) = false := by simp; omega
  have hM : M = 9218868437227405312 := rfl
  have HBD := Lib.hid (⟨a1, a2, a3, a4, u1, u2⟩ : _ ∧ _ ∧ _ ∧ _ ∧ _ ∧ _)
  have HQQ := Lib.hid (⟨q0, q1, q2, trivial⟩ : i1 ≤ i4 ∧ i4 < i2 ∧ i2 < i3 ∧ True)
  have Z1 := Lib.hid z1
  have Z2 := Lib.hid z2
  have Z3 := Lib.hid z3
  have Z4 := Lib.hid z4
  have D1 := Lib.hid D1
  have HALL := Lib.hid fun (ad : Addr) (n c : Nat) W (h1 : n ≤ 100) (h2 : n ≤ c) (h3 : ∀ k : Nat, k < n → PcAt W ad k (L k).1 (L k).2) => all_any x y ad n c L W hx hy h1 h2 h3
  obtain ⟨PP, hPP⟩ : ∃ P, zf (rd x y).1 (rd x y).2 L 1 = P := ⟨_, rfl⟩
  rw [hPP]
  have HPP := Lib.hid hPP
  clear hPP
  clear hdc hdb a1 a2 a3 a4 u1 u2 Q14 Q42 Q32 Q13 es1 es2 es3 es4 ex1 ex2 ex3 ex4 er14 er42 er32 er13 e1 e2 e3 e4 z1 z2 z3 z4 hM hcc hbb q0 q1 q2
  have LB0 := Lib.hid (show Below w.heap.size w ((((w.alloc (.cells #[.int .u64 (b1 : Int), .int .u64 (b2 : Int)] 24)).alloc (.cells #[.int .u64 (c1 : Int), .int .u64 (c2 : Int)] 24)).alloc (.cells #[.int .u64 (x : Int), .int .u64 (y : Int)] 24)).alloc (.cells #[.int .u64 0, .int .u64 0] 24)) from ((((below_alloc w _).alloc (by simp <;> omega) _).alloc (by simp <;> omega) _).alloc (by simp <;> omega) _))
  have LG0_0 := Lib.hid (((((Blk.at (W := w) (g := w.heap.size) (by simp <;> omega) 24 #[.int .u64 (b1 : Int), .int .u64 (b2 : Int)]).alloc (.cells #[.int .u64 (c1 : Int), .int .u64 (c2 : Int)] 24)).alloc (.cells #[.int .u64 (x : Int), .int .u64 (y : Int)] 24)).alloc (.cells #[.int .u64 0, .int .u64 0] 24)))
  have LG1_0 := Lib.hid ((((Blk.at (W := (w.alloc (.cells #[.int .u64 (b1 : Int), .int .u64 (b2 : Int)] 24))) (g := (w.heap.size + 1)) (by simp <;> omega) 24 #[.int .u64 (c1 : Int), .int .u64 (c2 : Int)]).alloc (.cells #[.int .u64 (x : Int), .int .u64 (y : Int)] 24)).alloc (.cells #[.int .u64 0, .int .u64 0] 24)))
  have LG2_0 := Lib.hid (((Blk.at (W := ((w.alloc (.cells #[.int .u64 (b1 : Int), .int .u64 (b2 : Int)] 24)).alloc (.cells #[.int .u64 (c1 : Int), .int .u64 (c2 : Int)] 24))) (g := (w.heap.size + 2)) (by simp <;> omega) 24 #[.int .u64 (x : Int), .int .u64 (y : Int)]).alloc (.cells #[.int .u64 0, .int .u64 0] 24)))
  have LR0 := Lib.hid (HasBlk.of (n := 2) (Blk.at (W := (((w.alloc (.cells #[.int .u64 (b1 : Int), .int .u64 (b2 : Int)] 24)).alloc (.cells #[.int .u64 (c1 : Int), .int .u64 (c2 : Int)] 24)).alloc (.cells #[.int .u64 (x : Int), .int .u64 (y : Int)] 24))) (g := (w.heap.size + 3)) (by simp <;> omega) 24 #[.int .u64 0, .int .u64 0]) rfl rfl)
  go_enter Try.func7, Try.ntmps7
  go_wp2_with fail
  refine (HC.out _).mono ?_
  rintro e w1 ⟨g1, A1, n1, k1, B1, m1, d1, g2, A2, n2, k2, B2, m2, d2, rfl, h1, h2, hbA⟩
  have LB1 := Lib.hid (LB0.out.trans (hbA.mono LB0.out.size))
  have LR1 := Lib.hid (LR0.out.keep hbA)
  have LG0_1 := Lib.hid (LG0_0.out.keep hbA)
  have LG1_1 := Lib.hid (LG1_0.out.keep hbA)
  have LG2_1 := Lib.hid (LG2_0.out.keep hbA)
  clear LB0 LR0 LG0_0 LG1_0 LG2_0
  go_upto_region 2 with fail
  have hlt2 := LR1.out.lt
  have LB2 := Lib.hid (LB1.out.alloc LB1.out.size (.cells #[.bool false, .int .i64 s1, .bool g1, .slice A1 n1 k1, .slice B1 m1 d1, .int .i64 s2, .bool g2, .slice A2 n2 k2, .slice B2 m2 d2] 48))
  have LR2 := Lib.hid (LR1.out.alloc (.cells #[.bool false, .int .i64 s1, .bool g1, .slice A1 n1 k1, .slice B1 m1 d1, .int .i64 s2, .bool g2, .slice A2 n2 k2, .slice B2 m2 d2] 48))
  have LG0_2 := Lib.hid (LG0_1.out.alloc (.cells #[.bool false, .int .i64 s1, .bool g1, .slice A1 n1 k1, .slice B1 m1 d1, .int .i64 s2, .bool g2, .slice A2 n2 k2, .slice B2 m2 d2] 48))
  have LG1_2 := Lib.hid (LG1_1.out.alloc (.cells #[.bool false, .int .i64 s1, .bool g1, .slice A1 n1 k1, .slice B1 m1 d1, .int .i64 s2, .bool g2, .slice A2 n2 k2, .slice B2 m2 d2] 48))
  have LG2_2 := Lib.hid (LG2_1.out.alloc (.cells #[.bool false, .int .i64 s1, .bool g1, .slice A1 n1 k1, .slice B1 m1 d1, .int .i64 s2, .bool g2, .slice A2 n2 k2, .slice B2 m2 d2] 48))
  have LG3_2 := Lib.hid (Blk.new w1 48 #[.bool false, .int .i64 s1, .bool g1, .slice A1 n1 k1, .slice B1 m1 d1, .int .i64 s2, .bool g2, .slice A2 n2 k2, .slice B2 m2 d2])
  clear LB1 LR1 LG0_1 LG1_1 LG2_1
  have h1a := h1.below (below_alloc w1 (.cells #[.bool false, .int .i64 s1, .bool g1, .slice A1 n1 k1, .slice B1 m1 d1, .int .i64 s2, .bool g2, .slice A2 n2 k2, .slice B2 m2 d2] 48))
  have h2a := h2.below (below_alloc w1 (.cells #[.bool false, .int .i64 s1, .bool g1, .slice A1 n1 k1, .slice B1 m1 d1, .int .i64 s2, .bool g2, .slice A2 n2 k2, .slice B2 m2 d2] 48))
  obtain ⟨V1, hV1⟩ : ∃ X, (w1.alloc (.cells #[.bool false, .int .i64 s1, .bool g1, .slice A1 n1 k1, .slice B1 m1 d1, .int .i64 s2, .bool g2, .slice A2 n2 k2, .slice B2 m2 d2] 48)) = X := ⟨_, rfl⟩
  have hlV : w1.heap.size < V1.heap.size := by rw [← hV1]; simp
  rw [hV1] at LB2 LR2 LG0_2 LG1_2 LG2_2 LG3_2 h1a h2a ⊢
  clear hV1 h1 h2 hbA
  have q0_0 : _ = some (.int .u64 (b1 : Int) : Value) := LG0_2.out.cell 0
  have q0_1 : _ = some (.int .u64 (b2 : Int) : Value) := LG0_2.out.cell 1
  go_wp2_with fail
  refine (HBB.out _).mono ?_
  rintro e w2 ⟨g3, A3, n3, k3, B3, m3, d3, g4, A4, n4, k4, B4, m4, d4, rfl, h3, h4, hbB⟩
  have LB3 := Lib.hid (LB2.out.trans (hbB.mono LB2.out.size))
  have LR3 := Lib.hid (LR2.out.keep hbB)
  have LG0_3 := Lib.hid (LG0_2.out.keep hbB)
  have LG1_3 := Lib.hid (LG1_2.out.keep hbB)
  have LG2_3 := Lib.hid (LG2_2.out.keep hbB)
  have LG3_3 := Lib.hid (LG3_2.out.keep hbB)
  clear LB2 LR2 LG0_2 LG1_2 LG2_2 LG3_2
  have h1b := h1a.below hbB
  have h2b := h2a.below hbB
  have hlW := hbB.size
  clear h1a h2a hbB q0_0 q0_1
  go_upto_region 3 with fail
  have hlt4 := LR3.out.lt
  have LB4 := Lib.hid (LB3.out.alloc LB3.out.size (.cells #[.bool false, .int .i64 s3, .bool g3, .slice A3 n3 k3, .slice B3 m3 d3, .int .i64 s4, .bool g4, .slice A4 n4 k4, .slice B4 m4 d4] 48))
  have LR4 := Lib.hid (LR3.out.alloc (.cells #[.bool false, .int .i64 s3, .bool g3, .slice A3 n3 k3, .slice B3 m3 d3, .int .i64 s4, .bool g4, .slice A4 n4 k4, .slice B4 m4 d4] 48))
  have LG0_4 := Lib.hid (LG0_3.out.alloc (.cells #[.bool false, .int .i64 s3, .bool g3, .slice A3 n3 k3, .slice B3 m3 d3, .int .i64 s4, .bool g4, .slice A4 n4 k4, .slice B4 m4 d4] 48))
  have LG1_4 := Lib.hid (LG1_3.out.alloc (.cells #[.bool false, .int .i64 s3, .bool g3, .slice A3 n3 k3, .slice B3 m3 d3, .int .i64 s4, .bool g4, .slice A4 n4 k4, .slice B4 m4 d4] 48))
  have LG2_4 := Lib.hid (LG2_3.out.alloc (.cells #[.bool false, .int .i64 s3, .bool g3, .slice A3 n3 k3, .slice B3 m3 d3, .int .i64 s4, .bool g4, .slice A4 n4 k4, .slice B4 m4 d4] 48))
  have LG3_4 := Lib.hid (LG3_3.out.alloc (.cells #[.bool false, .int .i64 s3, .bool g3, .slice A3 n3 k3, .slice B3 m3 d3, .int .i64 s4, .bool g4, .slice A4 n4 k4, .slice B4 m4 d4] 48))
  have LG4_4 := Lib.hid (Blk.new w2 48 #[.bool false, .int .i64 s3, .bool g3, .slice A3 n3 k3, .slice B3 m3 d3, .int .i64 s4, .bool g4, .slice A4 n4 k4, .slice B4 m4 d4])
  clear LB3 LR3 LG0_3 LG1_3 LG2_3 LG3_3
  have H1 := Lib.hid (h1b.below (below_alloc w2 (.cells #[.bool false, .int .i64 s3, .bool g3, .slice A3 n3 k3, .slice B3 m3 d3, .int .i64 s4, .bool g4, .slice A4 n4 k4, .slice B4 m4 d4] 48)))
  have H2 := Lib.hid (h2b.below (below_alloc w2 (.cells #[.bool false, .int .i64 s3, .bool g3, .slice A3 n3 k3, .slice B3 m3 d3, .int .i64 s4, .bool g4, .slice A4 n4 k4, .slice B4 m4 d4] 48)))
  have H3 := Lib.hid (h3.below (below_alloc w2 (.cells #[.bool false, .int .i64 s3, .bool g3, .slice A3 n3 k3, .slice B3 m3 d3, .int .i64 s4, .bool g4, .slice A4 n4 k4, .slice B4 m4 d4] 48)))
  have H4 := Lib.hid (h4.below (below_alloc w2 (.cells #[.bool false, .int .i64 s3, .bool g3, .slice A3 n3 k3, .slice B3 m3 d3, .int .i64 s4, .bool g4, .slice A4 n4 k4, .slice B4 m4 d4] 48)))
  obtain ⟨V2, hV2⟩ : ∃ X, (w2.alloc (.cells #[.bool false, .int .i64 s3, .bool g3, .slice A3 n3 k3, .slice B3 m3 d3, .int .i64 s4, .bool g4, .slice A4 n4 k4, .slice B4 m4 d4] 48)) = X := ⟨_, rfl⟩
  have hlV2 : w2.heap.size < V2.heap.size := by rw [← hV2]; simp
  rw [hV2] at LB4 LR4 LG0_4 LG1_4 LG2_4 LG3_4 LG4_4 H1 H2 H3 H4 ⊢
  clear hV2 h1b h2b h3 h4
  have hlt9 : w1.heap.size < w2.heap.size := by omega
  have LV4 := Lib.hid (Below.refl V2.heap.size V2)
  have q3_0 : _ = some (.bool false : Value) := LG3_4.out.cell 0
  have q3_1 : _ = some (.int .i64 s1 : Value) := LG3_4.out.cell 1
  have q3_2 : _ = some (.bool g1 : Value) := LG3_4.out.cell 2
  have q3_3 : _ = some (.slice A1 n1 k1 : Value) := LG3_4.out.cell 3
  have q3_4 : _ = some (.slice B1 m1 d1 : Value) := LG3_4.out.cell 4
  have q3_5 : _ = some (.int .i64 s2 : Value) := LG3_4.out.cell 5
  have q3_6 : _ = some (.bool g2 : Value) := LG3_4.out.cell 6
  have q3_7 : _ = some (.slice A2 n2 k2 : Value) := LG3_4.out.cell 7
  have q3_8 : _ = some (.slice B2 m2 d2 : Value) := LG3_4.out.cell 8
  have q4_0 : _ = some (.bool false : Value) := LG4_4.out.cell 0
  have q4_1 : _ = some (.int .i64 s3 : Value) := LG4_4.out.cell 1
  have q4_2 : _ = some (.bool g3 : Value) := LG4_4.out.cell 2
  have q4_3 : _ = some (.slice A3 n3 k3 : Value) := LG4_4.out.cell 3
  have q4_4 : _ = some (.slice B3 m3 d3 : Value) := LG4_4.out.cell 4
  have q4_5 : _ = some (.int .i64 s4 : Value) := LG4_4.out.cell 5
  have q4_6 : _ = some (.bool g4 : Value) := LG4_4.out.cell 6
  have q4_7 : _ = some (.slice A4 n4 k4 : Value) := LG4_4.out.cell 7
  have q4_8 : _ = some (.slice B4 m4 d4 : Value) := LG4_4.out.cell 8
  have HT := Lib.hid (ecmp_any 34 s1 g1 A1 n1 k1 B1 m1 d1 x1 s4 g4 A4 n4 k4 B4 m4 d4 x4 _ (H1.out.below LV4.out) (H4.out.below LV4.out) (by omega))
  rw [R14.out] at HT
  go_wp2_with fail
  refine HT.out.mono ?_
  rintro e wc1 ⟨rfl, hbc1⟩
  have LB5 := Lib.hid (LB4.out.trans (hbc1.mono LB4.out.size))
  have LR5 := Lib.hid (LR4.out.keep hbc1)
  have LG0_5 := Lib.hid (LG0_4.out.keep hbc1)
  have LG1_5 := Lib.hid (LG1_4.out.keep hbc1)
  have LG2_5 := Lib.hid (LG2_4.out.keep hbc1)
  have LG3_5 := Lib.hid (LG3_4.out.keep hbc1)
  have LG4_5 := Lib.hid (LG4_4.out.keep hbc1)
  have LV5 := Lib.hid (LV4.out.trans (hbc1.mono LV4.out.size))
  clear LB4 LR4 LG0_4 LG1_4 LG2_4 LG3_4 LG4_4 LV4
  clear HT hbc1 q3_0 q3_1 q3_2 q3_3 q3_4 q3_5 q3_6 q3_7 q3_8 q4_0 q4_1 q4_2 q4_3 q4_4 q4_5 q4_6 q4_7 q4_8
  have q3_0 : _ = some (.bool false : Value) := LG3_5.out.cell 0
  have q3_1 : _ = some (.int .i64 s1 : Value) := LG3_5.out.cell 1
  have q3_2 : _ = some (.bool g1 : Value) := LG3_5.out.cell 2
  have q3_3 : _ = some (.slice A1 n1 k1 : Value) := LG3_5.out.cell 3
  have q3_4 : _ = some (.slice B1 m1 d1 : Value) := LG3_5.out.cell 4
  have q3_5 : _ = some (.int .i64 s2 : Value) := LG3_5.out.cell 5
  have q3_6 : _ = some (.bool g2 : Value) := LG3_5.out.cell 6
  have q3_7 : _ = some (.slice A2 n2 k2 : Value) := LG3_5.out.cell 7
  have q3_8 : _ = some (.slice B2 m2 d2 : Value) := LG3_5.out.cell 8
  have HT := Lib.hid (piece_some 34 s1 g1 A1 n1 k1 B1 m1 d1 x1 s2 g2 A2 n2 k2 B2 m2 d2 x2 _ (H1.out.below LV5.out) (H2.out.below LV5.out) (by omega) Z1.out Z2.out)
  obtain ⟨o5, eo5⟩ : ∃ s, decide (s1 ≠ 0) = s := ⟨_, rfl⟩
  obtain ⟨o6, eo6⟩ : ∃ s, decide (s2 ≠ 0) = s := ⟨_, rfl⟩
  rw [eo5, eo6] at HT
  have EO5 := Lib.hid eo5
  have EO6 := Lib.hid eo6
  clear eo5 eo6
  go_wp2_with fail
  refine HT.out.mono ?_
  rintro e w4 ⟨g5, A5, n5, k5, B5, m5, d5, g6, A6, n6, k6, B6, m6, d6, rfl, h5, h6, hb4⟩
  have LB6 := Lib.hid (LB5.out.trans (hb4.mono LB5.out.size))
  have LR6 := Lib.hid (LR5.out.keep hb4)
  have LG0_6 := Lib.hid (LG0_5.out.keep hb4)
  have LG1_6 := Lib.hid (LG1_5.out.keep hb4)
  have LG2_6 := Lib.hid (LG2_5.out.keep hb4)
  have LG3_6 := Lib.hid (LG3_5.out.keep hb4)
  have LG4_6 := Lib.hid (LG4_5.out.keep hb4)
  have LV6 := Lib.hid (LV5.out.trans (hb4.mono LV5.out.size))
  clear LB5 LR5 LG0_5 LG1_5 LG2_5 LG3_5 LG4_5 LV5
  clear HT hb4 q3_0 q3_1 q3_2 q3_3 q3_4 q3_5 q3_6 q3_7 q3_8
  have H5 := Lib.hid h5
  have H6 := Lib.hid h6
  clear h5 h6
  have LP6 := Lib.hid (Below.refl w4.heap.size w4)
  go_upto_region 8 with fail
  have hlp1 := LV6.out.size
  have hlt7 := LR6.out.lt
  have LB7 := Lib.hid (LB6.out.alloc LB6.out.size (.cells #[.bool false, .int .i64 s1, .bool g5, .slice A5 n5 k5, .slice B5 m5 d5, .int .i64 1, .bool o5, .int .i64 s2, .bool g6, .slice A6 n6 k6, .slice B6 m6 d6, .int .i64 1, .bool o6] 56))
  have LR7 := Lib.hid (LR6.out.alloc (.cells #[.bool false, .int .i64 s1, .bool g5, .slice A5 n5 k5, .slice B5 m5 d5, .int .i64 1, .bool o5, .int .i64 s2, .bool g6, .slice A6 n6 k6, .slice B6 m6 d6, .int .i64 1, .bool o6] 56))
  have LG0_7 := Lib.hid (LG0_6.out.alloc (.cells #[.bool false, .int .i64 s1, .bool g5, .slice A5 n5 k5, .slice B5 m5 d5, .int .i64 1, .bool o5, .int .i64 s2, .bool g6, .slice A6 n6 k6, .slice B6 m6 d6, .int .i64 1, .bool o6] 56))
  have LG1_7 := Lib.hid (LG1_6.out.alloc (.cells #[.bool false, .int .i64 s1, .bool g5, .slice A5 n5 k5, .slice B5 m5 d5, .int .i64 1, .bool o5, .int .i64 s2, .bool g6, .slice A6 n6 k6, .slice B6 m6 d6, .int .i64 1, .bool o6] 56))
  have LG2_7 := Lib.hid (LG2_6.out.alloc (.cells #[.bool false, .int .i64 s1, .bool g5, .slice A5 n5 k5, .slice B5 m5 d5, .int .i64 1, .bool o5, .int .i64 s2, .bool g6, .slice A6 n6 k6, .slice B6 m6 d6, .int .i64 1, .bool o6] 56))
  have LG3_7 := Lib.hid (LG3_6.out.alloc (.cells #[.bool false, .int .i64 s1, .bool g5, .slice A5 n5 k5, .slice B5 m5 d5, .int .i64 1, .bool o5, .int .i64 s2, .bool g6, .slice A6 n6 k6, .slice B6 m6 d6, .int .i64 1, .bool o6] 56))
  have LG4_7 := Lib.hid (LG4_6.out.alloc (.cells #[.bool false, .int .i64 s1, .bool g5, .slice A5 n5 k5, .slice B5 m5 d5, .int .i64 1, .bool o5, .int .i64 s2, .bool g6, .slice A6 n6 k6, .slice B6 m6 d6, .int .i64 1, .bool o6] 56))
  have LG5_7 := Lib.hid (Blk.new w4 56 #[.bool false, .int .i64 s1, .bool g5, .slice A5 n5 k5, .slice B5 m5 d5, .int .i64 1, .bool o5, .int .i64 s2, .bool g6, .slice A6 n6 k6, .slice B6 m6 d6, .int .i64 1, .bool o6])
  have LV7 := Lib.hid (LV6.out.alloc LV6.out.size (.cells #[.bool false, .int .i64 s1, .bool g5, .slice A5 n5 k5, .slice B5 m5 d5, .int .i64 1, .bool o5, .int .i64 s2, .bool g6, .slice A6 n6 k6, .slice B6 m6 d6, .int .i64 1, .bool o6] 56))
  have LP7 := Lib.hid (LP6.out.alloc LP6.out.size (.cells #[.bool false, .int .i64 s1, .bool g5, .slice A5 n5 k5, .slice B5 m5 d5, .int .i64 1, .bool o5, .int .i64 s2, .bool g6, .slice A6 n6 k6, .slice B6 m6 d6, .int .i64 1, .bool o6] 56))
  clear LB6 LR6 LG0_6 LG1_6 LG2_6 LG3_6 LG4_6 LV6 LP6
  obtain ⟨V4, hV4⟩ : ∃ X, (w4.alloc (.cells #[.bool false, .int .i64 s1, .bool g5, .slice A5 n5 k5, .slice B5 m5 d5, .int .i64 1, .bool o5, .int .i64 s2, .bool g6, .slice A6 n6 k6, .slice B6 m6 d6, .int .i64 1, .bool o6] 56)) = X := ⟨_, rfl⟩
  rw [hV4] at LB7 LR7 LG0_7 LG1_7 LG2_7 LG3_7 LG4_7 LG5_7 LV7 LP7 ⊢
  clear hV4
  have q3_0 : _ = some (.bool false : Value) := LG3_7.out.cell 0
  have q3_1 : _ = some (.int .i64 s1 : Value) := LG3_7.out.cell 1
  have q3_2 : _ = some (.bool g1 : Value) := LG3_7.out.cell 2
  have q3_3 : _ = some (.slice A1 n1 k1 : Value) := LG3_7.out.cell 3
  have q3_4 : _ = some (.slice B1 m1 d1 : Value) := LG3_7.out.cell 4
  have q3_5 : _ = some (.int .i64 s2 : Value) := LG3_7.out.cell 5
  have q3_6 : _ = some (.bool g2 : Value) := LG3_7.out.cell 6
  have q3_7 : _ = some (.slice A2 n2 k2 : Value) := LG3_7.out.cell 7
  have q3_8 : _ = some (.slice B2 m2 d2 : Value) := LG3_7.out.cell 8
  have q4_0 : _ = some (.bool false : Value) := LG4_7.out.cell 0
  have q4_1 : _ = some (.int .i64 s3 : Value) := LG4_7.out.cell 1
  have q4_2 : _ = some (.bool g3 : Value) := LG4_7.out.cell 2
  have q4_3 : _ = some (.slice A3 n3 k3 : Value) := LG4_7.out.cell 3
  have q4_4 : _ = some (.slice B3 m3 d3 : Value) := LG4_7.out.cell 4
  have q4_5 : _ = some (.int .i64 s4 : Value) := LG4_7.out.cell 5
  have q4_6 : _ = some (.bool g4 : Value) := LG4_7.out.cell 6
  have q4_7 : _ = some (.slice A4 n4 k4 : Value) := LG4_7.out.cell 7
  have q4_8 : _ = some (.slice B4 m4 d4 : Value) := LG4_7.out.cell 8
  have HT := Lib.hid (ecmp_any 34 s4 g4 A4 n4 k4 B4 m4 d4 x4 s2 g2 A2 n2 k2 B2 m2 d2 x2 _ (H4.out.below LV7.out) (H2.out.below LV7.out) (by omega))
  rw [R42.out] at HT
  go_wp2_with fail
  refine HT.out.mono ?_
  rintro e wc2 ⟨rfl, hbc2⟩
  have LB8 := Lib.hid (LB7.out.trans (hbc2.mono LB7.out.size))
  have LR8 := Lib.hid (LR7.out.keep hbc2)
  have LG0_8 := Lib.hid (LG0_7.out.keep hbc2)
  have LG1_8 := Lib.hid (LG1_7.out.keep hbc2)
  have LG2_8 := Lib.hid (LG2_7.out.keep hbc2)
  have LG3_8 := Lib.hid (LG3_7.out.keep hbc2)
  have LG4_8 := Lib.hid (LG4_7.out.keep hbc2)
  have LG5_8 := Lib.hid (LG5_7.out.keep hbc2)
  have LV8 := Lib.hid (LV7.out.trans (hbc2.mono LV7.out.size))
  have LP8 := Lib.hid (LP7.out.trans (hbc2.mono LP7.out.size))
  clear LB7 LR7 LG0_7 LG1_7 LG2_7 LG3_7 LG4_7 LG5_7 LV7 LP7
  clear HT hbc2 q3_0 q3_1 q3_2 q3_3 q3_4 q3_5 q3_6 q3_7 q3_8 q4_0 q4_1 q4_2 q4_3 q4_4 q4_5 q4_6 q4_7 q4_8
  have q3_0 : _ = some (.bool false : Value) := LG3_8.out.cell 0
  have q3_1 : _ = some (.int .i64 s1 : Value) := LG3_8.out.cell 1
  have q3_2 : _ = some (.bool g1 : Value) := LG3_8.out.cell 2
  have q3_3 : _ = some (.slice A1 n1 k1 : Value) := LG3_8.out.cell 3
  have q3_4 : _ = some (.slice B1 m1 d1 : Value) := LG3_8.out.cell 4
  have q3_5 : _ = some (.int .i64 s2 : Value) := LG3_8.out.cell 5
  have q3_6 : _ = some (.bool g2 : Value) := LG3_8.out.cell 6
  have q3_7 : _ = some (.slice A2 n2 k2 : Value) := LG3_8.out.cell 7
  have q3_8 : _ = some (.slice B2 m2 d2 : Value) := LG3_8.out.cell 8
  have q4_0 : _ = some (.bool false : Value) := LG4_8.out.cell 0
  have q4_1 : _ = some (.int .i64 s3 : Value) := LG4_8.out.cell 1
  have q4_2 : _ = some (.bool g3 : Value) := LG4_8.out.cell 2
  have q4_3 : _ = some (.slice A3 n3 k3 : Value) := LG4_8.out.cell 3
  have q4_4 : _ = some (.slice B3 m3 d3 : Value) := LG4_8.out.cell 4
  have q4_5 : _ = some (.int .i64 s4 : Value) := LG4_8.out.cell 5
  have q4_6 : _ = some (.bool g4 : Value) := LG4_8.out.cell 6
  have q4_7 : _ = some (.slice A4 n4 k4 : Value) := LG4_8.out.cell 7
  have q4_8 : _ = some (.slice B4 m4 d4 : Value) := LG4_8.out.cell 8
  have HT := Lib.hid (bound_end 34 s4 g4 A4 n4 k4 B4 m4 d4 x4 _ (H4.out.below LV8.out) (by omega) Z4.out)
  obtain ⟨o7, eo7⟩ : ∃ s, decide (s4 ≠ 0) = s := ⟨_, rfl⟩
  rw [eo7] at HT
  have EO7 := Lib.hid eo7
  clear eo7
  go_wp2_with fail
  refine HT.out.mono ?_
  rintro e wb7 ⟨g7, A7, n7, k7, B7, m7, d7, rfl, h7, hbb7⟩
  have LB9 := Lib.hid (LB8.out.trans (hbb7.mono LB8.out.size))
  have LR9 := Lib.hid (LR8.out.keep hbb7)
  have LG0_9 := Lib.hid (LG0_8.out.keep hbb7)
  have LG1_9 := Lib.hid (LG1_8.out.keep hbb7)
  have LG2_9 := Lib.hid (LG2_8.out.keep hbb7)
  have LG3_9 := Lib.hid (LG3_8.out.keep hbb7)
  have LG4_9 := Lib.hid (LG4_8.out.keep hbb7)
  have LG5_9 := Lib.hid (LG5_8.out.keep hbb7)
  have LV9 := Lib.hid (LV8.out.trans (hbb7.mono LV8.out.size))
  have LP9 := Lib.hid (LP8.out.trans (hbb7.mono LP8.out.size))
  clear LB8 LR8 LG0_8 LG1_8 LG2_8 LG3_8 LG4_8 LG5_8 LV8 LP8
  clear HT hbb7 q3_0 q3_1 q3_2 q3_3 q3_4 q3_5 q3_6 q3_7 q3_8 q4_0 q4_1 q4_2 q4_3 q4_4 q4_5 q4_6 q4_7 q4_8
  have q5_7 : _ = some (.int .i64 s2 : Value) := LG5_9.out.cell 7
  have q5_8 : _ = some (.bool g6 : Value) := LG5_9.out.cell 8
  have q5_9 : _ = some (.slice A6 n6 k6 : Value) := LG5_9.out.cell 9
  have q5_10 : _ = some (.slice B6 m6 d6 : Value) := LG5_9.out.cell 10
  have q5_11 : _ = some (.int .i64 1 : Value) := LG5_9.out.cell 11
  have q5_12 : _ = some (.bool o6 : Value) := LG5_9.out.cell 12
  have hf7 := LG5_9.out.frozen 7
  have hf8 := LG5_9.out.frozen 8
  have hf9 := LG5_9.out.frozen 9
  have hf10 := LG5_9.out.frozen 10
  have hf11 := LG5_9.out.frozen 11
  have hf12 := LG5_9.out.frozen 12
  go_upto_region 10 with fail
  clear q5_7 q5_8 q5_9 q5_10 q5_11 q5_12 hf7 hf8 hf9 hf10 hf11 hf12
  have h7s := h7.sets LG5_9.out (NoWd.of (by rw [← Array.all_toList]; rfl)) 7 [.int .i64 s4, .bool g7, .slice A7 n7 k7, .slice B7 m7 d7, .int .i64 1, .bool o7]
  have LB10 := Lib.hid (below_sets (w0 := w) (show w.heap.size ≤ w4.heap.size by omega) [.int .i64 s4, .bool g7, .slice A7 n7 k7, .slice B7 m7 d7, .int .i64 1, .bool o7] 7 wb7 LB9.out)
  have LR10 := Lib.hid (LR9.out.other (r := w4.heap.size) (by omega) 7 [.int .i64 s4, .bool g7, .slice A7 n7 k7, .slice B7 m7 d7, .int .i64 1, .bool o7])
  have LG0_10 := Lib.hid (LG0_9.out.other (r := w4.heap.size) (by omega) 7 [.int .i64 s4, .bool g7, .slice A7 n7 k7, .slice B7 m7 d7, .int .i64 1, .bool o7])
  have LG1_10 := Lib.hid (LG1_9.out.other (r := w4.heap.size) (by omega) 7 [.int .i64 s4, .bool g7, .slice A7 n7 k7, .slice B7 m7 d7, .int .i64 1, .bool o7])
  have LG2_10 := Lib.hid (LG2_9.out.other (r := w4.heap.size) (by omega) 7 [.int .i64 s4, .bool g7, .slice A7 n7 k7, .slice B7 m7 d7, .int .i64 1, .bool o7])
  have LG3_10 := Lib.hid (LG3_9.out.other (r := w4.heap.size) (by omega) 7 [.int .i64 s4, .bool g7, .slice A7 n7 k7, .slice B7 m7 d7, .int .i64 1, .bool o7])
  have LG4_10 := Lib.hid (LG4_9.out.other (r := w4.heap.size) (by omega) 7 [.int .i64 s4, .bool g7, .slice A7 n7 k7, .slice B7 m7 d7, .int .i64 1, .bool o7])
  have LG5_10 := Lib.hid (show Blk (sets wb7 w4.heap.size 7 [.int .i64 s4, .bool g7, .slice A7 n7 k7, .slice B7 m7 d7, .int .i64 1, .bool o7]) w4.heap.size 56 #[.bool false, .int .i64 s1, .bool g5, .slice A5 n5 k5, .slice B5 m5 d5, .int .i64 1, .bool o5, .int .i64 s4, .bool g7, .slice A7 n7 k7, .slice B7 m7 d7, .int .i64 1, .bool o7] from by have hbs := Blk.sets [.int .i64 s4, .bool g7, .slice A7 n7 k7, .slice B7 m7 d7, .int .i64 1, .bool o7] 7 wb7 _ LG5_9.out; simpa [laid] using hbs)
  have LV10 := Lib.hid (below_sets (w0 := V2) (show V2.heap.size ≤ w4.heap.size by omega) [.int .i64 s4, .bool g7, .slice A7 n7 k7, .slice B7 m7 d7, .int .i64 1, .bool o7] 7 wb7 LV9.out)
  have LP10 := Lib.hid (below_sets (w0 := w4) (show w4.heap.size ≤ w4.heap.size by omega) [.int .i64 s4, .bool g7, .slice A7 n7 k7, .slice B7 m7 d7, .int .i64 1, .bool o7] 7 wb7 LP9.out)
  clear LB9 LR9 LG0_9 LG1_9 LG2_9 LG3_9 LG4_9 LG5_9 LV9 LP9
  obtain ⟨V5, hV5⟩ : ∃ X, (sets wb7 w4.heap.size 7 [.int .i64 s4, .bool g7, .slice A7 n7 k7, .slice B7 m7 d7, .int .i64 1, .bool o7]) = X := ⟨_, rfl⟩
  rw [hV5] at LB10 LR10 LG0_10 LG1_10 LG2_10 LG3_10 LG4_10 LG5_10 LV10 LP10 h7s
  rw [show ((((((wb7.setCell ⟨w4.heap.size, 7, none⟩ (.int .i64 s4)).setCell ⟨w4.heap.size, 8, none⟩ (.bool g7)).setCell ⟨w4.heap.size, 9, none⟩ (.slice A7 n7 k7)).setCell ⟨w4.heap.size, 10, none⟩ (.slice B7 m7 d7)).setCell ⟨w4.heap.size, 11, none⟩ (.int .i64 1)).setCell ⟨w4.heap.size, 12, none⟩ (.bool o7)) = V5 from hV5]
  clear hV5 h7
  have H7 := Lib.hid h7s
  clear h7s
  have hbd := HBD.out
  have hqq := HQQ.out
  have hM : M = 9218868437227405312 := rfl
  have PC1 := Lib.hid (show PcVal V5 i1 i4 [.bool false, .int .i64 s1, .bool g5, .slice A5 n5 k5, .slice B5 m5 d5, .int .i64 1, .bool o5, .int .i64 s4, .bool g7, .slice A7 n7 k7, .slice B7 m7 d7, .int .i64 1, .bool o7] from ⟨by omega, by omega, by omega, by omega, by omega, g5, A5, n5, k5, B5, m5, d5, g7, A7, n7, k7, B7, m7, d7, by rw [ES1.out, EO5.out, ES4.out, EO7.out], by rw [EX1.out]; exact H5.out.below LP10.out, by rw [EX4.out]; exact H7.out⟩)
  clear hbd hqq hM
  have KB := Lib.hid LB10.out
  have KR := Lib.hid LR10.out
  have KX := Lib.hid LG2_10.out
  have hcs := LB10.out.size
  have hcs2 := LV10.out.size
  clear LP10
  have LA10 := Lib.hid (Below.refl V5.heap.size V5)
  have q5_0 : _ = some (.bool false : Value) := LG5_10.out.cell 0
  have q5_1 : _ = some (.int .i64 s1 : Value) := LG5_10.out.cell 1
  have q5_2 : _ = some (.bool g5 : Value) := LG5_10.out.cell 2
  have q5_3 : _ = some (.slice A5 n5 k5 : Value) := LG5_10.out.cell 3
  have q5_4 : _ = some (.slice B5 m5 d5 : Value) := LG5_10.out.cell 4
  have q5_5 : _ = some (.int .i64 1 : Value) := LG5_10.out.cell 5
  have q5_6 : _ = some (.bool o5 : Value) := LG5_10.out.cell 6
  have q5_7 : _ = some (.int .i64 s4 : Value) := LG5_10.out.cell 7
  have q5_8 : _ = some (.bool g7 : Value) := LG5_10.out.cell 8
  have q5_9 : _ = some (.slice A7 n7 k7 : Value) := LG5_10.out.cell 9
  have q5_10 : _ = some (.slice B7 m7 d7 : Value) := LG5_10.out.cell 10
  have q5_11 : _ = some (.int .i64 1 : Value) := LG5_10.out.cell 11
  have q5_12 : _ = some (.bool o7 : Value) := LG5_10.out.cell 12
  go_wp2_with (at_builtin; refine wpList_append_pc1 _ rfl _ _ rfl V5.heap.size rfl ⟨V5.heap.size, 0, none⟩ 1 [.bool false, .int .i64 s1, .bool g5, .slice A5 n5 k5, .slice B5 m5 d5, .int .i64 1, .bool o5, .int .i64 s4, .bool g7, .slice A7 n7 k7, .slice B7 m7 d7, .int .i64 1, .bool o7] rfl rfl ?c1 ?c2 rfl ?c3 ?_)
  case c1 => exact fun j u hu => lit_cells V5 _ _ j u hu
  case c2 => intro u hu; exact List.all_eq_true.1 (show List.all [.bool false, .int .i64 s1, .bool g5, .slice A5 n5 k5, .slice B5 m5 d5, .int .i64 1, .bool o5, .int .i64 s4, .bool g7, .slice A7 n7 k7, .slice B7 m7 d7, .int .i64 1, .bool o7] Value.oneCell' = true from rfl) u hu
  case c3 => simp
  rintro v' w6 ⟨gr, cap, cs, rfl, hown, hg1, hg2, hgb, hnw, hbw⟩
  have hb6 : Below V5.heap.size V5 w6 := (below_alloc V5 _).trans (hbw.mono (by simp))
  have OWN := Lib.hid hown
  have GB := Lib.hid hgb
  have NW := Lib.hid hnw
  have LB11 := Lib.hid (LB10.out.trans (hb6.mono LB10.out.size))
  have LR11 := Lib.hid (LR10.out.keep hb6)
  have LG0_11 := Lib.hid (LG0_10.out.keep hb6)
  have LG1_11 := Lib.hid (LG1_10.out.keep hb6)
  have LG2_11 := Lib.hid (LG2_10.out.keep hb6)
  have LG3_11 := Lib.hid (LG3_10.out.keep hb6)
  have LG4_11 := Lib.hid (LG4_10.out.keep hb6)
  have LG5_11 := Lib.hid (LG5_10.out.keep hb6)
  have LV11 := Lib.hid (LV10.out.trans (hb6.mono LV10.out.size))
  have LA11 := Lib.hid (LA10.out.trans (hb6.mono LA10.out.size))
  clear LB10 LR10 LG0_10 LG1_10 LG2_10 LG3_10 LG4_10 LG5_10 LV10 LA10
  clear hown hgb hnw hbw hb6 hg2 q5_0 q5_1 q5_2 q5_3 q5_4 q5_5 q5_6 q5_7 q5_8 q5_9 q5_10 q5_11 q5_12
  have LW11 := Lib.hid (Below.refl w6.heap.size w6)
  have q3_0 : _ = some (.bool false : Value) := LG3_11.out.cell 0
  have q3_1 : _ = some (.int .i64 s1 : Value) := LG3_11.out.cell 1
  have q3_2 : _ = some (.bool g1 : Value) := LG3_11.out.cell 2
  have q3_3 : _ = some (.slice A1 n1 k1 : Value) := LG3_11.out.cell 3
  have q3_4 : _ = some (.slice B1 m1 d1 : Value) := LG3_11.out.cell 4
  have q3_5 : _ = some (.int .i64 s2 : Value) := LG3_11.out.cell 5
  have q3_6 : _ = some (.bool g2 : Value) := LG3_11.out.cell 6
  have q3_7 : _ = some (.slice A2 n2 k2 : Value) := LG3_11.out.cell 7
  have q3_8 : _ = some (.slice B2 m2 d2 : Value) := LG3_11.out.cell 8
  have q4_0 : _ = some (.bool false : Value) := LG4_11.out.cell 0
  have q4_1 : _ = some (.int .i64 s3 : Value) := LG4_11.out.cell 1
  have q4_2 : _ = some (.bool g3 : Value) := LG4_11.out.cell 2
  have q4_3 : _ = some (.slice A3 n3 k3 : Value) := LG4_11.out.cell 3
  have q4_4 : _ = some (.slice B3 m3 d3 : Value) := LG4_11.out.cell 4
  have q4_5 : _ = some (.int .i64 s4 : Value) := LG4_11.out.cell 5
  have q4_6 : _ = some (.bool g4 : Value) := LG4_11.out.cell 6
  have q4_7 : _ = some (.slice A4 n4 k4 : Value) := LG4_11.out.cell 7
  have q4_8 : _ = some (.slice B4 m4 d4 : Value) := LG4_11.out.cell 8
  have HT := Lib.hid (ecmp_any 34 s1 g1 A1 n1 k1 B1 m1 d1 x1 s4 g4 A4 n4 k4 B4 m4 d4 x4 _ (H1.out.below LV11.out) (H4.out.below LV11.out) (by omega))
  rw [R14.out] at HT
  go_wp2_with fail
  refine HT.out.mono ?_
  rintro e wc3 ⟨rfl, hbc3⟩
  have LB12 := Lib.hid (LB11.out.trans (hbc3.mono LB11.out.size))
  have LR12 := Lib.hid (LR11.out.keep hbc3)
  have LG0_12 := Lib.hid (LG0_11.out.keep hbc3)
  have LG1_12 := Lib.hid (LG1_11.out.keep hbc3)
  have LG2_12 := Lib.hid (LG2_11.out.keep hbc3)
  have LG3_12 := Lib.hid (LG3_11.out.keep hbc3)
  have LG4_12 := Lib.hid (LG4_11.out.keep hbc3)
  have LG5_12 := Lib.hid (LG5_11.out.keep hbc3)
  have LV12 := Lib.hid (LV11.out.trans (hbc3.mono LV11.out.size))
  have LA12 := Lib.hid (LA11.out.trans (hbc3.mono LA11.out.size))
  have LW12 := Lib.hid (LW11.out.trans (hbc3.mono LW11.out.size))
  clear LB11 LR11 LG0_11 LG1_11 LG2_11 LG3_11 LG4_11 LG5_11 LV11 LA11 LW11
  clear HT hbc3 q3_0 q3_1 q3_2 q3_3 q3_4 q3_5 q3_6 q3_7 q3_8 q4_0 q4_1 q4_2 q4_3 q4_4 q4_5 q4_6 q4_7 q4_8
  have q3_0 : _ = some (.bool false : Value) := LG3_12.out.cell 0
  have q3_1 : _ = some (.int .i64 s1 : Value) := LG3_12.out.cell 1
  have q3_2 : _ = some (.bool g1 : Value) := LG3_12.out.cell 2
  have q3_3 : _ = some (.slice A1 n1 k1 : Value) := LG3_12.out.cell 3
  have q3_4 : _ = some (.slice B1 m1 d1 : Value) := LG3_12.out.cell 4
  have q3_5 : _ = some (.int .i64 s2 : Value) := LG3_12.out.cell 5
  have q3_6 : _ = some (.bool g2 : Value) := LG3_12.out.cell 6
  have q3_7 : _ = some (.slice A2 n2 k2 : Value) := LG3_12.out.cell 7
  have q3_8 : _ = some (.slice B2 m2 d2 : Value) := LG3_12.out.cell 8
  have q4_0 : _ = some (.bool false : Value) := LG4_12.out.cell 0
  have q4_1 : _ = some (.int .i64 s3 : Value) := LG4_12.out.cell 1
  have q4_2 : _ = some (.bool g3 : Value) := LG4_12.out.cell 2
  have q4_3 : _ = some (.slice A3 n3 k3 : Value) := LG4_12.out.cell 3
  have q4_4 : _ = some (.slice B3 m3 d3 : Value) := LG4_12.out.cell 4
  have q4_5 : _ = some (.int .i64 s4 : Value) := LG4_12.out.cell 5
  have q4_6 : _ = some (.bool g4 : Value) := LG4_12.out.cell 6
  have q4_7 : _ = some (.slice A4 n4 k4 : Value) := LG4_12.out.cell 7
  have q4_8 : _ = some (.slice B4 m4 d4 : Value) := LG4_12.out.cell 8
  have HT := Lib.hid (ecmp_any 34 s3 g3 A3 n3 k3 B3 m3 d3 x3 s2 g2 A2 n2 k2 B2 m2 d2 x2 _ (H3.out.below LV12.out) (H2.out.below LV12.out) (by omega))
  rw [R32.out] at HT
  go_wp2_with fail
  refine HT.out.mono ?_
  rintro e wc4 ⟨rfl, hbc4⟩
  have LB13 := Lib.hid (LB12.out.trans (hbc4.mono LB12.out.size))
  have LR13 := Lib.hid (LR12.out.keep hbc4)
  have LG0_13 := Lib.hid (LG0_12.out.keep hbc4)
  have LG1_13 := Lib.hid (LG1_12.out.keep hbc4)
  have LG2_13 := Lib.hid (LG2_12.out.keep hbc4)
  have LG3_13 := Lib.hid (LG3_12.out.keep hbc4)
  have LG4_13 := Lib.hid (LG4_12.out.keep hbc4)
  have LG5_13 := Lib.hid (LG5_12.out.keep hbc4)
  have LV13 := Lib.hid (LV12.out.trans (hbc4.mono LV12.out.size))
  have LA13 := Lib.hid (LA12.out.trans (hbc4.mono LA12.out.size))
  have LW13 := Lib.hid (LW12.out.trans (hbc4.mono LW12.out.size))
  clear LB12 LR12 LG0_12 LG1_12 LG2_12 LG3_12 LG4_12 LG5_12 LV12 LA12 LW12
  clear HT hbc4 q3_0 q3_1 q3_2 q3_3 q3_4 q3_5 q3_6 q3_7 q3_8 q4_0 q4_1 q4_2 q4_3 q4_4 q4_5 q4_6 q4_7 q4_8
  have q2_0 : _ = some (.int .u64 (x : Int) : Value) := LG2_13.out.cell 0
  have q2_1 : _ = some (.int .u64 (y : Int) : Value) := LG2_13.out.cell 1
  have hcap := (OWN.out.keep LW13.out).capOk (by omega)
  have HT := Lib.hid (HALL.out ⟨gr, 0, none⟩ 1 cap _ (by omega) hcap (fun k hk => by
    obtain rfl : k = 0 := by omega
    rw [D1.out]
    exact pcAt_of (OWN.out.keep LW13.out) (by omega) (fun j hj => by rw [Nat.zero_mul, Nat.zero_add]) (PC1.out.below LA13.out)))
  rw [HPP.out] at HT
  clear hcap
  go_wp2_with fail
  refine HT.out.mono ?_
  rintro e w9 ⟨rfl, hb9⟩
  have LB14 := Lib.hid (LB13.out.trans (hb9.mono LB13.out.size))
  have LR14 := Lib.hid (LR13.out.keep hb9)
  have LG0_14 := Lib.hid (LG0_13.out.keep hb9)
  have LG1_14 := Lib.hid (LG1_13.out.keep hb9)
  have LG2_14 := Lib.hid (LG2_13.out.keep hb9)
  have LG3_14 := Lib.hid (LG3_13.out.keep hb9)
  have LG4_14 := Lib.hid (LG4_13.out.keep hb9)
  have LG5_14 := Lib.hid (LG5_13.out.keep hb9)
  have LV14 := Lib.hid (LV13.out.trans (hb9.mono LV13.out.size))
  have LA14 := Lib.hid (LA13.out.trans (hb9.mono LA13.out.size))
  have LW14 := Lib.hid (LW13.out.trans (hb9.mono LW13.out.size))
  clear LB13 LR13 LG0_13 LG1_13 LG2_13 LG3_13 LG4_13 LG5_13 LV13 LA13 LW13
  clear HT hb9 q2_0 q2_1
  have ha0 := LR14.out.someCell 0 (by decide)
  have hf0 := LR14.out.frozen 0
  have ha1 := LR14.out.someCell 1 (by decide)
  have hf1 := LR14.out.frozen 1
  have hk0 := LR14.out.setCell [.int .u64 (pat PP.1 : Int), .int .u64 (pat PP.2 : Int)] rfl 0 (by decide)
  have hk1 := LR14.out.setCell [.int .u64 (pat PP.1 : Int), .int .u64 (pat PP.2 : Int)] rfl 1 (by decide)
  have F := Lib.hid (below_sets (w0 := w) (r := (w.heap.size + 3)) (by omega) [.int .u64 (pat PP.1 : Int), .int .u64 (pat PP.2 : Int)] 0 _ LB14.out)
  simp [sets] at hk0 hk1
  go_wp2
  refine bodyPost_ret (v := .agg #[.int .u64 (pat PP.1 : Int), .int .u64 (pat PP.2 : Int)]) (by simp [results, Try.results7, go_sem, hk0, hk1]) rfl ?_
  exact ⟨rfl, F.out⟩

set_option maxRecDepth 2000 in
set_option maxHeartbeats 12800000 in
theorem mr_2 (b1 b2 c1 c2 x y : Nat) (i1 i2 i3 i4 : Int) (w : World) (hb1 : b1 < 18446744073709551616) (hb2 : b2 < 18446744073709551616) (hc1 : c1 < 18446744073709551616) (hc2 : c2 < 18446744073709551616) (hx : x < 18446744073709551616) (hy : y < 18446744073709551616) (hcc : snd c1 c2 = true) (hbb : snd b1 b2 = true) (e1 : idx c1 = i1) (e2 : idx c2 = i2) (e3 : idx b1 = i3) (e4 : idx b2 = i4) (q0 : i1 ≤ i4) (q1 : i2 ≤ i4) (q2 : i3 ≤ i2) (q3 : i3 ≤ i1) :
    Calls Try.prog 7 #[.agg #[.int .u64 (b1 : Int), .int .u64 (b2 : Int)], .agg #[.int .u64 (c1 : Int), .int .u64 (c2 : Int)], .agg #[.int .u64 (x : Int), .int .u64 (y : Int)]] w fun e w' => e = .returned (.agg #[.int .u64 (pat (zf (rd x y).1 (rd x y).2 (mrL i3 i4 i1 i2) 2).1 : Int), .int .u64 (pat (zf (rd x y).1 (rd x y).2 (mrL i3 i4 i1 i2) 2).2 : Int)]) ∧ Below w.heap.size w w' := by
  have hdc := of_decide_eq_true hcc
  have hdb := of_decide_eq_true hbb
  have a1 := idx_bounds hdc.1
  have a2 := idx_bounds hdc.2.1
  have a3 := idx_bounds hdb.1
  have a4 := idx_bounds hdb.2.1
  rw [e1] at a1; rw [e2] at a2; rw [e3] at a3; rw [e4] at a4
  have u1 := hdc.2.2; have u2 := hdb.2.2
  rw [e1, e2] at u1; rw [e3, e4] at u2
  have HC := Lib.hid fun W => of_full c1 c2 W hc1 hc2 hcc
  have HBB := Lib.hid fun W => of_full b1 b2 W hb1 hb2 hbb
  rw [e1, e2] at HC
  rw [e3, e4] at HBB
  have Q14 := ec_idx a1.1 a1.2 a4.1 a4.2
  have Q42 := ec_idx a4.1 a4.2 a2.1 a2.2
  have Q32 := ec_idx a3.1 a3.2 a2.1 a2.2
  have Q13 := ec_idx a1.1 a1.2 a3.1 a3.2
  unfold SameSign at Q14 Q42 Q32 Q13
  have z1 : es i1 ≠ 0 → ex i1 = 0 := ex_inf
  have z2 : es i2 ≠ 0 → ex i2 = 0 := ex_inf
  have z3 : es i3 ≠ 0 → ex i3 = 0 := ex_inf
  have z4 : es i4 ≠ 0 → ex i4 = 0 := ex_inf
  have D1 : mrL i3 i4 i1 i2 0 = (i1, i2) := by unfold mrL; rw [if_pos rfl, show min i2 i4 = i2 from by omega]
  have D2 : mrL i3 i4 i1 i2 1 = (i1, (M : Int)) := by unfold mrL; rw [if_neg (by decide), show max i1 i3 = i1 from by omega]
  obtain ⟨L, hL⟩ : ∃ L, mrL i3 i4 i1 i2 = L := ⟨_, rfl⟩
  rw [hL] at D1 D2 ⊢
  clear hL
  have E1 := Lib.hid (rfl : es i1 = es i1)
  obtain ⟨s1, es1⟩ : ∃ s, es i1 = s := ⟨_, rfl⟩
  obtain ⟨x1, ex1⟩ : ∃ s, ex i1 = s := ⟨_, rfl⟩
  have ES1 := Lib.hid es1
  have EX1 := Lib.hid ex1
  rw [es1, ex1] at z1
  obtain ⟨s2, es2⟩ : ∃ s, es i2 = s := ⟨_, rfl⟩
  obtain ⟨x2, ex2⟩ : ∃ s, ex i2 = s := ⟨_, rfl⟩
  have ES2 := Lib.hid es2
  have EX2 := Lib.hid ex2
  rw [es2, ex2] at z2
  obtain ⟨s3, es3⟩ : ∃ s, es i3 = s := ⟨_, rfl⟩
  obtain ⟨x3, ex3⟩ : ∃ s, ex i3 = s := ⟨_, rfl⟩
  have ES3 := Lib.hid es3
  have EX3 := Lib.hid ex3
  rw [es3, ex3] at z3
  obtain ⟨s4, es4⟩ : ∃ s, es i4 = s := ⟨_, rfl⟩
  obtain ⟨x4, ex4⟩ : ∃ s, ex i4 = s := ⟨_, rfl⟩
  have ES4 := Lib.hid es4
  have EX4 := Lib.hid ex4
  rw [es4, ex4] at z4
  rw [es1, ex1, es2, ex2] at HC
  rw [es3, ex3, es4, ex4] at HBB
  rw [es1, ex1, es4, ex4] at Q14
  rw [es4, ex4, es2, ex2] at Q42
  rw [es3, ex3, es2, ex2] at Q32
  rw [es1, ex1, es3, ex3] at Q13
  obtain ⟨r14, er14⟩ : ∃ r, ec s1 x1 s4 x4 = r := ⟨_, rfl⟩
  obtain ⟨r42, er42⟩ : ∃ r, ec s4 x4 s2 x2 = r := ⟨_, rfl⟩
  obtain ⟨r32, er32⟩ : ∃ r, ec s3 x3 s2 x2 = r := ⟨_, rfl⟩
  obtain ⟨r13, er13⟩ : ∃ r, ec s1 x1 s3 x3 = r := ⟨_, rfl⟩
  rw [er14] at Q14; rw [er42] at Q42; rw [er32] at Q32; rw [er13] at Q13
  have R14 := Lib.hid er14
  have R42 := Lib.hid er42
  have R32 := Lib.hid er32
  have R13 := Lib.hid er13
  have c14 : r14 ≤ 0 := by omega
  have d14 : decide (r14 ≤ 0) = true := by simp; omega
  have c42 : ¬ r42 < 0 := by omega
  have c32 : decide (r32 ≤ 0) = true := by simp; omega
  have c13 : ¬ r13 < 0 := by omega
  have hM : M = 9218868437227405312 := rfl
  have HBD := Lib.hid (⟨a1, a2, a3, a4, u1, u2⟩ : _ ∧ _ ∧ _ ∧ _ ∧ _ ∧ _)
  have HQQ := Lib.hid (⟨q0, q1, q2, q3, trivial⟩ : i1 ≤ i4 ∧ i2 ≤ i4 ∧ i3 ≤ i2 ∧ i3 ≤ i1 ∧ True)
  have Z1 := Lib.hid z1
  have Z2 := Lib.hid z2
  have Z3 := Lib.hid z3
  have Z4 := Lib.hid z4
  have D1 := Lib.hid D1
  have D2 := Lib.hid D2
  have HALL := Lib.hid fun (ad : Addr) (n c : Nat) W (h1 : n ≤ 100) (h2 : n ≤ c) (h3 : ∀ k : Nat, k < n → PcAt W ad k (L k).1 (L k).2) => all_any x y ad n c L W hx hy h1 h2 h3
  obtain ⟨PP, hPP⟩ : ∃ P, zf (rd x y).1 (rd x y).2 L 2 = P := ⟨_, rfl⟩
  rw [hPP]
  have HPP := Lib.hid hPP
  clear hPP
  clear hdc hdb a1 a2 a3 a4 u1 u2 Q14 Q42 Q32 Q13 es1 es2 es3 es4 ex1 ex2 ex3 ex4 er14 er42 er32 er13 e1 e2 e3 e4 z1 z2 z3 z4 hM hcc hbb q0 q1 q2 q3
  have LB0 := Lib.hid (show Below w.heap.size w ((((w.alloc (.cells #[.int .u64 (b1 : Int), .int .u64 (b2 : Int)] 24)).alloc (.cells #[.int .u64 (c1 : Int), .int .u64 (c2 : Int)] 24)).alloc (.cells #[.int .u64 (x : Int), .int .u64 (y : Int)] 24)).alloc (.cells #[.int .u64 0, .int .u64 0] 24)) from ((((below_alloc w _).alloc (by simp <;> omega) _).alloc (by simp <;> omega) _).alloc (by simp <;> omega) _))
  have LG0_0 := Lib.hid (((((Blk.at (W := w) (g := w.heap.size) (by simp <;> omega) 24 #[.int .u64 (b1 : Int), .int .u64 (b2 : Int)]).alloc (.cells #[.int .u64 (c1 : Int), .int .u64 (c2 : Int)] 24)).alloc (.cells #[.int .u64 (x : Int), .int .u64 (y : Int)] 24)).alloc (.cells #[.int .u64 0, .int .u64 0] 24)))
  have LG1_0 := Lib.hid ((((Blk.at (W := (w.alloc (.cells #[.int .u64 (b1 : Int), .int .u64 (b2 : Int)] 24))) (g := (w.heap.size + 1)) (by simp <;> omega) 24 #[.int .u64 (c1 : Int), .int .u64 (c2 : Int)]).alloc (.cells #[.int .u64 (x : Int), .int .u64 (y : Int)] 24)).alloc (.cells #[.int .u64 0, .int .u64 0] 24)))
  have LG2_0 := Lib.hid (((Blk.at (W := ((w.alloc (.cells #[.int .u64 (b1 : Int), .int .u64 (b2 : Int)] 24)).alloc (.cells #[.int .u64 (c1 : Int), .int .u64 (c2 : Int)] 24))) (g := (w.heap.size + 2)) (by simp <;> omega) 24 #[.int .u64 (x : Int), .int .u64 (y : Int)]).alloc (.cells #[.int .u64 0, .int .u64 0] 24)))
  have LR0 := Lib.hid (HasBlk.of (n := 2) (Blk.at (W := (((w.alloc (.cells #[.int .u64 (b1 : Int), .int .u64 (b2 : Int)] 24)).alloc (.cells #[.int .u64 (c1 : Int), .int .u64 (c2 : Int)] 24)).alloc (.cells #[.int .u64 (x : Int), .int .u64 (y : Int)] 24))) (g := (w.heap.size + 3)) (by simp <;> omega) 24 #[.int .u64 0, .int .u64 0]) rfl rfl)
  go_enter Try.func7, Try.ntmps7
  go_wp2_with fail
  refine (HC.out _).mono ?_
  rintro e w1 ⟨g1, A1, n1, k1, B1, m1, d1, g2, A2, n2, k2, B2, m2, d2, rfl, h1, h2, hbA⟩
  have LB1 := Lib.hid (LB0.out.trans (hbA.mono LB0.out.size))
  have LR1 := Lib.hid (LR0.out.keep hbA)
  have LG0_1 := Lib.hid (LG0_0.out.keep hbA)
  have LG1_1 := Lib.hid (LG1_0.out.keep hbA)
  have LG2_1 := Lib.hid (LG2_0.out.keep hbA)
  clear LB0 LR0 LG0_0 LG1_0 LG2_0
  go_upto_region 2 with fail
  have hlt2 := LR1.out.lt
  have LB2 := Lib.hid (LB1.out.alloc LB1.out.size (.cells #[.bool false, .int .i64 s1, .bool g1, .slice A1 n1 k1, .slice B1 m1 d1, .int .i64 s2, .bool g2, .slice A2 n2 k2, .slice B2 m2 d2] 48))
  have LR2 := Lib.hid (LR1.out.alloc (.cells #[.bool false, .int .i64 s1, .bool g1, .slice A1 n1 k1, .slice B1 m1 d1, .int .i64 s2, .bool g2, .slice A2 n2 k2, .slice B2 m2 d2] 48))
  have LG0_2 := Lib.hid (LG0_1.out.alloc (.cells #[.bool false, .int .i64 s1, .bool g1, .slice A1 n1 k1, .slice B1 m1 d1, .int .i64 s2, .bool g2, .slice A2 n2 k2, .slice B2 m2 d2] 48))
  have LG1_2 := Lib.hid (LG1_1.out.alloc (.cells #[.bool false, .int .i64 s1, .bool g1, .slice A1 n1 k1, .slice B1 m1 d1, .int .i64 s2, .bool g2, .slice A2 n2 k2, .slice B2 m2 d2] 48))
  have LG2_2 := Lib.hid (LG2_1.out.alloc (.cells #[.bool false, .int .i64 s1, .bool g1, .slice A1 n1 k1, .slice B1 m1 d1, .int .i64 s2, .bool g2, .slice A2 n2 k2, .slice B2 m2 d2] 48))
  have LG3_2 := Lib.hid (Blk.new w1 48 #[.bool false, .int .i64 s1, .bool g1, .slice A1 n1 k1, .slice B1 m1 d1, .int .i64 s2, .bool g2, .slice A2 n2 k2, .slice B2 m2 d2])
  clear LB1 LR1 LG0_1 LG1_1 LG2_1
  have h1a := h1.below (below_alloc w1 (.cells #[.bool false, .int .i64 s1, .bool g1, .slice A1 n1 k1, .slice B1 m1 d1, .int .i64 s2, .bool g2, .slice A2 n2 k2, .slice B2 m2 d2] 48))
  have h2a := h2.below (below_alloc w1 (.cells #[.bool false, .int .i64 s1, .bool g1, .slice A1 n1 k1, .slice B1 m1 d1, .int .i64 s2, .bool g2, .slice A2 n2 k2, .slice B2 m2 d2] 48))
  obtain ⟨V1, hV1⟩ : ∃ X, (w1.alloc (.cells #[.bool false, .int .i64 s1, .bool g1, .slice A1 n1 k1, .slice B1 m1 d1, .int .i64 s2, .bool g2, .slice A2 n2 k2, .slice B2 m2 d2] 48)) = X := ⟨_, rfl⟩
  have hlV : w1.heap.size < V1.heap.size := by rw [← hV1]; simp
  rw [hV1] at LB2 LR2 LG0_2 LG1_2 LG2_2 LG3_2 h1a h2a ⊢
  clear hV1 h1 h2 hbA
  have q0_0 : _ = some (.int .u64 (b1 : Int) : Value) := LG0_2.out.cell 0
  have q0_1 : _ = some (.int .u64 (b2 : Int) : Value) := LG0_2.out.cell 1
  go_wp2_with fail
  refine (HBB.out _).mono ?_
  rintro e w2 ⟨g3, A3, n3, k3, B3, m3, d3, g4, A4, n4, k4, B4, m4, d4, rfl, h3, h4, hbB⟩
  have LB3 := Lib.hid (LB2.out.trans (hbB.mono LB2.out.size))
  have LR3 := Lib.hid (LR2.out.keep hbB)
  have LG0_3 := Lib.hid (LG0_2.out.keep hbB)
  have LG1_3 := Lib.hid (LG1_2.out.keep hbB)
  have LG2_3 := Lib.hid (LG2_2.out.keep hbB)
  have LG3_3 := Lib.hid (LG3_2.out.keep hbB)
  clear LB2 LR2 LG0_2 LG1_2 LG2_2 LG3_2
  have h1b := h1a.below hbB
  have h2b := h2a.below hbB
  have hlW := hbB.size
  clear h1a h2a hbB q0_0 q0_1
  go_upto_region 3 with fail
  have hlt4 := LR3.out.lt
  have LB4 := Lib.hid (LB3.out.alloc LB3.out.size (.cells #[.bool false, .int .i64 s3, .bool g3, .slice A3 n3 k3, .slice B3 m3 d3, .int .i64 s4, .bool g4, .slice A4 n4 k4, .slice B4 m4 d4] 48))
  have LR4 := Lib.hid (LR3.out.alloc (.cells #[.bool false, .int .i64 s3, .bool g3, .slice A3 n3 k3, .slice B3 m3 d3, .int .i64 s4, .bool g4, .slice A4 n4 k4, .slice B4 m4 d4] 48))
  have LG0_4 := Lib.hid (LG0_3.out.alloc (.cells #[.bool false, .int .i64 s3, .bool g3, .slice A3 n3 k3, .slice B3 m3 d3, .int .i64 s4, .bool g4, .slice A4 n4 k4, .slice B4 m4 d4] 48))
  have LG1_4 := Lib.hid (LG1_3.out.alloc (.cells #[.bool false, .int .i64 s3, .bool g3, .slice A3 n3 k3, .slice B3 m3 d3, .int .i64 s4, .bool g4, .slice A4 n4 k4, .slice B4 m4 d4] 48))
  have LG2_4 := Lib.hid (LG2_3.out.alloc (.cells #[.bool false, .int .i64 s3, .bool g3, .slice A3 n3 k3, .slice B3 m3 d3, .int .i64 s4, .bool g4, .slice A4 n4 k4, .slice B4 m4 d4] 48))
  have LG3_4 := Lib.hid (LG3_3.out.alloc (.cells #[.bool false, .int .i64 s3, .bool g3, .slice A3 n3 k3, .slice B3 m3 d3, .int .i64 s4, .bool g4, .slice A4 n4 k4, .slice B4 m4 d4] 48))
  have LG4_4 := Lib.hid (Blk.new w2 48 #[.bool false, .int .i64 s3, .bool g3, .slice A3 n3 k3, .slice B3 m3 d3, .int .i64 s4, .bool g4, .slice A4 n4 k4, .slice B4 m4 d4])
  clear LB3 LR3 LG0_3 LG1_3 LG2_3 LG3_3
  have H1 := Lib.hid (h1b.below (below_alloc w2 (.cells #[.bool false, .int .i64 s3, .bool g3, .slice A3 n3 k3, .slice B3 m3 d3, .int .i64 s4, .bool g4, .slice A4 n4 k4, .slice B4 m4 d4] 48)))
  have H2 := Lib.hid (h2b.below (below_alloc w2 (.cells #[.bool false, .int .i64 s3, .bool g3, .slice A3 n3 k3, .slice B3 m3 d3, .int .i64 s4, .bool g4, .slice A4 n4 k4, .slice B4 m4 d4] 48)))
  have H3 := Lib.hid (h3.below (below_alloc w2 (.cells #[.bool false, .int .i64 s3, .bool g3, .slice A3 n3 k3, .slice B3 m3 d3, .int .i64 s4, .bool g4, .slice A4 n4 k4, .slice B4 m4 d4] 48)))
  have H4 := Lib.hid (h4.below (below_alloc w2 (.cells #[.bool false, .int .i64 s3, .bool g3, .slice A3 n3 k3, .slice B3 m3 d3, .int .i64 s4, .bool g4, .slice A4 n4 k4, .slice B4 m4 d4] 48)))
  obtain ⟨V2, hV2⟩ : ∃ X, (w2.alloc (.cells #[.bool false, .int .i64 s3, .bool g3, .slice A3 n3 k3, .slice B3 m3 d3, .int .i64 s4, .bool g4, .slice A4 n4 k4, .slice B4 m4 d4] 48)) = X := ⟨_, rfl⟩
  have hlV2 : w2.heap.size < V2.heap.size := by rw [← hV2]; simp
  rw [hV2] at LB4 LR4 LG0_4 LG1_4 LG2_4 LG3_4 LG4_4 H1 H2 H3 H4 ⊢
  clear hV2 h1b h2b h3 h4
  have hlt9 : w1.heap.size < w2.heap.size := by omega
  have LV4 := Lib.hid (Below.refl V2.heap.size V2)
  have q3_0 : _ = some (.bool false : Value) := LG3_4.out.cell 0
  have q3_1 : _ = some (.int .i64 s1 : Value) := LG3_4.out.cell 1
  have q3_2 : _ = some (.bool g1 : Value) := LG3_4.out.cell 2
  have q3_3 : _ = some (.slice A1 n1 k1 : Value) := LG3_4.out.cell 3
  have q3_4 : _ = some (.slice B1 m1 d1 : Value) := LG3_4.out.cell 4
  have q3_5 : _ = some (.int .i64 s2 : Value) := LG3_4.out.cell 5
  have q3_6 : _ = some (.bool g2 : Value) := LG3_4.out.cell 6
  have q3_7 : _ = some (.slice A2 n2 k2 : Value) := LG3_4.out.cell 7
  have q3_8 : _ = some (.slice B2 m2 d2 : Value) := LG3_4.out.cell 8
  have q4_0 : _ = some (.bool false : Value) := LG4_4.out.cell 0
  have q4_1 : _ = some (.int .i64 s3 : Value) := LG4_4.out.cell 1
  have q4_2 : _ = some (.bool g3 : Value) := LG4_4.out.cell 2
  have q4_3 : _ = some (.slice A3 n3 k3 : Value) := LG4_4.out.cell 3
  have q4_4 : _ = some (.slice B3 m3 d3 : Value) := LG4_4.out.cell 4
  have q4_5 : _ = some (.int .i64 s4 : Value) := LG4_4.out.cell 5
  have q4_6 : _ = some (.bool g4 : Value) := LG4_4.out.cell 6
  have q4_7 : _ = some (.slice A4 n4 k4 : Value) := LG4_4.out.cell 7
  have q4_8 : _ = some (.slice B4 m4 d4 : Value) := LG4_4.out.cell 8
  have HT := Lib.hid (ecmp_any 34 s1 g1 A1 n1 k1 B1 m1 d1 x1 s4 g4 A4 n4 k4 B4 m4 d4 x4 _ (H1.out.below LV4.out) (H4.out.below LV4.out) (by omega))
  rw [R14.out] at HT
  go_wp2_with fail
  refine HT.out.mono ?_
  rintro e wc1 ⟨rfl, hbc1⟩
  have LB5 := Lib.hid (LB4.out.trans (hbc1.mono LB4.out.size))
  have LR5 := Lib.hid (LR4.out.keep hbc1)
  have LG0_5 := Lib.hid (LG0_4.out.keep hbc1)
  have LG1_5 := Lib.hid (LG1_4.out.keep hbc1)
  have LG2_5 := Lib.hid (LG2_4.out.keep hbc1)
  have LG3_5 := Lib.hid (LG3_4.out.keep hbc1)
  have LG4_5 := Lib.hid (LG4_4.out.keep hbc1)
  have LV5 := Lib.hid (LV4.out.trans (hbc1.mono LV4.out.size))
  clear LB4 LR4 LG0_4 LG1_4 LG2_4 LG3_4 LG4_4 LV4
  clear HT hbc1 q3_0 q3_1 q3_2 q3_3 q3_4 q3_5 q3_6 q3_7 q3_8 q4_0 q4_1 q4_2 q4_3 q4_4 q4_5 q4_6 q4_7 q4_8
  have q3_0 : _ = some (.bool false : Value) := LG3_5.out.cell 0
  have q3_1 : _ = some (.int .i64 s1 : Value) := LG3_5.out.cell 1
  have q3_2 : _ = some (.bool g1 : Value) := LG3_5.out.cell 2
  have q3_3 : _ = some (.slice A1 n1 k1 : Value) := LG3_5.out.cell 3
  have q3_4 : _ = some (.slice B1 m1 d1 : Value) := LG3_5.out.cell 4
  have q3_5 : _ = some (.int .i64 s2 : Value) := LG3_5.out.cell 5
  have q3_6 : _ = some (.bool g2 : Value) := LG3_5.out.cell 6
  have q3_7 : _ = some (.slice A2 n2 k2 : Value) := LG3_5.out.cell 7
  have q3_8 : _ = some (.slice B2 m2 d2 : Value) := LG3_5.out.cell 8
  have HT := Lib.hid (piece_some 34 s1 g1 A1 n1 k1 B1 m1 d1 x1 s2 g2 A2 n2 k2 B2 m2 d2 x2 _ (H1.out.below LV5.out) (H2.out.below LV5.out) (by omega) Z1.out Z2.out)
  obtain ⟨o5, eo5⟩ : ∃ s, decide (s1 ≠ 0) = s := ⟨_, rfl⟩
  obtain ⟨o6, eo6⟩ : ∃ s, decide (s2 ≠ 0) = s := ⟨_, rfl⟩
  rw [eo5, eo6] at HT
  have EO5 := Lib.hid eo5
  have EO6 := Lib.hid eo6
  clear eo5 eo6
  go_wp2_with fail
  refine HT.out.mono ?_
  rintro e w4 ⟨g5, A5, n5, k5, B5, m5, d5, g6, A6, n6, k6, B6, m6, d6, rfl, h5, h6, hb4⟩
  have LB6 := Lib.hid (LB5.out.trans (hb4.mono LB5.out.size))
  have LR6 := Lib.hid (LR5.out.keep hb4)
  have LG0_6 := Lib.hid (LG0_5.out.keep hb4)
  have LG1_6 := Lib.hid (LG1_5.out.keep hb4)
  have LG2_6 := Lib.hid (LG2_5.out.keep hb4)
  have LG3_6 := Lib.hid (LG3_5.out.keep hb4)
  have LG4_6 := Lib.hid (LG4_5.out.keep hb4)
  have LV6 := Lib.hid (LV5.out.trans (hb4.mono LV5.out.size))
  clear LB5 LR5 LG0_5 LG1_5 LG2_5 LG3_5 LG4_5 LV5
  clear HT hb4 q3_0 q3_1 q3_2 q3_3 q3_4 q3_5 q3_6 q3_7 q3_8
  have H5 := Lib.hid h5
  have H6 := Lib.hid h6
  clear h5 h6
  have LP6 := Lib.hid (Below.refl w4.heap.size w4)
  go_upto_region 8 with fail
  have hlp1 := LV6.out.size
  have hlt7 := LR6.out.lt
  have LB7 := Lib.hid (LB6.out.alloc LB6.out.size (.cells #[.bool false, .int .i64 s1, .bool g5, .slice A5 n5 k5, .slice B5 m5 d5, .int .i64 1, .bool o5, .int .i64 s2, .bool g6, .slice A6 n6 k6, .slice B6 m6 d6, .int .i64 1, .bool o6] 56))
  have LR7 := Lib.hid (LR6.out.alloc (.cells #[.bool false, .int .i64 s1, .bool g5, .slice A5 n5 k5, .slice B5 m5 d5, .int .i64 1, .bool o5, .int .i64 s2, .bool g6, .slice A6 n6 k6, .slice B6 m6 d6, .int .i64 1, .bool o6] 56))
  have LG0_7 := Lib.hid (LG0_6.out.alloc (.cells #[.bool false, .int .i64 s1, .bool g5, .slice A5 n5 k5, .slice B5 m5 d5, .int .i64 1, .bool o5, .int .i64 s2, .bool g6, .slice A6 n6 k6, .slice B6 m6 d6, .int .i64 1, .bool o6] 56))
  have LG1_7 := Lib.hid (LG1_6.out.alloc (.cells #[.bool false, .int .i64 s1, .bool g5, .slice A5 n5 k5, .slice B5 m5 d5, .int .i64 1, .bool o5, .int .i64 s2, .bool g6, .slice A6 n6 k6, .slice B6 m6 d6, .int .i64 1, .bool o6] 56))
  have LG2_7 := Lib.hid (LG2_6.out.alloc (.cells #[.bool false, .int .i64 s1, .bool g5, .slice A5 n5 k5, .slice B5 m5 d5, .int .i64 1, .bool o5, .int .i64 s2, .bool g6, .slice A6 n6 k6, .slice B6 m6 d6, .int .i64 1, .bool o6] 56))
  have LG3_7 := Lib.hid (LG3_6.out.alloc (.cells #[.bool false, .int .i64 s1, .bool g5, .slice A5 n5 k5, .slice B5 m5 d5, .int .i64 1, .bool o5, .int .i64 s2, .bool g6, .slice A6 n6 k6, .slice B6 m6 d6, .int .i64 1, .bool o6] 56))
  have LG4_7 := Lib.hid (LG4_6.out.alloc (.cells #[.bool false, .int .i64 s1, .bool g5, .slice A5 n5 k5, .slice B5 m5 d5, .int .i64 1, .bool o5, .int .i64 s2, .bool g6, .slice A6 n6 k6, .slice B6 m6 d6, .int .i64 1, .bool o6] 56))
  have LG5_7 := Lib.hid (Blk.new w4 56 #[.bool false, .int .i64 s1, .bool g5, .slice A5 n5 k5, .slice B5 m5 d5, .int .i64 1, .bool o5, .int .i64 s2, .bool g6, .slice A6 n6 k6, .slice B6 m6 d6, .int .i64 1, .bool o6])
  have LV7 := Lib.hid (LV6.out.alloc LV6.out.size (.cells #[.bool false, .int .i64 s1, .bool g5, .slice A5 n5 k5, .slice B5 m5 d5, .int .i64 1, .bool o5, .int .i64 s2, .bool g6, .slice A6 n6 k6, .slice B6 m6 d6, .int .i64 1, .bool o6] 56))
  have LP7 := Lib.hid (LP6.out.alloc LP6.out.size (.cells #[.bool false, .int .i64 s1, .bool g5, .slice A5 n5 k5, .slice B5 m5 d5, .int .i64 1, .bool o5, .int .i64 s2, .bool g6, .slice A6 n6 k6, .slice B6 m6 d6, .int .i64 1, .bool o6] 56))
  clear LB6 LR6 LG0_6 LG1_6 LG2_6 LG3_6 LG4_6 LV6 LP6
  obtain ⟨V4, hV4⟩ : ∃ X, (w4.alloc (.cells #[.bool false, .int .i64 s1, .bool g5, .slice A5 n5 k5, .slice B5 m5 d5, .int .i64 1, .bool o5, .int .i64 s2, .bool g6, .slice A6 n6 k6, .slice B6 m6 d6, .int .i64 1, .bool o6] 56)) = X := ⟨_, rfl⟩
  rw [hV4] at LB7 LR7 LG0_7 LG1_7 LG2_7 LG3_7 LG4_7 LG5_7 LV7 LP7 ⊢
  clear hV4
  have q3_0 : _ = some (.bool false : Value) := LG3_7.out.cell 0
  have q3_1 : _ = some (.int .i64 s1 : Value) := LG3_7.out.cell 1
  have q3_2 : _ = some (.bool g1 : Value) := LG3_7.out.cell 2
  have q3_3 : _ = some (.slice A1 n1 k1 : Value) := LG3_7.out.cell 3
  have q3_4 : _ = some (.slice B1 m1 d1 : Value) := LG3_7.out.cell 4
  have q3_5 : _ = some (.int .i64 s2 : Value) := LG3_7.out.cell 5
  have q3_6 : _ = some (.bool g2 : Value) := LG3_7.out.cell 6
  have q3_7 : _ = some (.slice A2 n2 k2 : Value) := LG3_7.out.cell 7
  have q3_8 : _ = some (.slice B2 m2 d2 : Value) := LG3_7.out.cell 8
  have q4_0 : _ = some (.bool false : Value) := LG4_7.out.cell 0
  have q4_1 : _ = some (.int .i64 s3 : Value) := LG4_7.out.cell 1
  have q4_2 : _ = some (.bool g3 : Value) := LG4_7.out.cell 2
  have q4_3 : _ = some (.slice A3 n3 k3 : Value) := LG4_7.out.cell 3
  have q4_4 : _ = some (.slice B3 m3 d3 : Value) := LG4_7.out.cell 4
  have q4_5 : _ = some (.int .i64 s4 : Value) := LG4_7.out.cell 5
  have q4_6 : _ = some (.bool g4 : Value) := LG4_7.out.cell 6
  have q4_7 : _ = some (.slice A4 n4 k4 : Value) := LG4_7.out.cell 7
  have q4_8 : _ = some (.slice B4 m4 d4 : Value) := LG4_7.out.cell 8
  have HT := Lib.hid (ecmp_any 34 s4 g4 A4 n4 k4 B4 m4 d4 x4 s2 g2 A2 n2 k2 B2 m2 d2 x2 _ (H4.out.below LV7.out) (H2.out.below LV7.out) (by omega))
  rw [R42.out] at HT
  go_wp2_with fail
  refine HT.out.mono ?_
  rintro e wc2 ⟨rfl, hbc2⟩
  have LB8 := Lib.hid (LB7.out.trans (hbc2.mono LB7.out.size))
  have LR8 := Lib.hid (LR7.out.keep hbc2)
  have LG0_8 := Lib.hid (LG0_7.out.keep hbc2)
  have LG1_8 := Lib.hid (LG1_7.out.keep hbc2)
  have LG2_8 := Lib.hid (LG2_7.out.keep hbc2)
  have LG3_8 := Lib.hid (LG3_7.out.keep hbc2)
  have LG4_8 := Lib.hid (LG4_7.out.keep hbc2)
  have LG5_8 := Lib.hid (LG5_7.out.keep hbc2)
  have LV8 := Lib.hid (LV7.out.trans (hbc2.mono LV7.out.size))
  have LP8 := Lib.hid (LP7.out.trans (hbc2.mono LP7.out.size))
  clear LB7 LR7 LG0_7 LG1_7 LG2_7 LG3_7 LG4_7 LG5_7 LV7 LP7
  clear HT hbc2 q3_0 q3_1 q3_2 q3_3 q3_4 q3_5 q3_6 q3_7 q3_8 q4_0 q4_1 q4_2 q4_3 q4_4 q4_5 q4_6 q4_7 q4_8
  have hbd := HBD.out
  have hqq := HQQ.out
  have hM : M = 9218868437227405312 := rfl
  have PC1 := Lib.hid (show PcVal wc2 i1 i2 [.bool false, .int .i64 s1, .bool g5, .slice A5 n5 k5, .slice B5 m5 d5, .int .i64 1, .bool o5, .int .i64 s2, .bool g6, .slice A6 n6 k6, .slice B6 m6 d6, .int .i64 1, .bool o6] from ⟨by omega, by omega, by omega, by omega, by omega, g5, A5, n5, k5, B5, m5, d5, g6, A6, n6, k6, B6, m6, d6, by rw [ES1.out, EO5.out, ES2.out, EO6.out], by rw [EX1.out]; exact H5.out.below LP8.out, by rw [EX2.out]; exact (H6.out.below LP8.out)⟩)
  clear hbd hqq hM
  have KB := Lib.hid LB8.out
  have KR := Lib.hid LR8.out
  have KX := Lib.hid LG2_8.out
  have hcs := LB8.out.size
  have hcs2 := LV8.out.size
  clear LP8
  have LA8 := Lib.hid (Below.refl wc2.heap.size wc2)
  have q5_0 : _ = some (.bool false : Value) := LG5_8.out.cell 0
  have q5_1 : _ = some (.int .i64 s1 : Value) := LG5_8.out.cell 1
  have q5_2 : _ = some (.bool g5 : Value) := LG5_8.out.cell 2
  have q5_3 : _ = some (.slice A5 n5 k5 : Value) := LG5_8.out.cell 3
  have q5_4 : _ = some (.slice B5 m5 d5 : Value) := LG5_8.out.cell 4
  have q5_5 : _ = some (.int .i64 1 : Value) := LG5_8.out.cell 5
  have q5_6 : _ = some (.bool o5 : Value) := LG5_8.out.cell 6
  have q5_7 : _ = some (.int .i64 s2 : Value) := LG5_8.out.cell 7
  have q5_8 : _ = some (.bool g6 : Value) := LG5_8.out.cell 8
  have q5_9 : _ = some (.slice A6 n6 k6 : Value) := LG5_8.out.cell 9
  have q5_10 : _ = some (.slice B6 m6 d6 : Value) := LG5_8.out.cell 10
  have q5_11 : _ = some (.int .i64 1 : Value) := LG5_8.out.cell 11
  have q5_12 : _ = some (.bool o6 : Value) := LG5_8.out.cell 12
  go_wp2_with (at_builtin; refine wpList_append_pc1 _ rfl _ _ rfl wc2.heap.size rfl ⟨wc2.heap.size, 0, none⟩ 1 [.bool false, .int .i64 s1, .bool g5, .slice A5 n5 k5, .slice B5 m5 d5, .int .i64 1, .bool o5, .int .i64 s2, .bool g6, .slice A6 n6 k6, .slice B6 m6 d6, .int .i64 1, .bool o6] rfl rfl ?c1 ?c2 rfl ?c3 ?_)
  case c1 => exact fun j u hu => lit_cells wc2 _ _ j u hu
  case c2 => intro u hu; exact List.all_eq_true.1 (show List.all [.bool false, .int .i64 s1, .bool g5, .slice A5 n5 k5, .slice B5 m5 d5, .int .i64 1, .bool o5, .int .i64 s2, .bool g6, .slice A6 n6 k6, .slice B6 m6 d6, .int .i64 1, .bool o6] Value.oneCell' = true from rfl) u hu
  case c3 => simp
  rintro v' w6 ⟨gr, cap, cs, rfl, hown, hg1, hg2, hgb, hnw, hbw⟩
  have hb6 : Below wc2.heap.size wc2 w6 := (below_alloc wc2 _).trans (hbw.mono (by simp))
  have OWN := Lib.hid hown
  have GB := Lib.hid hgb
  have NW := Lib.hid hnw
  have LB9 := Lib.hid (LB8.out.trans (hb6.mono LB8.out.size))
  have LR9 := Lib.hid (LR8.out.keep hb6)
  have LG0_9 := Lib.hid (LG0_8.out.keep hb6)
  have LG1_9 := Lib.hid (LG1_8.out.keep hb6)
  have LG2_9 := Lib.hid (LG2_8.out.keep hb6)
  have LG3_9 := Lib.hid (LG3_8.out.keep hb6)
  have LG4_9 := Lib.hid (LG4_8.out.keep hb6)
  have LG5_9 := Lib.hid (LG5_8.out.keep hb6)
  have LV9 := Lib.hid (LV8.out.trans (hb6.mono LV8.out.size))
  have LA9 := Lib.hid (LA8.out.trans (hb6.mono LA8.out.size))
  clear LB8 LR8 LG0_8 LG1_8 LG2_8 LG3_8 LG4_8 LG5_8 LV8 LA8
  clear hown hgb hnw hbw hb6 hg2 q5_0 q5_1 q5_2 q5_3 q5_4 q5_5 q5_6 q5_7 q5_8 q5_9 q5_10 q5_11 q5_12
  have LW9 := Lib.hid (Below.refl w6.heap.size w6)
  have q3_0 : _ = some (.bool false : Value) := LG3_9.out.cell 0
  have q3_1 : _ = some (.int .i64 s1 : Value) := LG3_9.out.cell 1
  have q3_2 : _ = some (.bool g1 : Value) := LG3_9.out.cell 2
  have q3_3 : _ = some (.slice A1 n1 k1 : Value) := LG3_9.out.cell 3
  have q3_4 : _ = some (.slice B1 m1 d1 : Value) := LG3_9.out.cell 4
  have q3_5 : _ = some (.int .i64 s2 : Value) := LG3_9.out.cell 5
  have q3_6 : _ = some (.bool g2 : Value) := LG3_9.out.cell 6
  have q3_7 : _ = some (.slice A2 n2 k2 : Value) := LG3_9.out.cell 7
  have q3_8 : _ = some (.slice B2 m2 d2 : Value) := LG3_9.out.cell 8
  have q4_0 : _ = some (.bool false : Value) := LG4_9.out.cell 0
  have q4_1 : _ = some (.int .i64 s3 : Value) := LG4_9.out.cell 1
  have q4_2 : _ = some (.bool g3 : Value) := LG4_9.out.cell 2
  have q4_3 : _ = some (.slice A3 n3 k3 : Value) := LG4_9.out.cell 3
  have q4_4 : _ = some (.slice B3 m3 d3 : Value) := LG4_9.out.cell 4
  have q4_5 : _ = some (.int .i64 s4 : Value) := LG4_9.out.cell 5
  have q4_6 : _ = some (.bool g4 : Value) := LG4_9.out.cell 6
  have q4_7 : _ = some (.slice A4 n4 k4 : Value) := LG4_9.out.cell 7
  have q4_8 : _ = some (.slice B4 m4 d4 : Value) := LG4_9.out.cell 8
  have HT := Lib.hid (ecmp_any 34 s1 g1 A1 n1 k1 B1 m1 d1 x1 s4 g4 A4 n4 k4 B4 m4 d4 x4 _ (H1.out.below LV9.out) (H4.out.below LV9.out) (by omega))
  rw [R14.out] at HT
  go_wp2_with fail
  refine HT.out.mono ?_
  rintro e wc3 ⟨rfl, hbc3⟩
  have LB10 := Lib.hid (LB9.out.trans (hbc3.mono LB9.out.size))
  have LR10 := Lib.hid (LR9.out.keep hbc3)
  have LG0_10 := Lib.hid (LG0_9.out.keep hbc3)
  have LG1_10 := Lib.hid (LG1_9.out.keep hbc3)
  have LG2_10 := Lib.hid (LG2_9.out.keep hbc3)
  have LG3_10 := Lib.hid (LG3_9.out.keep hbc3)
  have LG4_10 := Lib.hid (LG4_9.out.keep hbc3)
  have LG5_10 := Lib.hid (LG5_9.out.keep hbc3)
  have LV10 := Lib.hid (LV9.out.trans (hbc3.mono LV9.out.size))
  have LA10 := Lib.hid (LA9.out.trans (hbc3.mono LA9.out.size))
  have LW10 := Lib.hid (LW9.out.trans (hbc3.mono LW9.out.size))
  clear LB9 LR9 LG0_9 LG1_9 LG2_9 LG3_9 LG4_9 LG5_9 LV9 LA9 LW9
  clear HT hbc3 q3_0 q3_1 q3_2 q3_3 q3_4 q3_5 q3_6 q3_7 q3_8 q4_0 q4_1 q4_2 q4_3 q4_4 q4_5 q4_6 q4_7 q4_8
  have q3_0 : _ = some (.bool false : Value) := LG3_10.out.cell 0
  have q3_1 : _ = some (.int .i64 s1 : Value) := LG3_10.out.cell 1
  have q3_2 : _ = some (.bool g1 : Value) := LG3_10.out.cell 2
  have q3_3 : _ = some (.slice A1 n1 k1 : Value) := LG3_10.out.cell 3
  have q3_4 : _ = some (.slice B1 m1 d1 : Value) := LG3_10.out.cell 4
  have q3_5 : _ = some (.int .i64 s2 : Value) := LG3_10.out.cell 5
  have q3_6 : _ = some (.bool g2 : Value) := LG3_10.out.cell 6
  have q3_7 : _ = some (.slice A2 n2 k2 : Value) := LG3_10.out.cell 7
  have q3_8 : _ = some (.slice B2 m2 d2 : Value) := LG3_10.out.cell 8
  have q4_0 : _ = some (.bool false : Value) := LG4_10.out.cell 0
  have q4_1 : _ = some (.int .i64 s3 : Value) := LG4_10.out.cell 1
  have q4_2 : _ = some (.bool g3 : Value) := LG4_10.out.cell 2
  have q4_3 : _ = some (.slice A3 n3 k3 : Value) := LG4_10.out.cell 3
  have q4_4 : _ = some (.slice B3 m3 d3 : Value) := LG4_10.out.cell 4
  have q4_5 : _ = some (.int .i64 s4 : Value) := LG4_10.out.cell 5
  have q4_6 : _ = some (.bool g4 : Value) := LG4_10.out.cell 6
  have q4_7 : _ = some (.slice A4 n4 k4 : Value) := LG4_10.out.cell 7
  have q4_8 : _ = some (.slice B4 m4 d4 : Value) := LG4_10.out.cell 8
  have HT := Lib.hid (ecmp_any 34 s3 g3 A3 n3 k3 B3 m3 d3 x3 s2 g2 A2 n2 k2 B2 m2 d2 x2 _ (H3.out.below LV10.out) (H2.out.below LV10.out) (by omega))
  rw [R32.out] at HT
  go_wp2_with fail
  refine HT.out.mono ?_
  rintro e wc4 ⟨rfl, hbc4⟩
  have LB11 := Lib.hid (LB10.out.trans (hbc4.mono LB10.out.size))
  have LR11 := Lib.hid (LR10.out.keep hbc4)
  have LG0_11 := Lib.hid (LG0_10.out.keep hbc4)
  have LG1_11 := Lib.hid (LG1_10.out.keep hbc4)
  have LG2_11 := Lib.hid (LG2_10.out.keep hbc4)
  have LG3_11 := Lib.hid (LG3_10.out.keep hbc4)
  have LG4_11 := Lib.hid (LG4_10.out.keep hbc4)
  have LG5_11 := Lib.hid (LG5_10.out.keep hbc4)
  have LV11 := Lib.hid (LV10.out.trans (hbc4.mono LV10.out.size))
  have LA11 := Lib.hid (LA10.out.trans (hbc4.mono LA10.out.size))
  have LW11 := Lib.hid (LW10.out.trans (hbc4.mono LW10.out.size))
  clear LB10 LR10 LG0_10 LG1_10 LG2_10 LG3_10 LG4_10 LG5_10 LV10 LA10 LW10
  clear HT hbc4 q3_0 q3_1 q3_2 q3_3 q3_4 q3_5 q3_6 q3_7 q3_8 q4_0 q4_1 q4_2 q4_3 q4_4 q4_5 q4_6 q4_7 q4_8
  have q3_0 : _ = some (.bool false : Value) := LG3_11.out.cell 0
  have q3_1 : _ = some (.int .i64 s1 : Value) := LG3_11.out.cell 1
  have q3_2 : _ = some (.bool g1 : Value) := LG3_11.out.cell 2
  have q3_3 : _ = some (.slice A1 n1 k1 : Value) := LG3_11.out.cell 3
  have q3_4 : _ = some (.slice B1 m1 d1 : Value) := LG3_11.out.cell 4
  have q3_5 : _ = some (.int .i64 s2 : Value) := LG3_11.out.cell 5
  have q3_6 : _ = some (.bool g2 : Value) := LG3_11.out.cell 6
  have q3_7 : _ = some (.slice A2 n2 k2 : Value) := LG3_11.out.cell 7
  have q3_8 : _ = some (.slice B2 m2 d2 : Value) := LG3_11.out.cell 8
  have q4_0 : _ = some (.bool false : Value) := LG4_11.out.cell 0
  have q4_1 : _ = some (.int .i64 s3 : Value) := LG4_11.out.cell 1
  have q4_2 : _ = some (.bool g3 : Value) := LG4_11.out.cell 2
  have q4_3 : _ = some (.slice A3 n3 k3 : Value) := LG4_11.out.cell 3
  have q4_4 : _ = some (.slice B3 m3 d3 : Value) := LG4_11.out.cell 4
  have q4_5 : _ = some (.int .i64 s4 : Value) := LG4_11.out.cell 5
  have q4_6 : _ = some (.bool g4 : Value) := LG4_11.out.cell 6
  have q4_7 : _ = some (.slice A4 n4 k4 : Value) := LG4_11.out.cell 7
  have q4_8 : _ = some (.slice B4 m4 d4 : Value) := LG4_11.out.cell 8
  have HT := Lib.hid (bound_end 34 s1 g1 A1 n1 k1 B1 m1 d1 x1 _ (H1.out.below LV11.out) (by omega) Z1.out)
  obtain ⟨o8, eo8⟩ : ∃ s, decide (s1 ≠ 0) = s := ⟨_, rfl⟩
  rw [eo8] at HT
  have EO8 := Lib.hid eo8
  clear eo8
  go_wp2_with fail
  refine HT.out.mono ?_
  rintro e wb8 ⟨g8, A8, n8, k8, B8, m8, d8, rfl, h8, hbb8⟩
  have LB12 := Lib.hid (LB11.out.trans (hbb8.mono LB11.out.size))
  have LR12 := Lib.hid (LR11.out.keep hbb8)
  have LG0_12 := Lib.hid (LG0_11.out.keep hbb8)
  have LG1_12 := Lib.hid (LG1_11.out.keep hbb8)
  have LG2_12 := Lib.hid (LG2_11.out.keep hbb8)
  have LG3_12 := Lib.hid (LG3_11.out.keep hbb8)
  have LG4_12 := Lib.hid (LG4_11.out.keep hbb8)
  have LG5_12 := Lib.hid (LG5_11.out.keep hbb8)
  have LV12 := Lib.hid (LV11.out.trans (hbb8.mono LV11.out.size))
  have LA12 := Lib.hid (LA11.out.trans (hbb8.mono LA11.out.size))
  have LW12 := Lib.hid (LW11.out.trans (hbb8.mono LW11.out.size))
  clear LB11 LR11 LG0_11 LG1_11 LG2_11 LG3_11 LG4_11 LG5_11 LV11 LA11 LW11
  clear HT hbb8 q3_0 q3_1 q3_2 q3_3 q3_4 q3_5 q3_6 q3_7 q3_8 q4_0 q4_1 q4_2 q4_3 q4_4 q4_5 q4_6 q4_7 q4_8
  have h8x := h8
  go_wp2_with fail
  refine (far_any 1 _).mono ?_
  rintro e w7 ⟨g9, A9, n9, k9, B9, m9, d9, rfl, h9, hb7⟩
  have LB13 := Lib.hid (LB12.out.trans (hb7.mono LB12.out.size))
  have LR13 := Lib.hid (LR12.out.keep hb7)
  have LG0_13 := Lib.hid (LG0_12.out.keep hb7)
  have LG1_13 := Lib.hid (LG1_12.out.keep hb7)
  have LG2_13 := Lib.hid (LG2_12.out.keep hb7)
  have LG3_13 := Lib.hid (LG3_12.out.keep hb7)
  have LG4_13 := Lib.hid (LG4_12.out.keep hb7)
  have LG5_13 := Lib.hid (LG5_12.out.keep hb7)
  have LV13 := Lib.hid (LV12.out.trans (hb7.mono LV12.out.size))
  have LA13 := Lib.hid (LA12.out.trans (hb7.mono LA12.out.size))
  have LW13 := Lib.hid (LW12.out.trans (hb7.mono LW12.out.size))
  clear LB12 LR12 LG0_12 LG1_12 LG2_12 LG3_12 LG4_12 LG5_12 LV12 LA12 LW12
  have H8 := Lib.hid (h8.below hb7)
  have H9 := Lib.hid h9.k34
  clear h8 h8x h9 hb7
  have LQ13 := Lib.hid (Below.refl w7.heap.size w7)
  have hl57 := LG5_13.out.lt
  go_upto_region 13 with fail
  have hlp2 := LV13.out.size
  have hlp3 := LA13.out.size
  have hlp4 := LW13.out.size
  have hlt14 := LR13.out.lt
  have LB14 := Lib.hid (LB13.out.alloc LB13.out.size (.cells #[.bool false, .int .i64 s1, .bool g8, .slice A8 n8 k8, .slice B8 m8 d8, .int .i64 1, .bool o8, .int .i64 1, .bool g9, .slice A9 n9 k9, .slice B9 m9 d9, .int .i64 1, .bool true] 56))
  have LR14 := Lib.hid (LR13.out.alloc (.cells #[.bool false, .int .i64 s1, .bool g8, .slice A8 n8 k8, .slice B8 m8 d8, .int .i64 1, .bool o8, .int .i64 1, .bool g9, .slice A9 n9 k9, .slice B9 m9 d9, .int .i64 1, .bool true] 56))
  have LG0_14 := Lib.hid (LG0_13.out.alloc (.cells #[.bool false, .int .i64 s1, .bool g8, .slice A8 n8 k8, .slice B8 m8 d8, .int .i64 1, .bool o8, .int .i64 1, .bool g9, .slice A9 n9 k9, .slice B9 m9 d9, .int .i64 1, .bool true] 56))
  have LG1_14 := Lib.hid (LG1_13.out.alloc (.cells #[.bool false, .int .i64 s1, .bool g8, .slice A8 n8 k8, .slice B8 m8 d8, .int .i64 1, .bool o8, .int .i64 1, .bool g9, .slice A9 n9 k9, .slice B9 m9 d9, .int .i64 1, .bool true] 56))
  have LG2_14 := Lib.hid (LG2_13.out.alloc (.cells #[.bool false, .int .i64 s1, .bool g8, .slice A8 n8 k8, .slice B8 m8 d8, .int .i64 1, .bool o8, .int .i64 1, .bool g9, .slice A9 n9 k9, .slice B9 m9 d9, .int .i64 1, .bool true] 56))
  have LG3_14 := Lib.hid (LG3_13.out.alloc (.cells #[.bool false, .int .i64 s1, .bool g8, .slice A8 n8 k8, .slice B8 m8 d8, .int .i64 1, .bool o8, .int .i64 1, .bool g9, .slice A9 n9 k9, .slice B9 m9 d9, .int .i64 1, .bool true] 56))
  have LG4_14 := Lib.hid (LG4_13.out.alloc (.cells #[.bool false, .int .i64 s1, .bool g8, .slice A8 n8 k8, .slice B8 m8 d8, .int .i64 1, .bool o8, .int .i64 1, .bool g9, .slice A9 n9 k9, .slice B9 m9 d9, .int .i64 1, .bool true] 56))
  have LG5_14 := Lib.hid (LG5_13.out.alloc (.cells #[.bool false, .int .i64 s1, .bool g8, .slice A8 n8 k8, .slice B8 m8 d8, .int .i64 1, .bool o8, .int .i64 1, .bool g9, .slice A9 n9 k9, .slice B9 m9 d9, .int .i64 1, .bool true] 56))
  have LG6_14 := Lib.hid (Blk.new w7 56 #[.bool false, .int .i64 s1, .bool g8, .slice A8 n8 k8, .slice B8 m8 d8, .int .i64 1, .bool o8, .int .i64 1, .bool g9, .slice A9 n9 k9, .slice B9 m9 d9, .int .i64 1, .bool true])
  have LV14 := Lib.hid (LV13.out.alloc LV13.out.size (.cells #[.bool false, .int .i64 s1, .bool g8, .slice A8 n8 k8, .slice B8 m8 d8, .int .i64 1, .bool o8, .int .i64 1, .bool g9, .slice A9 n9 k9, .slice B9 m9 d9, .int .i64 1, .bool true] 56))
  have LA14 := Lib.hid (LA13.out.alloc LA13.out.size (.cells #[.bool false, .int .i64 s1, .bool g8, .slice A8 n8 k8, .slice B8 m8 d8, .int .i64 1, .bool o8, .int .i64 1, .bool g9, .slice A9 n9 k9, .slice B9 m9 d9, .int .i64 1, .bool true] 56))
  have LW14 := Lib.hid (LW13.out.alloc LW13.out.size (.cells #[.bool false, .int .i64 s1, .bool g8, .slice A8 n8 k8, .slice B8 m8 d8, .int .i64 1, .bool o8, .int .i64 1, .bool g9, .slice A9 n9 k9, .slice B9 m9 d9, .int .i64 1, .bool true] 56))
  have LQ14 := Lib.hid (LQ13.out.alloc LQ13.out.size (.cells #[.bool false, .int .i64 s1, .bool g8, .slice A8 n8 k8, .slice B8 m8 d8, .int .i64 1, .bool o8, .int .i64 1, .bool g9, .slice A9 n9 k9, .slice B9 m9 d9, .int .i64 1, .bool true] 56))
  clear LB13 LR13 LG0_13 LG1_13 LG2_13 LG3_13 LG4_13 LG5_13 LV13 LA13 LW13 LQ13
  obtain ⟨V7, hV7⟩ : ∃ X, (w7.alloc (.cells #[.bool false, .int .i64 s1, .bool g8, .slice A8 n8 k8, .slice B8 m8 d8, .int .i64 1, .bool o8, .int .i64 1, .bool g9, .slice A9 n9 k9, .slice B9 m9 d9, .int .i64 1, .bool true] 56)) = X := ⟨_, rfl⟩
  rw [hV7] at LB14 LR14 LG0_14 LG1_14 LG2_14 LG3_14 LG4_14 LG5_14 LG6_14 LV14 LA14 LW14 LQ14 ⊢
  clear hV7
  skip
  have q3_0 : _ = some (.bool false : Value) := LG3_14.out.cell 0
  have q3_1 : _ = some (.int .i64 s1 : Value) := LG3_14.out.cell 1
  have q3_2 : _ = some (.bool g1 : Value) := LG3_14.out.cell 2
  have q3_3 : _ = some (.slice A1 n1 k1 : Value) := LG3_14.out.cell 3
  have q3_4 : _ = some (.slice B1 m1 d1 : Value) := LG3_14.out.cell 4
  have q3_5 : _ = some (.int .i64 s2 : Value) := LG3_14.out.cell 5
  have q3_6 : _ = some (.bool g2 : Value) := LG3_14.out.cell 6
  have q3_7 : _ = some (.slice A2 n2 k2 : Value) := LG3_14.out.cell 7
  have q3_8 : _ = some (.slice B2 m2 d2 : Value) := LG3_14.out.cell 8
  have q4_0 : _ = some (.bool false : Value) := LG4_14.out.cell 0
  have q4_1 : _ = some (.int .i64 s3 : Value) := LG4_14.out.cell 1
  have q4_2 : _ = some (.bool g3 : Value) := LG4_14.out.cell 2
  have q4_3 : _ = some (.slice A3 n3 k3 : Value) := LG4_14.out.cell 3
  have q4_4 : _ = some (.slice B3 m3 d3 : Value) := LG4_14.out.cell 4
  have q4_5 : _ = some (.int .i64 s4 : Value) := LG4_14.out.cell 5
  have q4_6 : _ = some (.bool g4 : Value) := LG4_14.out.cell 6
  have q4_7 : _ = some (.slice A4 n4 k4 : Value) := LG4_14.out.cell 7
  have q4_8 : _ = some (.slice B4 m4 d4 : Value) := LG4_14.out.cell 8
  have HT := Lib.hid (ecmp_any 34 s1 g1 A1 n1 k1 B1 m1 d1 x1 s3 g3 A3 n3 k3 B3 m3 d3 x3 _ (H1.out.below LV14.out) (H3.out.below LV14.out) (by omega))
  rw [R13.out] at HT
  go_wp2_with fail
  refine HT.out.mono ?_
  rintro e wc5 ⟨rfl, hbc5⟩
  have LB15 := Lib.hid (LB14.out.trans (hbc5.mono LB14.out.size))
  have LR15 := Lib.hid (LR14.out.keep hbc5)
  have LG0_15 := Lib.hid (LG0_14.out.keep hbc5)
  have LG1_15 := Lib.hid (LG1_14.out.keep hbc5)
  have LG2_15 := Lib.hid (LG2_14.out.keep hbc5)
  have LG3_15 := Lib.hid (LG3_14.out.keep hbc5)
  have LG4_15 := Lib.hid (LG4_14.out.keep hbc5)
  have LG5_15 := Lib.hid (LG5_14.out.keep hbc5)
  have LG6_15 := Lib.hid (LG6_14.out.keep hbc5)
  have LV15 := Lib.hid (LV14.out.trans (hbc5.mono LV14.out.size))
  have LA15 := Lib.hid (LA14.out.trans (hbc5.mono LA14.out.size))
  have LW15 := Lib.hid (LW14.out.trans (hbc5.mono LW14.out.size))
  have LQ15 := Lib.hid (LQ14.out.trans (hbc5.mono LQ14.out.size))
  clear LB14 LR14 LG0_14 LG1_14 LG2_14 LG3_14 LG4_14 LG5_14 LG6_14 LV14 LA14 LW14 LQ14
  clear HT hbc5 q3_0 q3_1 q3_2 q3_3 q3_4 q3_5 q3_6 q3_7 q3_8 q4_0 q4_1 q4_2 q4_3 q4_4 q4_5 q4_6 q4_7 q4_8
  have hbd := HBD.out
  have hqq := HQQ.out
  have hM : M = 9218868437227405312 := rfl
  have PC2 := Lib.hid (show PcVal wc5 i1 M [.bool false, .int .i64 s1, .bool g8, .slice A8 n8 k8, .slice B8 m8 d8, .int .i64 1, .bool o8, .int .i64 1, .bool g9, .slice A9 n9 k9, .slice B9 m9 d9, .int .i64 1, .bool true] from ⟨by omega, by omega, by omega, by omega, by omega, g8, A8, n8, k8, B8, m8, d8, g9, A9, n9, k9, B9, m9, d9, by rw [ES1.out, EO8.out, es_max]; rfl, by rw [EX1.out]; exact (H8.out.below LQ15.out), by rw [ex_max]; exact H9.out.below LQ15.out⟩)
  clear hbd hqq hM
  have q6_0 : _ = some (.bool false : Value) := LG6_15.out.cell 0
  have q6_1 : _ = some (.int .i64 s1 : Value) := LG6_15.out.cell 1
  have q6_2 : _ = some (.bool g8 : Value) := LG6_15.out.cell 2
  have q6_3 : _ = some (.slice A8 n8 k8 : Value) := LG6_15.out.cell 3
  have q6_4 : _ = some (.slice B8 m8 d8 : Value) := LG6_15.out.cell 4
  have q6_5 : _ = some (.int .i64 1 : Value) := LG6_15.out.cell 5
  have q6_6 : _ = some (.bool o8 : Value) := LG6_15.out.cell 6
  have q6_7 : _ = some (.int .i64 1 : Value) := LG6_15.out.cell 7
  have q6_8 : _ = some (.bool g9 : Value) := LG6_15.out.cell 8
  have q6_9 : _ = some (.slice A9 n9 k9 : Value) := LG6_15.out.cell 9
  have q6_10 : _ = some (.slice B9 m9 d9 : Value) := LG6_15.out.cell 10
  have q6_11 : _ = some (.int .i64 1 : Value) := LG6_15.out.cell 11
  have q6_12 : _ = some (.bool true : Value) := LG6_15.out.cell 12
  have hsz := LA15.out.size
  go_wp2_with (at_builtin; refine wpList_append_pc _ rfl _ _ rfl wc2.heap.size _ 1 _ rfl ((OWN.out.keep LW15.out).alloc _) ⟨wc5.heap.size, 0, none⟩ 1 [.bool false, .int .i64 s1, .bool g8, .slice A8 n8 k8, .slice B8 m8 d8, .int .i64 1, .bool o8, .int .i64 1, .bool g9, .slice A9 n9 k9, .slice B9 m9 d9, .int .i64 1, .bool true] rfl rfl ?c1 ?c2 (by omega) ?c3 ?_)
  case c1 => exact fun j u hu => lit_cells wc5 _ _ j u hu
  case c2 => intro u hu; exact List.all_eq_true.1 (show List.all [.bool false, .int .i64 s1, .bool g8, .slice A8 n8 k8, .slice B8 m8 d8, .int .i64 1, .bool o8, .int .i64 1, .bool g9, .slice A9 n9 k9, .slice B9 m9 d9, .int .i64 1, .bool true] Value.oneCell' = true from rfl) u hu
  case c3 => simp; omega
  intro v2 w8 hown2 hgrow
  obtain ⟨gs, cap2, rfl, hgs, hcap2⟩ := hown2.form (by omega)
  have hbz : Below wc2.heap.size wc2 w8 := (LA15.out.alloc hsz _).grown hgrow (by simp; omega) (fun k hk => Nat.le_trans hg1 (Nat.le_of_eq (by simpa [Value.ownBlock] using hk)))
  have LBX := Lib.hid (KB.out.trans (hbz.mono KB.out.size))
  have LRX := Lib.hid (KR.out.keep hbz)
  have LGX := Lib.hid (KX.out.keep hbz)
  have PZ1 := Lib.hid (PC1.out.below hbz)
  have PZ2 := Lib.hid ((PC2.out.below (below_alloc wc5 _)).grown ((GB.out.keep LW15.out).alloc _) NW.out hgrow)
  have OWN2 := Lib.hid hown2
  clear hown2 hgrow hbz
  clear q6_0 q6_1 q6_2 q6_3 q6_4 q6_5 q6_6 q6_7 q6_8 q6_9 q6_10 q6_11 q6_12 LB15 LR15 LG0_15 LG1_15 LG2_15 LG3_15 LG4_15 LG5_15 LG6_15 LV15 LA15 LW15 LQ15
  have LB90 := Lib.hid LBX.out
  have LR90 := Lib.hid LRX.out
  have LG0_90 := Lib.hid LGX.out
  clear LBX LRX LGX
  have q0_0 : _ = some (.int .u64 (x : Int) : Value) := LG0_90.out.cell 0
  have q0_1 : _ = some (.int .u64 (y : Int) : Value) := LG0_90.out.cell 1
  have HT := Lib.hid (HALL.out ⟨gs, 0, none⟩ 2 cap2 w8 (by omega) hcap2 (fun k hk => by
    have hk2 : k = 0 ∨ k = 1 := by omega
    rcases hk2 with rfl | rfl
    · rw [D1.out]
      exact pcAt_of (p := [.bool false, .int .i64 s1, .bool g5, .slice A5 n5 k5, .slice B5 m5 d5, .int .i64 1, .bool o5, .int .i64 s2, .bool g6, .slice A6 n6 k6, .slice B6 m6 d6, .int .i64 1, .bool o6]) OWN2.out (by omega) (fun j hj => match j, hj with | 0, _ => rfl | 1, _ => rfl | 2, _ => rfl | 3, _ => rfl | 4, _ => rfl | 5, _ => rfl | 6, _ => rfl | 7, _ => rfl | 8, _ => rfl | 9, _ => rfl | 10, _ => rfl | 11, _ => rfl | 12, _ => rfl) PZ1.out
    · rw [D2.out]
      exact pcAt_of (p := [.bool false, .int .i64 s1, .bool g8, .slice A8 n8 k8, .slice B8 m8 d8, .int .i64 1, .bool o8, .int .i64 1, .bool g9, .slice A9 n9 k9, .slice B9 m9 d9, .int .i64 1, .bool true]) OWN2.out (by omega) (fun j hj => match j, hj with | 0, _ => rfl | 1, _ => rfl | 2, _ => rfl | 3, _ => rfl | 4, _ => rfl | 5, _ => rfl | 6, _ => rfl | 7, _ => rfl | 8, _ => rfl | 9, _ => rfl | 10, _ => rfl | 11, _ => rfl | 12, _ => rfl) PZ2.out))
  rw [HPP.out] at HT
  go_wp2_with fail
  refine HT.out.mono ?_
  rintro e w9 ⟨rfl, hb9⟩
  have LB91 := Lib.hid (LB90.out.trans (hb9.mono LB90.out.size))
  have LR91 := Lib.hid (LR90.out.keep hb9)
  have LG0_91 := Lib.hid (LG0_90.out.keep hb9)
  clear LB90 LR90 LG0_90
  clear HT hb9 q0_0 q0_1
  have ha0 := LR91.out.someCell 0 (by decide)
  have hf0 := LR91.out.frozen 0
  have ha1 := LR91.out.someCell 1 (by decide)
  have hf1 := LR91.out.frozen 1
  have hk0 := LR91.out.setCell [.int .u64 (pat PP.1 : Int), .int .u64 (pat PP.2 : Int)] rfl 0 (by decide)
  have hk1 := LR91.out.setCell [.int .u64 (pat PP.1 : Int), .int .u64 (pat PP.2 : Int)] rfl 1 (by decide)
  have F := Lib.hid (below_sets (w0 := w) (r := (w.heap.size + 3)) (by omega) [.int .u64 (pat PP.1 : Int), .int .u64 (pat PP.2 : Int)] 0 _ LB91.out)
  simp [sets] at hk0 hk1
  go_wp2
  refine bodyPost_ret (v := .agg #[.int .u64 (pat PP.1 : Int), .int .u64 (pat PP.2 : Int)]) (by simp [results, Try.results7, go_sem, hk0, hk1]) rfl ?_
  exact ⟨rfl, F.out⟩

set_option maxRecDepth 2000 in
set_option maxHeartbeats 12800000 in
theorem mr_2l (b1 b2 c1 c2 x y : Nat) (i1 i2 i3 i4 : Int) (w : World) (hb1 : b1 < 18446744073709551616) (hb2 : b2 < 18446744073709551616) (hc1 : c1 < 18446744073709551616) (hc2 : c2 < 18446744073709551616) (hx : x < 18446744073709551616) (hy : y < 18446744073709551616) (hcc : snd c1 c2 = true) (hbb : snd b1 b2 = true) (e1 : idx c1 = i1) (e2 : idx c2 = i2) (e3 : idx b1 = i3) (e4 : idx b2 = i4) (q0 : i1 ≤ i4) (q1 : i2 ≤ i4) (q2 : i3 ≤ i2) (q3 : i1 < i3) :
    Calls Try.prog 7 #[.agg #[.int .u64 (b1 : Int), .int .u64 (b2 : Int)], .agg #[.int .u64 (c1 : Int), .int .u64 (c2 : Int)], .agg #[.int .u64 (x : Int), .int .u64 (y : Int)]] w fun e w' => e = .returned (.agg #[.int .u64 (pat (zf (rd x y).1 (rd x y).2 (mrL i3 i4 i1 i2) 2).1 : Int), .int .u64 (pat (zf (rd x y).1 (rd x y).2 (mrL i3 i4 i1 i2) 2).2 : Int)]) ∧ Below w.heap.size w w' := by
  have hdc := of_decide_eq_true hcc
  have hdb := of_decide_eq_true hbb
  have a1 := idx_bounds hdc.1
  have a2 := idx_bounds hdc.2.1
  have a3 := idx_bounds hdb.1
  have a4 := idx_bounds hdb.2.1
  rw [e1] at a1; rw [e2] at a2; rw [e3] at a3; rw [e4] at a4
  have u1 := hdc.2.2; have u2 := hdb.2.2
  rw [e1, e2] at u1; rw [e3, e4] at u2
  have HC := Lib.hid fun W => of_full c1 c2 W hc1 hc2 hcc
  have HBB := Lib.hid fun W => of_full b1 b2 W hb1 hb2 hbb
  rw [e1, e2] at HC
  rw [e3, e4] at HBB
  have Q14 := ec_idx a1.1 a1.2 a4.1 a4.2
  have Q42 := ec_idx a4.1 a4.2 a2.1 a2.2
  have Q32 := ec_idx a3.1 a3.2 a2.1 a2.2
  have Q13 := ec_idx a1.1 a1.2 a3.1 a3.2
  unfold SameSign at Q14 Q42 Q32 Q13
  have z1 : es i1 ≠ 0 → ex i1 = 0 := ex_inf
  have z2 : es i2 ≠ 0 → ex i2 = 0 := ex_inf
  have z3 : es i3 ≠ 0 → ex i3 = 0 := ex_inf
  have z4 : es i4 ≠ 0 → ex i4 = 0 := ex_inf
  have D1 : mrL i3 i4 i1 i2 0 = (i1, i2) := by unfold mrL; rw [if_pos rfl, show min i2 i4 = i2 from by omega]
  have D2 : mrL i3 i4 i1 i2 1 = (i3, (M : Int)) := by unfold mrL; rw [if_neg (by decide), show max i1 i3 = i3 from by omega]
  obtain ⟨L, hL⟩ : ∃ L, mrL i3 i4 i1 i2 = L := ⟨_, rfl⟩
  rw [hL] at D1 D2 ⊢
  clear hL
  have E1 := Lib.hid (rfl : es i1 = es i1)
  obtain ⟨s1, es1⟩ : ∃ s, es i1 = s := ⟨_, rfl⟩
  obtain ⟨x1, ex1⟩ : ∃ s, ex i1 = s := ⟨_, rfl⟩
  have ES1 := Lib.hid es1
  have EX1 := Lib.hid ex1
  rw [es1, ex1] at z1
  obtain ⟨s2, es2⟩ : ∃ s, es i2 = s := ⟨_, rfl⟩
  obtain ⟨x2, ex2⟩ : ∃ s, ex i2 = s := ⟨_, rfl⟩
  have ES2 := Lib.hid es2
  have EX2 := Lib.hid ex2
  rw [es2, ex2] at z2
  obtain ⟨s3, es3⟩ : ∃ s, es i3 = s := ⟨_, rfl⟩
  obtain ⟨x3, ex3⟩ : ∃ s, ex i3 = s := ⟨_, rfl⟩
  have ES3 := Lib.hid es3
  have EX3 := Lib.hid ex3
  rw [es3, ex3] at z3
  obtain ⟨s4, es4⟩ : ∃ s, es i4 = s := ⟨_, rfl⟩
  obtain ⟨x4, ex4⟩ : ∃ s, ex i4 = s := ⟨_, rfl⟩
  have ES4 := Lib.hid es4
  have EX4 := Lib.hid ex4
  rw [es4, ex4] at z4
  rw [es1, ex1, es2, ex2] at HC
  rw [es3, ex3, es4, ex4] at HBB
  rw [es1, ex1, es4, ex4] at Q14
  rw [es4, ex4, es2, ex2] at Q42
  rw [es3, ex3, es2, ex2] at Q32
  rw [es1, ex1, es3, ex3] at Q13
  obtain ⟨r14, er14⟩ : ∃ r, ec s1 x1 s4 x4 = r := ⟨_, rfl⟩
  obtain ⟨r42, er42⟩ : ∃ r, ec s4 x4 s2 x2 = r := ⟨_, rfl⟩
  obtain ⟨r32, er32⟩ : ∃ r, ec s3 x3 s2 x2 = r := ⟨_, rfl⟩
  obtain ⟨r13, er13⟩ : ∃ r, ec s1 x1 s3 x3 = r := ⟨_, rfl⟩
  rw [er14] at Q14; rw [er42] at Q42; rw [er32] at Q32; rw [er13] at Q13
  have R14 := Lib.hid er14
  have R42 := Lib.hid er42
  have R32 := Lib.hid er32
  have R13 := Lib.hid er13
  have c14 : r14 ≤ 0 := by omega
  have d14 : decide (r14 ≤ 0) = true := by simp; omega
  have c42 : ¬ r42 < 0 := by omega
  have c32 : decide (r32 ≤ 0) = true := by simp; omega
  have c13 : r13 < 0 := by omega
  have hM : M = 9218868437227405312 := rfl
  have HBD := Lib.hid (⟨a1, a2, a3, a4, u1, u2⟩ : _ ∧ _ ∧ _ ∧ _ ∧ _ ∧ _)
  have HQQ := Lib.hid (⟨q0, q1, q2, q3, trivial⟩ : i1 ≤ i4 ∧ i2 ≤ i4 ∧ i3 ≤ i2 ∧ i1 < i3 ∧ True)
  have Z1 := Lib.hid z1
  have Z2 := Lib.hid z2
  have Z3 := Lib.hid z3
  have Z4 := Lib.hid z4
  have D1 := Lib.hid D1
  have D2 := Lib.hid D2
  have HALL := Lib.hid fun (ad : Addr) (n c : Nat) W (h1 : n ≤ 100) (h2 : n ≤ c) (h3 : ∀ k : Nat, k < n → PcAt W ad k (L k).1 (L k).2) => all_any x y ad n c L W hx hy h1 h2 h3
  obtain ⟨PP, hPP⟩ : ∃ P, zf (rd x y).1 (rd x y).2 L 2 = P := ⟨_, rfl⟩
  rw [hPP]
  have HPP := Lib.hid hPP
  clear hPP
  clear hdc hdb a1 a2 a3 a4 u1 u2 Q14 Q42 Q32 Q13 es1 es2 es3 es4 ex1 ex2 ex3 ex4 er14 er42 er32 er13 e1 e2 e3 e4 z1 z2 z3 z4 hM hcc hbb q0 q1 q2 q3
  have LB0 := Lib.hid (show Below w.heap.size w ((((w.alloc (.cells #[.int .u64 (b1 : Int), .int .u64 (b2 : Int)] 24)).alloc (.cells #[.int .u64 (c1 : Int), .int .u64 (c2 : Int)] 24)).alloc (.cells #[.int .u64 (x : Int), .int .u64 (y : Int)] 24)).alloc (.cells #[.int .u64 0, .int .u64 0] 24)) from ((((below_alloc w _).alloc (by simp <;> omega) _).alloc (by simp <;> omega) _).alloc (by simp <;> omega) _))
  have LG0_0 := Lib.hid (((((Blk.at (W := w) (g := w.heap.size) (by simp <;> omega) 24 #[.int .u64 (b1 : Int), .int .u64 (b2 : Int)]).alloc (.cells #[.int .u64 (c1 : Int), .int .u64 (c2 : Int)] 24)).alloc (.cells #[.int .u64 (x : Int), .int .u64 (y : Int)] 24)).alloc (.cells #[.int .u64 0, .int .u64 0] 24)))
  have LG1_0 := Lib.hid ((((Blk.at (W := (w.alloc (.cells #[.int .u64 (b1 : Int), .int .u64 (b2 : Int)] 24))) (g := (w.heap.size + 1)) (by simp <;> omega) 24 #[.int .u64 (c1 : Int), .int .u64 (c2 : Int)]).alloc (.cells #[.int .u64 (x : Int), .int .u64 (y : Int)] 24)).alloc (.cells #[.int .u64 0, .int .u64 0] 24)))
  have LG2_0 := Lib.hid (((Blk.at (W := ((w.alloc (.cells #[.int .u64 (b1 : Int), .int .u64 (b2 : Int)] 24)).alloc (.cells #[.int .u64 (c1 : Int), .int .u64 (c2 : Int)] 24))) (g := (w.heap.size + 2)) (by simp <;> omega) 24 #[.int .u64 (x : Int), .int .u64 (y : Int)]).alloc (.cells #[.int .u64 0, .int .u64 0] 24)))
  have LR0 := Lib.hid (HasBlk.of (n := 2) (Blk.at (W := (((w.alloc (.cells #[.int .u64 (b1 : Int), .int .u64 (b2 : Int)] 24)).alloc (.cells #[.int .u64 (c1 : Int), .int .u64 (c2 : Int)] 24)).alloc (.cells #[.int .u64 (x : Int), .int .u64 (y : Int)] 24))) (g := (w.heap.size + 3)) (by simp <;> omega) 24 #[.int .u64 0, .int .u64 0]) rfl rfl)
  go_enter Try.func7, Try.ntmps7
  go_wp2_with fail
  refine (HC.out _).mono ?_
  rintro e w1 ⟨g1, A1, n1, k1, B1, m1, d1, g2, A2, n2, k2, B2, m2, d2, rfl, h1, h2, hbA⟩
  have LB1 := Lib.hid (LB0.out.trans (hbA.mono LB0.out.size))
  have LR1 := Lib.hid (LR0.out.keep hbA)
  have LG0_1 := Lib.hid (LG0_0.out.keep hbA)
  have LG1_1 := Lib.hid (LG1_0.out.keep hbA)
  have LG2_1 := Lib.hid (LG2_0.out.keep hbA)
  clear LB0 LR0 LG0_0 LG1_0 LG2_0
  go_upto_region 2 with fail
  have hlt2 := LR1.out.lt
  have LB2 := Lib.hid (LB1.out.alloc LB1.out.size (.cells #[.bool false, .int .i64 s1, .bool g1, .slice A1 n1 k1, .slice B1 m1 d1, .int .i64 s2, .bool g2, .slice A2 n2 k2, .slice B2 m2 d2] 48))
  have LR2 := Lib.hid (LR1.out.alloc (.cells #[.bool false, .int .i64 s1, .bool g1, .slice A1 n1 k1, .slice B1 m1 d1, .int .i64 s2, .bool g2, .slice A2 n2 k2, .slice B2 m2 d2] 48))
  have LG0_2 := Lib.hid (LG0_1.out.alloc (.cells #[.bool false, .int .i64 s1, .bool g1, .slice A1 n1 k1, .slice B1 m1 d1, .int .i64 s2, .bool g2, .slice A2 n2 k2, .slice B2 m2 d2] 48))
  have LG1_2 := Lib.hid (LG1_1.out.alloc (.cells #[.bool false, .int .i64 s1, .bool g1, .slice A1 n1 k1, .slice B1 m1 d1, .int .i64 s2, .bool g2, .slice A2 n2 k2, .slice B2 m2 d2] 48))
  have LG2_2 := Lib.hid (LG2_1.out.alloc (.cells #[.bool false, .int .i64 s1, .bool g1, .slice A1 n1 k1, .slice B1 m1 d1, .int .i64 s2, .bool g2, .slice A2 n2 k2, .slice B2 m2 d2] 48))
  have LG3_2 := Lib.hid (Blk.new w1 48 #[.bool false, .int .i64 s1, .bool g1, .slice A1 n1 k1, .slice B1 m1 d1, .int .i64 s2, .bool g2, .slice A2 n2 k2, .slice B2 m2 d2])
  clear LB1 LR1 LG0_1 LG1_1 LG2_1
  have h1a := h1.below (below_alloc w1 (.cells #[.bool false, .int .i64 s1, .bool g1, .slice A1 n1 k1, .slice B1 m1 d1, .int .i64 s2, .bool g2, .slice A2 n2 k2, .slice B2 m2 d2] 48))
  have h2a := h2.below (below_alloc w1 (.cells #[.bool false, .int .i64 s1, .bool g1, .slice A1 n1 k1, .slice B1 m1 d1, .int .i64 s2, .bool g2, .slice A2 n2 k2, .slice B2 m2 d2] 48))
  obtain ⟨V1, hV1⟩ : ∃ X, (w1.alloc (.cells #[.bool false, .int .i64 s1, .bool g1, .slice A1 n1 k1, .slice B1 m1 d1, .int .i64 s2, .bool g2, .slice A2 n2 k2, .slice B2 m2 d2] 48)) = X := ⟨_, rfl⟩
  have hlV : w1.heap.size < V1.heap.size := by rw [← hV1]; simp
  rw [hV1] at LB2 LR2 LG0_2 LG1_2 LG2_2 LG3_2 h1a h2a ⊢
  clear hV1 h1 h2 hbA
  have q0_0 : _ = some (.int .u64 (b1 : Int) : Value) := LG0_2.out.cell 0
  have q0_1 : _ = some (.int .u64 (b2 : Int) : Value) := LG0_2.out.cell 1
  go_wp2_with fail
  refine (HBB.out _).mono ?_
  rintro e w2 ⟨g3, A3, n3, k3, B3, m3, d3, g4, A4, n4, k4, B4, m4, d4, rfl, h3, h4, hbB⟩
  have LB3 := Lib.hid (LB2.out.trans (hbB.mono LB2.out.size))
  have LR3 := Lib.hid (LR2.out.keep hbB)
  have LG0_3 := Lib.hid (LG0_2.out.keep hbB)
  have LG1_3 := Lib.hid (LG1_2.out.keep hbB)
  have LG2_3 := Lib.hid (LG2_2.out.keep hbB)
  have LG3_3 := Lib.hid (LG3_2.out.keep hbB)
  clear LB2 LR2 LG0_2 LG1_2 LG2_2 LG3_2
  have h1b := h1a.below hbB
  have h2b := h2a.below hbB
  have hlW := hbB.size
  clear h1a h2a hbB q0_0 q0_1
  go_upto_region 3 with fail
  have hlt4 := LR3.out.lt
  have LB4 := Lib.hid (LB3.out.alloc LB3.out.size (.cells #[.bool false, .int .i64 s3, .bool g3, .slice A3 n3 k3, .slice B3 m3 d3, .int .i64 s4, .bool g4, .slice A4 n4 k4, .slice B4 m4 d4] 48))
  have LR4 := Lib.hid (LR3.out.alloc (.cells #[.bool false, .int .i64 s3, .bool g3, .slice A3 n3 k3, .slice B3 m3 d3, .int .i64 s4, .bool g4, .slice A4 n4 k4, .slice B4 m4 d4] 48))
  have LG0_4 := Lib.hid (LG0_3.out.alloc (.cells #[.bool false, .int .i64 s3, .bool g3, .slice A3 n3 k3, .slice B3 m3 d3, .int .i64 s4, .bool g4, .slice A4 n4 k4, .slice B4 m4 d4] 48))
  have LG1_4 := Lib.hid (LG1_3.out.alloc (.cells #[.bool false, .int .i64 s3, .bool g3, .slice A3 n3 k3, .slice B3 m3 d3, .int .i64 s4, .bool g4, .slice A4 n4 k4, .slice B4 m4 d4] 48))
  have LG2_4 := Lib.hid (LG2_3.out.alloc (.cells #[.bool false, .int .i64 s3, .bool g3, .slice A3 n3 k3, .slice B3 m3 d3, .int .i64 s4, .bool g4, .slice A4 n4 k4, .slice B4 m4 d4] 48))
  have LG3_4 := Lib.hid (LG3_3.out.alloc (.cells #[.bool false, .int .i64 s3, .bool g3, .slice A3 n3 k3, .slice B3 m3 d3, .int .i64 s4, .bool g4, .slice A4 n4 k4, .slice B4 m4 d4] 48))
  have LG4_4 := Lib.hid (Blk.new w2 48 #[.bool false, .int .i64 s3, .bool g3, .slice A3 n3 k3, .slice B3 m3 d3, .int .i64 s4, .bool g4, .slice A4 n4 k4, .slice B4 m4 d4])
  clear LB3 LR3 LG0_3 LG1_3 LG2_3 LG3_3
  have H1 := Lib.hid (h1b.below (below_alloc w2 (.cells #[.bool false, .int .i64 s3, .bool g3, .slice A3 n3 k3, .slice B3 m3 d3, .int .i64 s4, .bool g4, .slice A4 n4 k4, .slice B4 m4 d4] 48)))
  have H2 := Lib.hid (h2b.below (below_alloc w2 (.cells #[.bool false, .int .i64 s3, .bool g3, .slice A3 n3 k3, .slice B3 m3 d3, .int .i64 s4, .bool g4, .slice A4 n4 k4, .slice B4 m4 d4] 48)))
  have H3 := Lib.hid (h3.below (below_alloc w2 (.cells #[.bool false, .int .i64 s3, .bool g3, .slice A3 n3 k3, .slice B3 m3 d3, .int .i64 s4, .bool g4, .slice A4 n4 k4, .slice B4 m4 d4] 48)))
  have H4 := Lib.hid (h4.below (below_alloc w2 (.cells #[.bool false, .int .i64 s3, .bool g3, .slice A3 n3 k3, .slice B3 m3 d3, .int .i64 s4, .bool g4, .slice A4 n4 k4, .slice B4 m4 d4] 48)))
  obtain ⟨V2, hV2⟩ : ∃ X, (w2.alloc (.cells #[.bool false, .int .i64 s3, .bool g3, .slice A3 n3 k3, .slice B3 m3 d3, .int .i64 s4, .bool g4, .slice A4 n4 k4, .slice B4 m4 d4] 48)) = X := ⟨_, rfl⟩
  have hlV2 : w2.heap.size < V2.heap.size := by rw [← hV2]; simp
  rw [hV2] at LB4 LR4 LG0_4 LG1_4 LG2_4 LG3_4 LG4_4 H1 H2 H3 H4 ⊢
  clear hV2 h1b h2b h3 h4
  have hlt9 : w1.heap.size < w2.heap.size := by omega
  have LV4 := Lib.hid (Below.refl V2.heap.size V2)
  have q3_0 : _ = some (.bool false : Value) := LG3_4.out.cell 0
  have q3_1 : _ = some (.int .i64 s1 : Value) := LG3_4.out.cell 1
  have q3_2 : _ = some (.bool g1 : Value) := LG3_4.out.cell 2
  have q3_3 : _ = some (.slice A1 n1 k1 : Value) := LG3_4.out.cell 3
  have q3_4 : _ = some (.slice B1 m1 d1 : Value) := LG3_4.out.cell 4
  have q3_5 : _ = some (.int .i64 s2 : Value) := LG3_4.out.cell 5
  have q3_6 : _ = some (.bool g2 : Value) := LG3_4.out.cell 6
  have q3_7 : _ = some (.slice A2 n2 k2 : Value) := LG3_4.out.cell 7
  have q3_8 : _ = some (.slice B2 m2 d2 : Value) := LG3_4.out.cell 8
  have q4_0 : _ = some (.bool false : Value) := LG4_4.out.cell 0
  have q4_1 : _ = some (.int .i64 s3 : Value) := LG4_4.out.cell 1
  have q4_2 : _ = some (.bool g3 : Value) := LG4_4.out.cell 2
  have q4_3 : _ = some (.slice A3 n3 k3 : Value) := LG4_4.out.cell 3
  have q4_4 : _ = some (.slice B3 m3 d3 : Value) := LG4_4.out.cell 4
  have q4_5 : _ = some (.int .i64 s4 : Value) := LG4_4.out.cell 5
  have q4_6 : _ = some (.bool g4 : Value) := LG4_4.out.cell 6
  have q4_7 : _ = some (.slice A4 n4 k4 : Value) := LG4_4.out.cell 7
  have q4_8 : _ = some (.slice B4 m4 d4 : Value) := LG4_4.out.cell 8
  have HT := Lib.hid (ecmp_any 34 s1 g1 A1 n1 k1 B1 m1 d1 x1 s4 g4 A4 n4 k4 B4 m4 d4 x4 _ (H1.out.below LV4.out) (H4.out.below LV4.out) (by omega))
  rw [R14.out] at HT
  go_wp2_with fail
  refine HT.out.mono ?_
  rintro e wc1 ⟨rfl, hbc1⟩
  have LB5 := Lib.hid (LB4.out.trans (hbc1.mono LB4.out.size))
  have LR5 := Lib.hid (LR4.out.keep hbc1)
  have LG0_5 := Lib.hid (LG0_4.out.keep hbc1)
  have LG1_5 := Lib.hid (LG1_4.out.keep hbc1)
  have LG2_5 := Lib.hid (LG2_4.out.keep hbc1)
  have LG3_5 := Lib.hid (LG3_4.out.keep hbc1)
  have LG4_5 := Lib.hid (LG4_4.out.keep hbc1)
  have LV5 := Lib.hid (LV4.out.trans (hbc1.mono LV4.out.size))
  clear LB4 LR4 LG0_4 LG1_4 LG2_4 LG3_4 LG4_4 LV4
  clear HT hbc1 q3_0 q3_1 q3_2 q3_3 q3_4 q3_5 q3_6 q3_7 q3_8 q4_0 q4_1 q4_2 q4_3 q4_4 q4_5 q4_6 q4_7 q4_8
  have q3_0 : _ = some (.bool false : Value) := LG3_5.out.cell 0
  have q3_1 : _ = some (.int .i64 s1 : Value) := LG3_5.out.cell 1
  have q3_2 : _ = some (.bool g1 : Value) := LG3_5.out.cell 2
  have q3_3 : _ = some (.slice A1 n1 k1 : Value) := LG3_5.out.cell 3
  have q3_4 : _ = some (.slice B1 m1 d1 : Value) := LG3_5.out.cell 4
  have q3_5 : _ = some (.int .i64 s2 : Value) := LG3_5.out.cell 5
  have q3_6 : _ = some (.bool g2 : Value) := LG3_5.out.cell 6
  have q3_7 : _ = some (.slice A2 n2 k2 : Value) := LG3_5.out.cell 7
  have q3_8 : _ = some (.slice B2 m2 d2 : Value) := LG3_5.out.cell 8
  have HT := Lib.hid (piece_some 34 s1 g1 A1 n1 k1 B1 m1 d1 x1 s2 g2 A2 n2 k2 B2 m2 d2 x2 _ (H1.out.below LV5.out) (H2.out.below LV5.out) (by omega) Z1.out Z2.out)
  obtain ⟨o5, eo5⟩ : ∃ s, decide (s1 ≠ 0) = s := ⟨_, rfl⟩
  obtain ⟨o6, eo6⟩ : ∃ s, decide (s2 ≠ 0) = s := ⟨_, rfl⟩
  rw [eo5, eo6] at HT
  have EO5 := Lib.hid eo5
  have EO6 := Lib.hid eo6
  clear eo5 eo6
  go_wp2_with fail
  refine HT.out.mono ?_
  rintro e w4 ⟨g5, A5, n5, k5, B5, m5, d5, g6, A6, n6, k6, B6, m6, d6, rfl, h5, h6, hb4⟩
  have LB6 := Lib.hid (LB5.out.trans (hb4.mono LB5.out.size))
  have LR6 := Lib.hid (LR5.out.keep hb4)
  have LG0_6 := Lib.hid (LG0_5.out.keep hb4)
  have LG1_6 := Lib.hid (LG1_5.out.keep hb4)
  have LG2_6 := Lib.hid (LG2_5.out.keep hb4)
  have LG3_6 := Lib.hid (LG3_5.out.keep hb4)
  have LG4_6 := Lib.hid (LG4_5.out.keep hb4)
  have LV6 := Lib.hid (LV5.out.trans (hb4.mono LV5.out.size))
  clear LB5 LR5 LG0_5 LG1_5 LG2_5 LG3_5 LG4_5 LV5
  clear HT hb4 q3_0 q3_1 q3_2 q3_3 q3_4 q3_5 q3_6 q3_7 q3_8
  have H5 := Lib.hid h5
  have H6 := Lib.hid h6
  clear h5 h6
  have LP6 := Lib.hid (Below.refl w4.heap.size w4)
  go_upto_region 8 with fail
  have hlp1 := LV6.out.size
  have hlt7 := LR6.out.lt
  have LB7 := Lib.hid (LB6.out.alloc LB6.out.size (.cells #[.bool false, .int .i64 s1, .bool g5, .slice A5 n5 k5, .slice B5 m5 d5, .int .i64 1, .bool o5, .int .i64 s2, .bool g6, .slice A6 n6 k6, .slice B6 m6 d6, .int .i64 1, .bool o6] 56))
  have LR7 := Lib.hid (LR6.out.alloc (.cells #[.bool false, .int .i64 s1, .bool g5, .slice A5 n5 k5, .slice B5 m5 d5, .int .i64 1, .bool o5, .int .i64 s2, .bool g6, .slice A6 n6 k6, .slice B6 m6 d6, .int .i64 1, .bool o6] 56))
  have LG0_7 := Lib.hid (LG0_6.out.alloc (.cells #[.bool false, .int .i64 s1, .bool g5, .slice A5 n5 k5, .slice B5 m5 d5, .int .i64 1, .bool o5, .int .i64 s2, .bool g6, .slice A6 n6 k6, .slice B6 m6 d6, .int .i64 1, .bool o6] 56))
  have LG1_7 := Lib.hid (LG1_6.out.alloc (.cells #[.bool false, .int .i64 s1, .bool g5, .slice A5 n5 k5, .slice B5 m5 d5, .int .i64 1, .bool o5, .int .i64 s2, .bool g6, .slice A6 n6 k6, .slice B6 m6 d6, .int .i64 1, .bool o6] 56))
  have LG2_7 := Lib.hid (LG2_6.out.alloc (.cells #[.bool false, .int .i64 s1, .bool g5, .slice A5 n5 k5, .slice B5 m5 d5, .int .i64 1, .bool o5, .int .i64 s2, .bool g6, .slice A6 n6 k6, .slice B6 m6 d6, .int .i64 1, .bool o6] 56))
  have LG3_7 := Lib.hid (LG3_6.out.alloc (.cells #[.bool false, .int .i64 s1, .bool g5, .slice A5 n5 k5, .slice B5 m5 d5, .int .i64 1, .bool o5, .int .i64 s2, .bool g6, .slice A6 n6 k6, .slice B6 m6 d6, .int .i64 1, .bool o6] 56))
  have LG4_7 := Lib.hid (LG4_6.out.alloc (.cells #[.bool false, .int .i64 s1, .bool g5, .slice A5 n5 k5, .slice B5 m5 d5, .int .i64 1, .bool o5, .int .i64 s2, .bool g6, .slice A6 n6 k6, .slice B6 m6 d6, .int .i64 1, .bool o6] 56))
  have LG5_7 := Lib.hid (Blk.new w4 56 #[.bool false, .int .i64 s1, .bool g5, .slice A5 n5 k5, .slice B5 m5 d5, .int .i64 1, .bool o5, .int .i64 s2, .bool g6, .slice A6 n6 k6, .slice B6 m6 d6, .int .i64 1, .bool o6])
  have LV7 := Lib.hid (LV6.out.alloc LV6.out.size (.cells #[.bool false, .int .i64 s1, .bool g5, .slice A5 n5 k5, .slice B5 m5 d5, .int .i64 1, .bool o5, .int .i64 s2, .bool g6, .slice A6 n6 k6, .slice B6 m6 d6, .int .i64 1, .bool o6] 56))
  have LP7 := Lib.hid (LP6.out.alloc LP6.out.size (.cells #[.bool false, .int .i64 s1, .bool g5, .slice A5 n5 k5, .slice B5 m5 d5, .int .i64 1, .bool o5, .int .i64 s2, .bool g6, .slice A6 n6 k6, .slice B6 m6 d6, .int .i64 1, .bool o6] 56))
  clear LB6 LR6 LG0_6 LG1_6 LG2_6 LG3_6 LG4_6 LV6 LP6
  obtain ⟨V4, hV4⟩ : ∃ X, (w4.alloc (.cells #[.bool false, .int .i64 s1, .bool g5, .slice A5 n5 k5, .slice B5 m5 d5, .int .i64 1, .bool o5, .int .i64 s2, .bool g6, .slice A6 n6 k6, .slice B6 m6 d6, .int .i64 1, .bool o6] 56)) = X := ⟨_, rfl⟩
  rw [hV4] at LB7 LR7 LG0_7 LG1_7 LG2_7 LG3_7 LG4_7 LG5_7 LV7 LP7 ⊢
  clear hV4
  have q3_0 : _ = some (.bool false : Value) := LG3_7.out.cell 0
  have q3_1 : _ = some (.int .i64 s1 : Value) := LG3_7.out.cell 1
  have q3_2 : _ = some (.bool g1 : Value) := LG3_7.out.cell 2
  have q3_3 : _ = some (.slice A1 n1 k1 : Value) := LG3_7.out.cell 3
  have q3_4 : _ = some (.slice B1 m1 d1 : Value) := LG3_7.out.cell 4
  have q3_5 : _ = some (.int .i64 s2 : Value) := LG3_7.out.cell 5
  have q3_6 : _ = some (.bool g2 : Value) := LG3_7.out.cell 6
  have q3_7 : _ = some (.slice A2 n2 k2 : Value) := LG3_7.out.cell 7
  have q3_8 : _ = some (.slice B2 m2 d2 : Value) := LG3_7.out.cell 8
  have q4_0 : _ = some (.bool false : Value) := LG4_7.out.cell 0
  have q4_1 : _ = some (.int .i64 s3 : Value) := LG4_7.out.cell 1
  have q4_2 : _ = some (.bool g3 : Value) := LG4_7.out.cell 2
  have q4_3 : _ = some (.slice A3 n3 k3 : Value) := LG4_7.out.cell 3
  have q4_4 : _ = some (.slice B3 m3 d3 : Value) := LG4_7.out.cell 4
  have q4_5 : _ = some (.int .i64 s4 : Value) := LG4_7.out.cell 5
  have q4_6 : _ = some (.bool g4 : Value) := LG4_7.out.cell 6
  have q4_7 : _ = some (.slice A4 n4 k4 : Value) := LG4_7.out.cell 7
  have q4_8 : _ = some (.slice B4 m4 d4 : Value) := LG4_7.out.cell 8
  have HT := Lib.hid (ecmp_any 34 s4 g4 A4 n4 k4 B4 m4 d4 x4 s2 g2 A2 n2 k2 B2 m2 d2 x2 _ (H4.out.below LV7.out) (H2.out.below LV7.out) (by omega))
  rw [R42.out] at HT
  go_wp2_with fail
  refine HT.out.mono ?_
  rintro e wc2 ⟨rfl, hbc2⟩
  have LB8 := Lib.hid (LB7.out.trans (hbc2.mono LB7.out.size))
  have LR8 := Lib.hid (LR7.out.keep hbc2)
  have LG0_8 := Lib.hid (LG0_7.out.keep hbc2)
  have LG1_8 := Lib.hid (LG1_7.out.keep hbc2)
  have LG2_8 := Lib.hid (LG2_7.out.keep hbc2)
  have LG3_8 := Lib.hid (LG3_7.out.keep hbc2)
  have LG4_8 := Lib.hid (LG4_7.out.keep hbc2)
  have LG5_8 := Lib.hid (LG5_7.out.keep hbc2)
  have LV8 := Lib.hid (LV7.out.trans (hbc2.mono LV7.out.size))
  have LP8 := Lib.hid (LP7.out.trans (hbc2.mono LP7.out.size))
  clear LB7 LR7 LG0_7 LG1_7 LG2_7 LG3_7 LG4_7 LG5_7 LV7 LP7
  clear HT hbc2 q3_0 q3_1 q3_2 q3_3 q3_4 q3_5 q3_6 q3_7 q3_8 q4_0 q4_1 q4_2 q4_3 q4_4 q4_5 q4_6 q4_7 q4_8
  have hbd := HBD.out
  have hqq := HQQ.out
  have hM : M = 9218868437227405312 := rfl
  have PC1 := Lib.hid (show PcVal wc2 i1 i2 [.bool false, .int .i64 s1, .bool g5, .slice A5 n5 k5, .slice B5 m5 d5, .int .i64 1, .bool o5, .int .i64 s2, .bool g6, .slice A6 n6 k6, .slice B6 m6 d6, .int .i64 1, .bool o6] from ⟨by omega, by omega, by omega, by omega, by omega, g5, A5, n5, k5, B5, m5, d5, g6, A6, n6, k6, B6, m6, d6, by rw [ES1.out, EO5.out, ES2.out, EO6.out], by rw [EX1.out]; exact H5.out.below LP8.out, by rw [EX2.out]; exact (H6.out.below LP8.out)⟩)
  clear hbd hqq hM
  have KB := Lib.hid LB8.out
  have KR := Lib.hid LR8.out
  have KX := Lib.hid LG2_8.out
  have hcs := LB8.out.size
  have hcs2 := LV8.out.size
  clear LP8
  have LA8 := Lib.hid (Below.refl wc2.heap.size wc2)
  have q5_0 : _ = some (.bool false : Value) := LG5_8.out.cell 0
  have q5_1 : _ = some (.int .i64 s1 : Value) := LG5_8.out.cell 1
  have q5_2 : _ = some (.bool g5 : Value) := LG5_8.out.cell 2
  have q5_3 : _ = some (.slice A5 n5 k5 : Value) := LG5_8.out.cell 3
  have q5_4 : _ = some (.slice B5 m5 d5 : Value) := LG5_8.out.cell 4
  have q5_5 : _ = some (.int .i64 1 : Value) := LG5_8.out.cell 5
  have q5_6 : _ = some (.bool o5 : Value) := LG5_8.out.cell 6
  have q5_7 : _ = some (.int .i64 s2 : Value) := LG5_8.out.cell 7
  have q5_8 : _ = some (.bool g6 : Value) := LG5_8.out.cell 8
  have q5_9 : _ = some (.slice A6 n6 k6 : Value) := LG5_8.out.cell 9
  have q5_10 : _ = some (.slice B6 m6 d6 : Value) := LG5_8.out.cell 10
  have q5_11 : _ = some (.int .i64 1 : Value) := LG5_8.out.cell 11
  have q5_12 : _ = some (.bool o6 : Value) := LG5_8.out.cell 12
  go_wp2_with (at_builtin; refine wpList_append_pc1 _ rfl _ _ rfl wc2.heap.size rfl ⟨wc2.heap.size, 0, none⟩ 1 [.bool false, .int .i64 s1, .bool g5, .slice A5 n5 k5, .slice B5 m5 d5, .int .i64 1, .bool o5, .int .i64 s2, .bool g6, .slice A6 n6 k6, .slice B6 m6 d6, .int .i64 1, .bool o6] rfl rfl ?c1 ?c2 rfl ?c3 ?_)
  case c1 => exact fun j u hu => lit_cells wc2 _ _ j u hu
  case c2 => intro u hu; exact List.all_eq_true.1 (show List.all [.bool false, .int .i64 s1, .bool g5, .slice A5 n5 k5, .slice B5 m5 d5, .int .i64 1, .bool o5, .int .i64 s2, .bool g6, .slice A6 n6 k6, .slice B6 m6 d6, .int .i64 1, .bool o6] Value.oneCell' = true from rfl) u hu
  case c3 => simp
  rintro v' w6 ⟨gr, cap, cs, rfl, hown, hg1, hg2, hgb, hnw, hbw⟩
  have hb6 : Below wc2.heap.size wc2 w6 := (below_alloc wc2 _).trans (hbw.mono (by simp))
  have OWN := Lib.hid hown
  have GB := Lib.hid hgb
  have NW := Lib.hid hnw
  have LB9 := Lib.hid (LB8.out.trans (hb6.mono LB8.out.size))
  have LR9 := Lib.hid (LR8.out.keep hb6)
  have LG0_9 := Lib.hid (LG0_8.out.keep hb6)
  have LG1_9 := Lib.hid (LG1_8.out.keep hb6)
  have LG2_9 := Lib.hid (LG2_8.out.keep hb6)
  have LG3_9 := Lib.hid (LG3_8.out.keep hb6)
  have LG4_9 := Lib.hid (LG4_8.out.keep hb6)
  have LG5_9 := Lib.hid (LG5_8.out.keep hb6)
  have LV9 := Lib.hid (LV8.out.trans (hb6.mono LV8.out.size))
  have LA9 := Lib.hid (LA8.out.trans (hb6.mono LA8.out.size))
  clear LB8 LR8 LG0_8 LG1_8 LG2_8 LG3_8 LG4_8 LG5_8 LV8 LA8
  clear hown hgb hnw hbw hb6 hg2 q5_0 q5_1 q5_2 q5_3 q5_4 q5_5 q5_6 q5_7 q5_8 q5_9 q5_10 q5_11 q5_12
  have LW9 := Lib.hid (Below.refl w6.heap.size w6)
  have q3_0 : _ = some (.bool false : Value) := LG3_9.out.cell 0
  have q3_1 : _ = some (.int .i64 s1 : Value) := LG3_9.out.cell 1
  have q3_2 : _ = some (.bool g1 : Value) := LG3_9.out.cell 2
  have q3_3 : _ = some (.slice A1 n1 k1 : Value) := LG3_9.out.cell 3
  have q3_4 : _ = some (.slice B1 m1 d1 : Value) := LG3_9.out.cell 4
  have q3_5 : _ = some (.int .i64 s2 : Value) := LG3_9.out.cell 5
  have q3_6 : _ = some (.bool g2 : Value) := LG3_9.out.cell 6
  have q3_7 : _ = some (.slice A2 n2 k2 : Value) := LG3_9.out.cell 7
  have q3_8 : _ = some (.slice B2 m2 d2 : Value) := LG3_9.out.cell 8
  have q4_0 : _ = some (.bool false : Value) := LG4_9.out.cell 0
  have q4_1 : _ = some (.int .i64 s3 : Value) := LG4_9.out.cell 1
  have q4_2 : _ = some (.bool g3 : Value) := LG4_9.out.cell 2
  have q4_3 : _ = some (.slice A3 n3 k3 : Value) := LG4_9.out.cell 3
  have q4_4 : _ = some (.slice B3 m3 d3 : Value) := LG4_9.out.cell 4
  have q4_5 : _ = some (.int .i64 s4 : Value) := LG4_9.out.cell 5
  have q4_6 : _ = some (.bool g4 : Value) := LG4_9.out.cell 6
  have q4_7 : _ = some (.slice A4 n4 k4 : Value) := LG4_9.out.cell 7
  have q4_8 : _ = some (.slice B4 m4 d4 : Value) := LG4_9.out.cell 8
  have HT := Lib.hid (ecmp_any 34 s1 g1 A1 n1 k1 B1 m1 d1 x1 s4 g4 A4 n4 k4 B4 m4 d4 x4 _ (H1.out.below LV9.out) (H4.out.below LV9.out) (by omega))
  rw [R14.out] at HT
  go_wp2_with fail
  refine HT.out.mono ?_
  rintro e wc3 ⟨rfl, hbc3⟩
  have LB10 := Lib.hid (LB9.out.trans (hbc3.mono LB9.out.size))
  have LR10 := Lib.hid (LR9.out.keep hbc3)
  have LG0_10 := Lib.hid (LG0_9.out.keep hbc3)
  have LG1_10 := Lib.hid (LG1_9.out.keep hbc3)
  have LG2_10 := Lib.hid (LG2_9.out.keep hbc3)
  have LG3_10 := Lib.hid (LG3_9.out.keep hbc3)
  have LG4_10 := Lib.hid (LG4_9.out.keep hbc3)
  have LG5_10 := Lib.hid (LG5_9.out.keep hbc3)
  have LV10 := Lib.hid (LV9.out.trans (hbc3.mono LV9.out.size))
  have LA10 := Lib.hid (LA9.out.trans (hbc3.mono LA9.out.size))
  have LW10 := Lib.hid (LW9.out.trans (hbc3.mono LW9.out.size))
  clear LB9 LR9 LG0_9 LG1_9 LG2_9 LG3_9 LG4_9 LG5_9 LV9 LA9 LW9
  clear HT hbc3 q3_0 q3_1 q3_2 q3_3 q3_4 q3_5 q3_6 q3_7 q3_8 q4_0 q4_1 q4_2 q4_3 q4_4 q4_5 q4_6 q4_7 q4_8
  have q3_0 : _ = some (.bool false : Value) := LG3_10.out.cell 0
  have q3_1 : _ = some (.int .i64 s1 : Value) := LG3_10.out.cell 1
  have q3_2 : _ = some (.bool g1 : Value) := LG3_10.out.cell 2
  have q3_3 : _ = some (.slice A1 n1 k1 : Value) := LG3_10.out.cell 3
  have q3_4 : _ = some (.slice B1 m1 d1 : Value) := LG3_10.out.cell 4
  have q3_5 : _ = some (.int .i64 s2 : Value) := LG3_10.out.cell 5
  have q3_6 : _ = some (.bool g2 : Value) := LG3_10.out.cell 6
  have q3_7 : _ = some (.slice A2 n2 k2 : Value) := LG3_10.out.cell 7
  have q3_8 : _ = some (.slice B2 m2 d2 : Value) := LG3_10.out.cell 8
  have q4_0 : _ = some (.bool false : Value) := LG4_10.out.cell 0
  have q4_1 : _ = some (.int .i64 s3 : Value) := LG4_10.out.cell 1
  have q4_2 : _ = some (.bool g3 : Value) := LG4_10.out.cell 2
  have q4_3 : _ = some (.slice A3 n3 k3 : Value) := LG4_10.out.cell 3
  have q4_4 : _ = some (.slice B3 m3 d3 : Value) := LG4_10.out.cell 4
  have q4_5 : _ = some (.int .i64 s4 : Value) := LG4_10.out.cell 5
  have q4_6 : _ = some (.bool g4 : Value) := LG4_10.out.cell 6
  have q4_7 : _ = some (.slice A4 n4 k4 : Value) := LG4_10.out.cell 7
  have q4_8 : _ = some (.slice B4 m4 d4 : Value) := LG4_10.out.cell 8
  have HT := Lib.hid (ecmp_any 34 s3 g3 A3 n3 k3 B3 m3 d3 x3 s2 g2 A2 n2 k2 B2 m2 d2 x2 _ (H3.out.below LV10.out) (H2.out.below LV10.out) (by omega))
  rw [R32.out] at HT
  go_wp2_with fail
  refine HT.out.mono ?_
  rintro e wc4 ⟨rfl, hbc4⟩
  have LB11 := Lib.hid (LB10.out.trans (hbc4.mono LB10.out.size))
  have LR11 := Lib.hid (LR10.out.keep hbc4)
  have LG0_11 := Lib.hid (LG0_10.out.keep hbc4)
  have LG1_11 := Lib.hid (LG1_10.out.keep hbc4)
  have LG2_11 := Lib.hid (LG2_10.out.keep hbc4)
  have LG3_11 := Lib.hid (LG3_10.out.keep hbc4)
  have LG4_11 := Lib.hid (LG4_10.out.keep hbc4)
  have LG5_11 := Lib.hid (LG5_10.out.keep hbc4)
  have LV11 := Lib.hid (LV10.out.trans (hbc4.mono LV10.out.size))
  have LA11 := Lib.hid (LA10.out.trans (hbc4.mono LA10.out.size))
  have LW11 := Lib.hid (LW10.out.trans (hbc4.mono LW10.out.size))
  clear LB10 LR10 LG0_10 LG1_10 LG2_10 LG3_10 LG4_10 LG5_10 LV10 LA10 LW10
  clear HT hbc4 q3_0 q3_1 q3_2 q3_3 q3_4 q3_5 q3_6 q3_7 q3_8 q4_0 q4_1 q4_2 q4_3 q4_4 q4_5 q4_6 q4_7 q4_8
  have q3_0 : _ = some (.bool false : Value) := LG3_11.out.cell 0
  have q3_1 : _ = some (.int .i64 s1 : Value) := LG3_11.out.cell 1
  have q3_2 : _ = some (.bool g1 : Value) := LG3_11.out.cell 2
  have q3_3 : _ = some (.slice A1 n1 k1 : Value) := LG3_11.out.cell 3
  have q3_4 : _ = some (.slice B1 m1 d1 : Value) := LG3_11.out.cell 4
  have q3_5 : _ = some (.int .i64 s2 : Value) := LG3_11.out.cell 5
  have q3_6 : _ = some (.bool g2 : Value) := LG3_11.out.cell 6
  have q3_7 : _ = some (.slice A2 n2 k2 : Value) := LG3_11.out.cell 7
  have q3_8 : _ = some (.slice B2 m2 d2 : Value) := LG3_11.out.cell 8
  have q4_0 : _ = some (.bool false : Value) := LG4_11.out.cell 0
  have q4_1 : _ = some (.int .i64 s3 : Value) := LG4_11.out.cell 1
  have q4_2 : _ = some (.bool g3 : Value) := LG4_11.out.cell 2
  have q4_3 : _ = some (.slice A3 n3 k3 : Value) := LG4_11.out.cell 3
  have q4_4 : _ = some (.slice B3 m3 d3 : Value) := LG4_11.out.cell 4
  have q4_5 : _ = some (.int .i64 s4 : Value) := LG4_11.out.cell 5
  have q4_6 : _ = some (.bool g4 : Value) := LG4_11.out.cell 6
  have q4_7 : _ = some (.slice A4 n4 k4 : Value) := LG4_11.out.cell 7
  have q4_8 : _ = some (.slice B4 m4 d4 : Value) := LG4_11.out.cell 8
  have HT := Lib.hid (bound_end 34 s1 g1 A1 n1 k1 B1 m1 d1 x1 _ (H1.out.below LV11.out) (by omega) Z1.out)
  obtain ⟨o8, eo8⟩ : ∃ s, decide (s1 ≠ 0) = s := ⟨_, rfl⟩
  rw [eo8] at HT
  have EO8 := Lib.hid eo8
  clear eo8
  go_wp2_with fail
  refine HT.out.mono ?_
  rintro e wb8 ⟨g8, A8, n8, k8, B8, m8, d8, rfl, h8, hbb8⟩
  have LB12 := Lib.hid (LB11.out.trans (hbb8.mono LB11.out.size))
  have LR12 := Lib.hid (LR11.out.keep hbb8)
  have LG0_12 := Lib.hid (LG0_11.out.keep hbb8)
  have LG1_12 := Lib.hid (LG1_11.out.keep hbb8)
  have LG2_12 := Lib.hid (LG2_11.out.keep hbb8)
  have LG3_12 := Lib.hid (LG3_11.out.keep hbb8)
  have LG4_12 := Lib.hid (LG4_11.out.keep hbb8)
  have LG5_12 := Lib.hid (LG5_11.out.keep hbb8)
  have LV12 := Lib.hid (LV11.out.trans (hbb8.mono LV11.out.size))
  have LA12 := Lib.hid (LA11.out.trans (hbb8.mono LA11.out.size))
  have LW12 := Lib.hid (LW11.out.trans (hbb8.mono LW11.out.size))
  clear LB11 LR11 LG0_11 LG1_11 LG2_11 LG3_11 LG4_11 LG5_11 LV11 LA11 LW11
  clear HT hbb8 q3_0 q3_1 q3_2 q3_3 q3_4 q3_5 q3_6 q3_7 q3_8 q4_0 q4_1 q4_2 q4_3 q4_4 q4_5 q4_6 q4_7 q4_8
  have h8x := h8
  go_wp2_with fail
  refine (far_any 1 _).mono ?_
  rintro e w7 ⟨g9, A9, n9, k9, B9, m9, d9, rfl, h9, hb7⟩
  have LB13 := Lib.hid (LB12.out.trans (hb7.mono LB12.out.size))
  have LR13 := Lib.hid (LR12.out.keep hb7)
  have LG0_13 := Lib.hid (LG0_12.out.keep hb7)
  have LG1_13 := Lib.hid (LG1_12.out.keep hb7)
  have LG2_13 := Lib.hid (LG2_12.out.keep hb7)
  have LG3_13 := Lib.hid (LG3_12.out.keep hb7)
  have LG4_13 := Lib.hid (LG4_12.out.keep hb7)
  have LG5_13 := Lib.hid (LG5_12.out.keep hb7)
  have LV13 := Lib.hid (LV12.out.trans (hb7.mono LV12.out.size))
  have LA13 := Lib.hid (LA12.out.trans (hb7.mono LA12.out.size))
  have LW13 := Lib.hid (LW12.out.trans (hb7.mono LW12.out.size))
  clear LB12 LR12 LG0_12 LG1_12 LG2_12 LG3_12 LG4_12 LG5_12 LV12 LA12 LW12
  have H8 := Lib.hid (h8.below hb7)
  have H9 := Lib.hid h9.k34
  clear h8 h8x h9 hb7
  have LQ13 := Lib.hid (Below.refl w7.heap.size w7)
  have hl57 := LG5_13.out.lt
  go_upto_region 13 with fail
  have hlp2 := LV13.out.size
  have hlp3 := LA13.out.size
  have hlp4 := LW13.out.size
  have hlt14 := LR13.out.lt
  have LB14 := Lib.hid (LB13.out.alloc LB13.out.size (.cells #[.bool false, .int .i64 s1, .bool g8, .slice A8 n8 k8, .slice B8 m8 d8, .int .i64 1, .bool o8, .int .i64 1, .bool g9, .slice A9 n9 k9, .slice B9 m9 d9, .int .i64 1, .bool true] 56))
  have LR14 := Lib.hid (LR13.out.alloc (.cells #[.bool false, .int .i64 s1, .bool g8, .slice A8 n8 k8, .slice B8 m8 d8, .int .i64 1, .bool o8, .int .i64 1, .bool g9, .slice A9 n9 k9, .slice B9 m9 d9, .int .i64 1, .bool true] 56))
  have LG0_14 := Lib.hid (LG0_13.out.alloc (.cells #[.bool false, .int .i64 s1, .bool g8, .slice A8 n8 k8, .slice B8 m8 d8, .int .i64 1, .bool o8, .int .i64 1, .bool g9, .slice A9 n9 k9, .slice B9 m9 d9, .int .i64 1, .bool true] 56))
  have LG1_14 := Lib.hid (LG1_13.out.alloc (.cells #[.bool false, .int .i64 s1, .bool g8, .slice A8 n8 k8, .slice B8 m8 d8, .int .i64 1, .bool o8, .int .i64 1, .bool g9, .slice A9 n9 k9, .slice B9 m9 d9, .int .i64 1, .bool true] 56))
  have LG2_14 := Lib.hid (LG2_13.out.alloc (.cells #[.bool false, .int .i64 s1, .bool g8, .slice A8 n8 k8, .slice B8 m8 d8, .int .i64 1, .bool o8, .int .i64 1, .bool g9, .slice A9 n9 k9, .slice B9 m9 d9, .int .i64 1, .bool true] 56))
  have LG3_14 := Lib.hid (LG3_13.out.alloc (.cells #[.bool false, .int .i64 s1, .bool g8, .slice A8 n8 k8, .slice B8 m8 d8, .int .i64 1, .bool o8, .int .i64 1, .bool g9, .slice A9 n9 k9, .slice B9 m9 d9, .int .i64 1, .bool true] 56))
  have LG4_14 := Lib.hid (LG4_13.out.alloc (.cells #[.bool false, .int .i64 s1, .bool g8, .slice A8 n8 k8, .slice B8 m8 d8, .int .i64 1, .bool o8, .int .i64 1, .bool g9, .slice A9 n9 k9, .slice B9 m9 d9, .int .i64 1, .bool true] 56))
  have LG5_14 := Lib.hid (LG5_13.out.alloc (.cells #[.bool false, .int .i64 s1, .bool g8, .slice A8 n8 k8, .slice B8 m8 d8, .int .i64 1, .bool o8, .int .i64 1, .bool g9, .slice A9 n9 k9, .slice B9 m9 d9, .int .i64 1, .bool true] 56))
  have LG6_14 := Lib.hid (Blk.new w7 56 #[.bool false, .int .i64 s1, .bool g8, .slice A8 n8 k8, .slice B8 m8 d8, .int .i64 1, .bool o8, .int .i64 1, .bool g9, .slice A9 n9 k9, .slice B9 m9 d9, .int .i64 1, .bool true])
  have LV14 := Lib.hid (LV13.out.alloc LV13.out.size (.cells #[.bool false, .int .i64 s1, .bool g8, .slice A8 n8 k8, .slice B8 m8 d8, .int .i64 1, .bool o8, .int .i64 1, .bool g9, .slice A9 n9 k9, .slice B9 m9 d9, .int .i64 1, .bool true] 56))
  have LA14 := Lib.hid (LA13.out.alloc LA13.out.size (.cells #[.bool false, .int .i64 s1, .bool g8, .slice A8 n8 k8, .slice B8 m8 d8, .int .i64 1, .bool o8, .int .i64 1, .bool g9, .slice A9 n9 k9, .slice B9 m9 d9, .int .i64 1, .bool true] 56))
  have LW14 := Lib.hid (LW13.out.alloc LW13.out.size (.cells #[.bool false, .int .i64 s1, .bool g8, .slice A8 n8 k8, .slice B8 m8 d8, .int .i64 1, .bool o8, .int .i64 1, .bool g9, .slice A9 n9 k9, .slice B9 m9 d9, .int .i64 1, .bool true] 56))
  have LQ14 := Lib.hid (LQ13.out.alloc LQ13.out.size (.cells #[.bool false, .int .i64 s1, .bool g8, .slice A8 n8 k8, .slice B8 m8 d8, .int .i64 1, .bool o8, .int .i64 1, .bool g9, .slice A9 n9 k9, .slice B9 m9 d9, .int .i64 1, .bool true] 56))
  clear LB13 LR13 LG0_13 LG1_13 LG2_13 LG3_13 LG4_13 LG5_13 LV13 LA13 LW13 LQ13
  obtain ⟨V7, hV7⟩ : ∃ X, (w7.alloc (.cells #[.bool false, .int .i64 s1, .bool g8, .slice A8 n8 k8, .slice B8 m8 d8, .int .i64 1, .bool o8, .int .i64 1, .bool g9, .slice A9 n9 k9, .slice B9 m9 d9, .int .i64 1, .bool true] 56)) = X := ⟨_, rfl⟩
  rw [hV7] at LB14 LR14 LG0_14 LG1_14 LG2_14 LG3_14 LG4_14 LG5_14 LG6_14 LV14 LA14 LW14 LQ14 ⊢
  clear hV7
  skip
  have q3_0 : _ = some (.bool false : Value) := LG3_14.out.cell 0
  have q3_1 : _ = some (.int .i64 s1 : Value) := LG3_14.out.cell 1
  have q3_2 : _ = some (.bool g1 : Value) := LG3_14.out.cell 2
  have q3_3 : _ = some (.slice A1 n1 k1 : Value) := LG3_14.out.cell 3
  have q3_4 : _ = some (.slice B1 m1 d1 : Value) := LG3_14.out.cell 4
  have q3_5 : _ = some (.int .i64 s2 : Value) := LG3_14.out.cell 5
  have q3_6 : _ = some (.bool g2 : Value) := LG3_14.out.cell 6
  have q3_7 : _ = some (.slice A2 n2 k2 : Value) := LG3_14.out.cell 7
  have q3_8 : _ = some (.slice B2 m2 d2 : Value) := LG3_14.out.cell 8
  have q4_0 : _ = some (.bool false : Value) := LG4_14.out.cell 0
  have q4_1 : _ = some (.int .i64 s3 : Value) := LG4_14.out.cell 1
  have q4_2 : _ = some (.bool g3 : Value) := LG4_14.out.cell 2
  have q4_3 : _ = some (.slice A3 n3 k3 : Value) := LG4_14.out.cell 3
  have q4_4 : _ = some (.slice B3 m3 d3 : Value) := LG4_14.out.cell 4
  have q4_5 : _ = some (.int .i64 s4 : Value) := LG4_14.out.cell 5
  have q4_6 : _ = some (.bool g4 : Value) := LG4_14.out.cell 6
  have q4_7 : _ = some (.slice A4 n4 k4 : Value) := LG4_14.out.cell 7
  have q4_8 : _ = some (.slice B4 m4 d4 : Value) := LG4_14.out.cell 8
  have HT := Lib.hid (ecmp_any 34 s1 g1 A1 n1 k1 B1 m1 d1 x1 s3 g3 A3 n3 k3 B3 m3 d3 x3 _ (H1.out.below LV14.out) (H3.out.below LV14.out) (by omega))
  rw [R13.out] at HT
  go_wp2_with fail
  refine HT.out.mono ?_
  rintro e wc5 ⟨rfl, hbc5⟩
  have LB15 := Lib.hid (LB14.out.trans (hbc5.mono LB14.out.size))
  have LR15 := Lib.hid (LR14.out.keep hbc5)
  have LG0_15 := Lib.hid (LG0_14.out.keep hbc5)
  have LG1_15 := Lib.hid (LG1_14.out.keep hbc5)
  have LG2_15 := Lib.hid (LG2_14.out.keep hbc5)
  have LG3_15 := Lib.hid (LG3_14.out.keep hbc5)
  have LG4_15 := Lib.hid (LG4_14.out.keep hbc5)
  have LG5_15 := Lib.hid (LG5_14.out.keep hbc5)
  have LG6_15 := Lib.hid (LG6_14.out.keep hbc5)
  have LV15 := Lib.hid (LV14.out.trans (hbc5.mono LV14.out.size))
  have LA15 := Lib.hid (LA14.out.trans (hbc5.mono LA14.out.size))
  have LW15 := Lib.hid (LW14.out.trans (hbc5.mono LW14.out.size))
  have LQ15 := Lib.hid (LQ14.out.trans (hbc5.mono LQ14.out.size))
  clear LB14 LR14 LG0_14 LG1_14 LG2_14 LG3_14 LG4_14 LG5_14 LG6_14 LV14 LA14 LW14 LQ14
  clear HT hbc5 q3_0 q3_1 q3_2 q3_3 q3_4 q3_5 q3_6 q3_7 q3_8 q4_0 q4_1 q4_2 q4_3 q4_4 q4_5 q4_6 q4_7 q4_8
  have q3_0 : _ = some (.bool false : Value) := LG3_15.out.cell 0
  have q3_1 : _ = some (.int .i64 s1 : Value) := LG3_15.out.cell 1
  have q3_2 : _ = some (.bool g1 : Value) := LG3_15.out.cell 2
  have q3_3 : _ = some (.slice A1 n1 k1 : Value) := LG3_15.out.cell 3
  have q3_4 : _ = some (.slice B1 m1 d1 : Value) := LG3_15.out.cell 4
  have q3_5 : _ = some (.int .i64 s2 : Value) := LG3_15.out.cell 5
  have q3_6 : _ = some (.bool g2 : Value) := LG3_15.out.cell 6
  have q3_7 : _ = some (.slice A2 n2 k2 : Value) := LG3_15.out.cell 7
  have q3_8 : _ = some (.slice B2 m2 d2 : Value) := LG3_15.out.cell 8
  have q4_0 : _ = some (.bool false : Value) := LG4_15.out.cell 0
  have q4_1 : _ = some (.int .i64 s3 : Value) := LG4_15.out.cell 1
  have q4_2 : _ = some (.bool g3 : Value) := LG4_15.out.cell 2
  have q4_3 : _ = some (.slice A3 n3 k3 : Value) := LG4_15.out.cell 3
  have q4_4 : _ = some (.slice B3 m3 d3 : Value) := LG4_15.out.cell 4
  have q4_5 : _ = some (.int .i64 s4 : Value) := LG4_15.out.cell 5
  have q4_6 : _ = some (.bool g4 : Value) := LG4_15.out.cell 6
  have q4_7 : _ = some (.slice A4 n4 k4 : Value) := LG4_15.out.cell 7
  have q4_8 : _ = some (.slice B4 m4 d4 : Value) := LG4_15.out.cell 8
  have HT := Lib.hid (bound_end 34 s3 g3 A3 n3 k3 B3 m3 d3 x3 _ (H3.out.below LV15.out) (by omega) Z3.out)
  obtain ⟨o10, eo10⟩ : ∃ s, decide (s3 ≠ 0) = s := ⟨_, rfl⟩
  rw [eo10] at HT
  have EO10 := Lib.hid eo10
  clear eo10
  go_wp2_with fail
  refine HT.out.mono ?_
  rintro e wb10 ⟨g10, A10, n10, k10, B10, m10, d10, rfl, h10, hbb10⟩
  have LB16 := Lib.hid (LB15.out.trans (hbb10.mono LB15.out.size))
  have LR16 := Lib.hid (LR15.out.keep hbb10)
  have LG0_16 := Lib.hid (LG0_15.out.keep hbb10)
  have LG1_16 := Lib.hid (LG1_15.out.keep hbb10)
  have LG2_16 := Lib.hid (LG2_15.out.keep hbb10)
  have LG3_16 := Lib.hid (LG3_15.out.keep hbb10)
  have LG4_16 := Lib.hid (LG4_15.out.keep hbb10)
  have LG5_16 := Lib.hid (LG5_15.out.keep hbb10)
  have LG6_16 := Lib.hid (LG6_15.out.keep hbb10)
  have LV16 := Lib.hid (LV15.out.trans (hbb10.mono LV15.out.size))
  have LA16 := Lib.hid (LA15.out.trans (hbb10.mono LA15.out.size))
  have LW16 := Lib.hid (LW15.out.trans (hbb10.mono LW15.out.size))
  have LQ16 := Lib.hid (LQ15.out.trans (hbb10.mono LQ15.out.size))
  clear LB15 LR15 LG0_15 LG1_15 LG2_15 LG3_15 LG4_15 LG5_15 LG6_15 LV15 LA15 LW15 LQ15
  clear HT hbb10 q3_0 q3_1 q3_2 q3_3 q3_4 q3_5 q3_6 q3_7 q3_8 q4_0 q4_1 q4_2 q4_3 q4_4 q4_5 q4_6 q4_7 q4_8
  have q6_1 : _ = some (.int .i64 s1 : Value) := LG6_16.out.cell 1
  have q6_2 : _ = some (.bool g8 : Value) := LG6_16.out.cell 2
  have q6_3 : _ = some (.slice A8 n8 k8 : Value) := LG6_16.out.cell 3
  have q6_4 : _ = some (.slice B8 m8 d8 : Value) := LG6_16.out.cell 4
  have q6_5 : _ = some (.int .i64 1 : Value) := LG6_16.out.cell 5
  have q6_6 : _ = some (.bool o8 : Value) := LG6_16.out.cell 6
  have hf1 := LG6_16.out.frozen 1
  have hf2 := LG6_16.out.frozen 2
  have hf3 := LG6_16.out.frozen 3
  have hf4 := LG6_16.out.frozen 4
  have hf5 := LG6_16.out.frozen 5
  have hf6 := LG6_16.out.frozen 6
  go_upto_region 15 with fail
  clear q6_1 q6_2 q6_3 q6_4 q6_5 q6_6 hf1 hf2 hf3 hf4 hf5 hf6
  have h10s := h10.sets LG6_16.out (NoWd.of (by rw [← Array.all_toList]; rfl)) 1 [.int .i64 s3, .bool g10, .slice A10 n10 k10, .slice B10 m10 d10, .int .i64 1, .bool o10]
  have LB17 := Lib.hid (below_sets (w0 := w) (show w.heap.size ≤ w7.heap.size by omega) [.int .i64 s3, .bool g10, .slice A10 n10 k10, .slice B10 m10 d10, .int .i64 1, .bool o10] 1 wb10 LB16.out)
  have LR17 := Lib.hid (LR16.out.other (r := w7.heap.size) (by omega) 1 [.int .i64 s3, .bool g10, .slice A10 n10 k10, .slice B10 m10 d10, .int .i64 1, .bool o10])
  have LG0_17 := Lib.hid (LG0_16.out.other (r := w7.heap.size) (by omega) 1 [.int .i64 s3, .bool g10, .slice A10 n10 k10, .slice B10 m10 d10, .int .i64 1, .bool o10])
  have LG1_17 := Lib.hid (LG1_16.out.other (r := w7.heap.size) (by omega) 1 [.int .i64 s3, .bool g10, .slice A10 n10 k10, .slice B10 m10 d10, .int .i64 1, .bool o10])
  have LG2_17 := Lib.hid (LG2_16.out.other (r := w7.heap.size) (by omega) 1 [.int .i64 s3, .bool g10, .slice A10 n10 k10, .slice B10 m10 d10, .int .i64 1, .bool o10])
  have LG3_17 := Lib.hid (LG3_16.out.other (r := w7.heap.size) (by omega) 1 [.int .i64 s3, .bool g10, .slice A10 n10 k10, .slice B10 m10 d10, .int .i64 1, .bool o10])
  have LG4_17 := Lib.hid (LG4_16.out.other (r := w7.heap.size) (by omega) 1 [.int .i64 s3, .bool g10, .slice A10 n10 k10, .slice B10 m10 d10, .int .i64 1, .bool o10])
  have LG5_17 := Lib.hid (LG5_16.out.other (r := w7.heap.size) (by omega) 1 [.int .i64 s3, .bool g10, .slice A10 n10 k10, .slice B10 m10 d10, .int .i64 1, .bool o10])
  have LG6_17 := Lib.hid (show Blk (sets wb10 w7.heap.size 1 [.int .i64 s3, .bool g10, .slice A10 n10 k10, .slice B10 m10 d10, .int .i64 1, .bool o10]) w7.heap.size 56 #[.bool false, .int .i64 s3, .bool g10, .slice A10 n10 k10, .slice B10 m10 d10, .int .i64 1, .bool o10, .int .i64 1, .bool g9, .slice A9 n9 k9, .slice B9 m9 d9, .int .i64 1, .bool true] from by have hbs := Blk.sets [.int .i64 s3, .bool g10, .slice A10 n10 k10, .slice B10 m10 d10, .int .i64 1, .bool o10] 1 wb10 _ LG6_16.out; simpa [laid] using hbs)
  have LV17 := Lib.hid (below_sets (w0 := V2) (show V2.heap.size ≤ w7.heap.size by omega) [.int .i64 s3, .bool g10, .slice A10 n10 k10, .slice B10 m10 d10, .int .i64 1, .bool o10] 1 wb10 LV16.out)
  have LA17 := Lib.hid (below_sets (w0 := wc2) (show wc2.heap.size ≤ w7.heap.size by omega) [.int .i64 s3, .bool g10, .slice A10 n10 k10, .slice B10 m10 d10, .int .i64 1, .bool o10] 1 wb10 LA16.out)
  have LW17 := Lib.hid (below_sets (w0 := w6) (show w6.heap.size ≤ w7.heap.size by omega) [.int .i64 s3, .bool g10, .slice A10 n10 k10, .slice B10 m10 d10, .int .i64 1, .bool o10] 1 wb10 LW16.out)
  have LQ17 := Lib.hid (below_sets (w0 := w7) (show w7.heap.size ≤ w7.heap.size by omega) [.int .i64 s3, .bool g10, .slice A10 n10 k10, .slice B10 m10 d10, .int .i64 1, .bool o10] 1 wb10 LQ16.out)
  clear LB16 LR16 LG0_16 LG1_16 LG2_16 LG3_16 LG4_16 LG5_16 LG6_16 LV16 LA16 LW16 LQ16
  obtain ⟨V8, hV8⟩ : ∃ X, (sets wb10 w7.heap.size 1 [.int .i64 s3, .bool g10, .slice A10 n10 k10, .slice B10 m10 d10, .int .i64 1, .bool o10]) = X := ⟨_, rfl⟩
  rw [hV8] at LB17 LR17 LG0_17 LG1_17 LG2_17 LG3_17 LG4_17 LG5_17 LG6_17 LV17 LA17 LW17 LQ17 h10s
  rw [show ((((((wb10.setCell ⟨w7.heap.size, 1, none⟩ (.int .i64 s3)).setCell ⟨w7.heap.size, 2, none⟩ (.bool g10)).setCell ⟨w7.heap.size, 3, none⟩ (.slice A10 n10 k10)).setCell ⟨w7.heap.size, 4, none⟩ (.slice B10 m10 d10)).setCell ⟨w7.heap.size, 5, none⟩ (.int .i64 1)).setCell ⟨w7.heap.size, 6, none⟩ (.bool o10)) = V8 from hV8]
  clear hV8 h10
  have H10 := Lib.hid h10s
  clear h10s
  have hbd := HBD.out
  have hqq := HQQ.out
  have hM : M = 9218868437227405312 := rfl
  have PC2 := Lib.hid (show PcVal V8 i3 M [.bool false, .int .i64 s3, .bool g10, .slice A10 n10 k10, .slice B10 m10 d10, .int .i64 1, .bool o10, .int .i64 1, .bool g9, .slice A9 n9 k9, .slice B9 m9 d9, .int .i64 1, .bool true] from ⟨by omega, by omega, by omega, by omega, by omega, g10, A10, n10, k10, B10, m10, d10, g9, A9, n9, k9, B9, m9, d9, by rw [ES3.out, EO10.out, es_max]; rfl, by rw [EX3.out]; exact H10.out, by rw [ex_max]; exact H9.out.below LQ17.out⟩)
  clear hbd hqq hM
  have q6_0 : _ = some (.bool false : Value) := LG6_17.out.cell 0
  have q6_1 : _ = some (.int .i64 s3 : Value) := LG6_17.out.cell 1
  have q6_2 : _ = some (.bool g10 : Value) := LG6_17.out.cell 2
  have q6_3 : _ = some (.slice A10 n10 k10 : Value) := LG6_17.out.cell 3
  have q6_4 : _ = some (.slice B10 m10 d10 : Value) := LG6_17.out.cell 4
  have q6_5 : _ = some (.int .i64 1 : Value) := LG6_17.out.cell 5
  have q6_6 : _ = some (.bool o10 : Value) := LG6_17.out.cell 6
  have q6_7 : _ = some (.int .i64 1 : Value) := LG6_17.out.cell 7
  have q6_8 : _ = some (.bool g9 : Value) := LG6_17.out.cell 8
  have q6_9 : _ = some (.slice A9 n9 k9 : Value) := LG6_17.out.cell 9
  have q6_10 : _ = some (.slice B9 m9 d9 : Value) := LG6_17.out.cell 10
  have q6_11 : _ = some (.int .i64 1 : Value) := LG6_17.out.cell 11
  have q6_12 : _ = some (.bool true : Value) := LG6_17.out.cell 12
  have hsz := LA17.out.size
  go_wp2_with (at_builtin; refine wpList_append_pc _ rfl _ _ rfl wc2.heap.size _ 1 _ rfl ((OWN.out.keep LW17.out).alloc _) ⟨V8.heap.size, 0, none⟩ 1 [.bool false, .int .i64 s3, .bool g10, .slice A10 n10 k10, .slice B10 m10 d10, .int .i64 1, .bool o10, .int .i64 1, .bool g9, .slice A9 n9 k9, .slice B9 m9 d9, .int .i64 1, .bool true] rfl rfl ?c1 ?c2 (by omega) ?c3 ?_)
  case c1 => exact fun j u hu => lit_cells V8 _ _ j u hu
  case c2 => intro u hu; exact List.all_eq_true.1 (show List.all [.bool false, .int .i64 s3, .bool g10, .slice A10 n10 k10, .slice B10 m10 d10, .int .i64 1, .bool o10, .int .i64 1, .bool g9, .slice A9 n9 k9, .slice B9 m9 d9, .int .i64 1, .bool true] Value.oneCell' = true from rfl) u hu
  case c3 => simp; omega
  intro v2 w8 hown2 hgrow
  obtain ⟨gs, cap2, rfl, hgs, hcap2⟩ := hown2.form (by omega)
  have hbz : Below wc2.heap.size wc2 w8 := (LA17.out.alloc hsz _).grown hgrow (by simp; omega) (fun k hk => Nat.le_trans hg1 (Nat.le_of_eq (by simpa [Value.ownBlock] using hk)))
  have LBX := Lib.hid (KB.out.trans (hbz.mono KB.out.size))
  have LRX := Lib.hid (KR.out.keep hbz)
  have LGX := Lib.hid (KX.out.keep hbz)
  have PZ1 := Lib.hid (PC1.out.below hbz)
  have PZ2 := Lib.hid ((PC2.out.below (below_alloc V8 _)).grown ((GB.out.keep LW17.out).alloc _) NW.out hgrow)
  have OWN2 := Lib.hid hown2
  clear hown2 hgrow hbz
  clear q6_0 q6_1 q6_2 q6_3 q6_4 q6_5 q6_6 q6_7 q6_8 q6_9 q6_10 q6_11 q6_12 LB17 LR17 LG0_17 LG1_17 LG2_17 LG3_17 LG4_17 LG5_17 LG6_17 LV17 LA17 LW17 LQ17
  have LB90 := Lib.hid LBX.out
  have LR90 := Lib.hid LRX.out
  have LG0_90 := Lib.hid LGX.out
  clear LBX LRX LGX
  have q0_0 : _ = some (.int .u64 (x : Int) : Value) := LG0_90.out.cell 0
  have q0_1 : _ = some (.int .u64 (y : Int) : Value) := LG0_90.out.cell 1
  have HT := Lib.hid (HALL.out ⟨gs, 0, none⟩ 2 cap2 w8 (by omega) hcap2 (fun k hk => by
    have hk2 : k = 0 ∨ k = 1 := by omega
    rcases hk2 with rfl | rfl
    · rw [D1.out]
      exact pcAt_of (p := [.bool false, .int .i64 s1, .bool g5, .slice A5 n5 k5, .slice B5 m5 d5, .int .i64 1, .bool o5, .int .i64 s2, .bool g6, .slice A6 n6 k6, .slice B6 m6 d6, .int .i64 1, .bool o6]) OWN2.out (by omega) (fun j hj => match j, hj with | 0, _ => rfl | 1, _ => rfl | 2, _ => rfl | 3, _ => rfl | 4, _ => rfl | 5, _ => rfl | 6, _ => rfl | 7, _ => rfl | 8, _ => rfl | 9, _ => rfl | 10, _ => rfl | 11, _ => rfl | 12, _ => rfl) PZ1.out
    · rw [D2.out]
      exact pcAt_of (p := [.bool false, .int .i64 s3, .bool g10, .slice A10 n10 k10, .slice B10 m10 d10, .int .i64 1, .bool o10, .int .i64 1, .bool g9, .slice A9 n9 k9, .slice B9 m9 d9, .int .i64 1, .bool true]) OWN2.out (by omega) (fun j hj => match j, hj with | 0, _ => rfl | 1, _ => rfl | 2, _ => rfl | 3, _ => rfl | 4, _ => rfl | 5, _ => rfl | 6, _ => rfl | 7, _ => rfl | 8, _ => rfl | 9, _ => rfl | 10, _ => rfl | 11, _ => rfl | 12, _ => rfl) PZ2.out))
  rw [HPP.out] at HT
  go_wp2_with fail
  refine HT.out.mono ?_
  rintro e w9 ⟨rfl, hb9⟩
  have LB91 := Lib.hid (LB90.out.trans (hb9.mono LB90.out.size))
  have LR91 := Lib.hid (LR90.out.keep hb9)
  have LG0_91 := Lib.hid (LG0_90.out.keep hb9)
  clear LB90 LR90 LG0_90
  clear HT hb9 q0_0 q0_1
  have ha0 := LR91.out.someCell 0 (by decide)
  have hf0 := LR91.out.frozen 0
  have ha1 := LR91.out.someCell 1 (by decide)
  have hf1 := LR91.out.frozen 1
  have hk0 := LR91.out.setCell [.int .u64 (pat PP.1 : Int), .int .u64 (pat PP.2 : Int)] rfl 0 (by decide)
  have hk1 := LR91.out.setCell [.int .u64 (pat PP.1 : Int), .int .u64 (pat PP.2 : Int)] rfl 1 (by decide)
  have F := Lib.hid (below_sets (w0 := w) (r := (w.heap.size + 3)) (by omega) [.int .u64 (pat PP.1 : Int), .int .u64 (pat PP.2 : Int)] 0 _ LB91.out)
  simp [sets] at hk0 hk1
  go_wp2
  refine bodyPost_ret (v := .agg #[.int .u64 (pat PP.1 : Int), .int .u64 (pat PP.2 : Int)]) (by simp [results, Try.results7, go_sem, hk0, hk1]) rfl ?_
  exact ⟨rfl, F.out⟩

set_option maxRecDepth 2000 in
set_option maxHeartbeats 12800000 in
theorem mr_2r (b1 b2 c1 c2 x y : Nat) (i1 i2 i3 i4 : Int) (w : World) (hb1 : b1 < 18446744073709551616) (hb2 : b2 < 18446744073709551616) (hc1 : c1 < 18446744073709551616) (hc2 : c2 < 18446744073709551616) (hx : x < 18446744073709551616) (hy : y < 18446744073709551616) (hcc : snd c1 c2 = true) (hbb : snd b1 b2 = true) (e1 : idx c1 = i1) (e2 : idx c2 = i2) (e3 : idx b1 = i3) (e4 : idx b2 = i4) (q0 : i1 ≤ i4) (q1 : i4 < i2) (q2 : i3 ≤ i2) (q3 : i3 ≤ i1) :
    Calls Try.prog 7 #[.agg #[.int .u64 (b1 : Int), .int .u64 (b2 : Int)], .agg #[.int .u64 (c1 : Int), .int .u64 (c2 : Int)], .agg #[.int .u64 (x : Int), .int .u64 (y : Int)]] w fun e w' => e = .returned (.agg #[.int .u64 (pat (zf (rd x y).1 (rd x y).2 (mrL i3 i4 i1 i2) 2).1 : Int), .int .u64 (pat (zf (rd x y).1 (rd x y).2 (mrL i3 i4 i1 i2) 2).2 : Int)]) ∧ Below w.heap.size w w' := by
  have hdc := of_decide_eq_true hcc
  have hdb := of_decide_eq_true hbb
  have a1 := idx_bounds hdc.1
  have a2 := idx_bounds hdc.2.1
  have a3 := idx_bounds hdb.1
  have a4 := idx_bounds hdb.2.1
  rw [e1] at a1; rw [e2] at a2; rw [e3] at a3; rw [e4] at a4
  have u1 := hdc.2.2; have u2 := hdb.2.2
  rw [e1, e2] at u1; rw [e3, e4] at u2
  have HC := Lib.hid fun W => of_full c1 c2 W hc1 hc2 hcc
  have HBB := Lib.hid fun W => of_full b1 b2 W hb1 hb2 hbb
  rw [e1, e2] at HC
  rw [e3, e4] at HBB
  have Q14 := ec_idx a1.1 a1.2 a4.1 a4.2
  have Q42 := ec_idx a4.1 a4.2 a2.1 a2.2
  have Q32 := ec_idx a3.1 a3.2 a2.1 a2.2
  have Q13 := ec_idx a1.1 a1.2 a3.1 a3.2
  unfold SameSign at Q14 Q42 Q32 Q13
  have z1 : es i1 ≠ 0 → ex i1 = 0 := ex_inf
  have z2 : es i2 ≠ 0 → ex i2 = 0 := ex_inf
  have z3 : es i3 ≠ 0 → ex i3 = 0 := ex_inf
  have z4 : es i4 ≠ 0 → ex i4 = 0 := ex_inf
  have D1 : mrL i3 i4 i1 i2 0 = (i1, i4) := by unfold mrL; rw [if_pos rfl, show min i2 i4 = i4 from by omega]
  have D2 : mrL i3 i4 i1 i2 1 = (i1, (M : Int)) := by unfold mrL; rw [if_neg (by decide), show max i1 i3 = i1 from by omega]
  obtain ⟨L, hL⟩ : ∃ L, mrL i3 i4 i1 i2 = L := ⟨_, rfl⟩
  rw [hL] at D1 D2 ⊢
  clear hL
  have E1 := Lib.hid (rfl : es i1 = es i1)
  obtain ⟨s1, es1⟩ : ∃ s, es i1 = s := ⟨_, rfl⟩
  obtain ⟨x1, ex1⟩ : ∃ s, ex i1 = s := ⟨_, rfl⟩
  have ES1 := Lib.hid es1
  have EX1 := Lib.hid ex1
  rw [es1, ex1] at z1
  obtain ⟨s2, es2⟩ : ∃ s, es i2 = s := ⟨_, rfl⟩
  obtain ⟨x2, ex2⟩ : ∃ s, ex i2 = s := ⟨_, rfl⟩
  have ES2 := Lib.hid es2
  have EX2 := Lib.hid ex2
  rw [es2, ex2] at z2
  obtain ⟨s3, es3⟩ : ∃ s, es i3 = s := ⟨_, rfl⟩
  obtain ⟨x3, ex3⟩ : ∃ s, ex i3 = s := ⟨_, rfl⟩
  have ES3 := Lib.hid es3
  have EX3 := Lib.hid ex3
  rw [es3, ex3] at z3
  obtain ⟨s4, es4⟩ : ∃ s, es i4 = s := ⟨_, rfl⟩
  obtain ⟨x4, ex4⟩ : ∃ s, ex i4 = s := ⟨_, rfl⟩
  have ES4 := Lib.hid es4
  have EX4 := Lib.hid ex4
  rw [es4, ex4] at z4
  rw [es1, ex1, es2, ex2] at HC
  rw [es3, ex3, es4, ex4] at HBB
  rw [es1, ex1, es4, ex4] at Q14
  rw [es4, ex4, es2, ex2] at Q42
  rw [es3, ex3, es2, ex2] at Q32
  rw [es1, ex1, es3, ex3] at Q13
  obtain ⟨r14, er14⟩ : ∃ r, ec s1 x1 s4 x4 = r := ⟨_, rfl⟩
  obtain ⟨r42, er42⟩ : ∃ r, ec s4 x4 s2 x2 = r := ⟨_, rfl⟩
  obtain ⟨r32, er32⟩ : ∃ r, ec s3 x3 s2 x2 = r := ⟨_, rfl⟩
  obtain ⟨r13, er13⟩ : ∃ r, ec s1 x1 s3 x3 = r := ⟨_, rfl⟩
  rw [er14] at Q14; rw [er42] at Q42; rw [er32] at Q32; rw [er13] at Q13
  have R14 := Lib.hid er14
  have R42 := Lib.hid er42
  have R32 := Lib.hid er32
  have R13 := Lib.hid er13
  have c14 : r14 ≤ 0 := by omega
  have d14 : decide (r14 ≤ 0) = true := by simp; omega
  have c42 : r42 < 0 := by omega
  have c32 : decide (r32 ≤ 0) = true := by simp; omega
  have c13 : ¬ r13 < 0 := by omega
  have hM : M = 9218868437227405312 := rfl
  have HBD := Lib.hid (⟨a1, a2, a3, a4, u1, u2⟩ : _ ∧ _ ∧ _ ∧ _ ∧ _ ∧ _)
  have HQQ := Lib.hid (⟨q0, q1, q2, q3, trivial⟩ : i1 ≤ i4 ∧ i4 < i2 ∧ i3 ≤ i2 ∧ i3 ≤ i1 ∧ True)
  have Z1 := Lib.hid z1
  have Z2 := Lib.hid z2
  have Z3 := Lib.hid z3
  have Z4 := Lib.hid z4
  have D1 := Lib.hid D1
  have D2 := Lib.hid D2
  have HALL := Lib.hid fun (ad : Addr) (n c : Nat) W (h1 : n ≤ 100) (h2 : n ≤ c) (h3 : ∀ k : Nat, k < n → PcAt W ad k (L k).1 (L k).2) => all_any x y ad n c L W hx hy h1 h2 h3
  obtain ⟨PP, hPP⟩ : ∃ P, zf (rd x y).1 (rd x y).2 L 2 = P := ⟨_, rfl⟩
  rw [hPP]
  have HPP := Lib.hid hPP
  clear hPP
  clear hdc hdb a1 a2 a3 a4 u1 u2 Q14 Q42 Q32 Q13 es1 es2 es3 es4 ex1 ex2 ex3 ex4 er14 er42 er32 er13 e1 e2 e3 e4 z1 z2 z3 z4 hM hcc hbb q0 q1 q2 q3
  have LB0 := Lib.hid (show Below w.heap.size w ((((w.alloc (.cells #[.int .u64 (b1 : Int), .int .u64 (b2 : Int)] 24)).alloc (.cells #[.int .u64 (c1 : Int), .int .u64 (c2 : Int)] 24)).alloc (.cells #[.int .u64 (x : Int), .int .u64 (y : Int)] 24)).alloc (.cells #[.int .u64 0, .int .u64 0] 24)) from ((((below_alloc w _).alloc (by simp <;> omega) _).alloc (by simp <;> omega) _).alloc (by simp <;> omega) _))
  have LG0_0 := Lib.hid (((((Blk.at (W := w) (g := w.heap.size) (by simp <;> omega) 24 #[.int .u64 (b1 : Int), .int .u64 (b2 : Int)]).alloc (.cells #[.int .u64 (c1 : Int), .int .u64 (c2 : Int)] 24)).alloc (.cells #[.int .u64 (x : Int), .int .u64 (y : Int)] 24)).alloc (.cells #[.int .u64 0, .int .u64 0] 24)))
  have LG1_0 := Lib.hid ((((Blk.at (W := (w.alloc (.cells #[.int .u64 (b1 : Int), .int .u64 (b2 : Int)] 24))) (g := (w.heap.size + 1)) (by simp <;> omega) 24 #[.int .u64 (c1 : Int), .int .u64 (c2 : Int)]).alloc (.cells #[.int .u64 (x : Int), .int .u64 (y : Int)] 24)).alloc (.cells #[.int .u64 0, .int .u64 0] 24)))
  have LG2_0 := Lib.hid (((Blk.at (W := ((w.alloc (.cells #[.int .u64 (b1 : Int), .int .u64 (b2 : Int)] 24)).alloc (.cells #[.int .u64 (c1 : Int), .int .u64 (c2 : Int)] 24))) (g := (w.heap.size + 2)) (by simp <;> omega) 24 #[.int .u64 (x : Int), .int .u64 (y : Int)]).alloc (.cells #[.int .u64 0, .int .u64 0] 24)))
  have LR0 := Lib.hid (HasBlk.of (n := 2) (Blk.at (W := (((w.alloc (.cells #[.int .u64 (b1 : Int), .int .u64 (b2 : Int)] 24)).alloc (.cells #[.int .u64 (c1 : Int), .int .u64 (c2 : Int)] 24)).alloc (.cells #[.int .u64 (x : Int), .int .u64 (y : Int)] 24))) (g := (w.heap.size + 3)) (by simp <;> omega) 24 #[.int .u64 0, .int .u64 0]) rfl rfl)
  go_enter Try.func7, Try.ntmps7
  go_wp2_with fail
  refine (HC.out _).mono ?_
  rintro e w1 ⟨g1, A1, n1, k1, B1, m1, d1, g2, A2, n2, k2, B2, m2, d2, rfl, h1, h2, hbA⟩
  have LB1 := Lib.hid (LB0.out.trans (hbA.mono LB0.out.size))
  have LR1 := Lib.hid (LR0.out.keep hbA)
  have LG0_1 := Lib.hid (LG0_0.out.keep hbA)
  have LG1_1 := Lib.hid (LG1_0.out.keep hbA)
  have LG2_1 := Lib.hid (LG2_0.out.keep hbA)
  clear LB0 LR0 LG0_0 LG1_0 LG2_0
  go_upto_region 2 with fail
  have hlt2 := LR1.out.lt
  have LB2 := Lib.hid (LB1.out.alloc LB1.out.size (.cells #[.bool false, .int .i64 s1, .bool g1, .slice A1 n1 k1, .slice B1 m1 d1, .int .i64 s2, .bool g2, .slice A2 n2 k2, .slice B2 m2 d2] 48))
  have LR2 := Lib.hid (LR1.out.alloc (.cells #[.bool false, .int .i64 s1, .bool g1, .slice A1 n1 k1, .slice B1 m1 d1, .int .i64 s2, .bool g2, .slice A2 n2 k2, .slice B2 m2 d2] 48))
  have LG0_2 := Lib.hid (LG0_1.out.alloc (.cells #[.bool false, .int .i64 s1, .bool g1, .slice A1 n1 k1, .slice B1 m1 d1, .int .i64 s2, .bool g2, .slice A2 n2 k2, .slice B2 m2 d2] 48))
  have LG1_2 := Lib.hid (LG1_1.out.alloc (.cells #[.bool false, .int .i64 s1, .bool g1, .slice A1 n1 k1, .slice B1 m1 d1, .int .i64 s2, .bool g2, .slice A2 n2 k2, .slice B2 m2 d2] 48))
  have LG2_2 := Lib.hid (LG2_1.out.alloc (.cells #[.bool false, .int .i64 s1, .bool g1, .slice A1 n1 k1, .slice B1 m1 d1, .int .i64 s2, .bool g2, .slice A2 n2 k2, .slice B2 m2 d2] 48))
  have LG3_2 := Lib.hid (Blk.new w1 48 #[.bool false, .int .i64 s1, .bool g1, .slice A1 n1 k1, .slice B1 m1 d1, .int .i64 s2, .bool g2, .slice A2 n2 k2, .slice B2 m2 d2])
  clear LB1 LR1 LG0_1 LG1_1 LG2_1
  have h1a := h1.below (below_alloc w1 (.cells #[.bool false, .int .i64 s1, .bool g1, .slice A1 n1 k1, .slice B1 m1 d1, .int .i64 s2, .bool g2, .slice A2 n2 k2, .slice B2 m2 d2] 48))
  have h2a := h2.below (below_alloc w1 (.cells #[.bool false, .int .i64 s1, .bool g1, .slice A1 n1 k1, .slice B1 m1 d1, .int .i64 s2, .bool g2, .slice A2 n2 k2, .slice B2 m2 d2] 48))
  obtain ⟨V1, hV1⟩ : ∃ X, (w1.alloc (.cells #[.bool false, .int .i64 s1, .bool g1, .slice A1 n1 k1, .slice B1 m1 d1, .int .i64 s2, .bool g2, .slice A2 n2 k2, .slice B2 m2 d2] 48)) = X := ⟨_, rfl⟩
  have hlV : w1.heap.size < V1.heap.size := by rw [← hV1]; simp
  rw [hV1] at LB2 LR2 LG0_2 LG1_2 LG2_2 LG3_2 h1a h2a ⊢
  clear hV1 h1 h2 hbA
  have q0_0 : _ = some (.int .u64 (b1 : Int) : Value) := LG0_2.out.cell 0
  have q0_1 : _ = some (.int .u64 (b2 : Int) : Value) := LG0_2.out.cell 1
  go_wp2_with fail
  refine (HBB.out _).mono ?_
  rintro e w2 ⟨g3, A3, n3, k3, B3, m3, d3, g4, A4, n4, k4, B4, m4, d4, rfl, h3, h4, hbB⟩
  have LB3 := Lib.hid (LB2.out.trans (hbB.mono LB2.out.size))
  have LR3 := Lib.hid (LR2.out.keep hbB)
  have LG0_3 := Lib.hid (LG0_2.out.keep hbB)
  have LG1_3 := Lib.hid (LG1_2.out.keep hbB)
  have LG2_3 := Lib.hid (LG2_2.out.keep hbB)
  have LG3_3 := Lib.hid (LG3_2.out.keep hbB)
  clear LB2 LR2 LG0_2 LG1_2 LG2_2 LG3_2
  have h1b := h1a.below hbB
  have h2b := h2a.below hbB
  have hlW := hbB.size
  clear h1a h2a hbB q0_0 q0_1
  go_upto_region 3 with fail
  have hlt4 := LR3.out.lt
  have LB4 := Lib.hid (LB3.out.alloc LB3.out.size (.cells #[.bool false, .int .i64 s3, .bool g3, .slice A3 n3 k3, .slice B3 m3 d3, .int .i64 s4, .bool g4, .slice A4 n4 k4, .slice B4 m4 d4] 48))
  have LR4 := Lib.hid (LR3.out.alloc (.cells #[.bool false, .int .i64 s3, .bool g3, .slice A3 n3 k3, .slice B3 m3 d3, .int .i64 s4, .bool g4, .slice A4 n4 k4, .slice B4 m4 d4] 48))
  have LG0_4 := Lib.hid (LG0_3.out.alloc (.cells #[.bool false, .int .i64 s3, .bool g3, .slice A3 n3 k3, .slice B3 m3 d3, .int .i64 s4, .bool g4, .slice A4 n4 k4, .slice B4 m4 d4] 48))
  have LG1_4 := Lib.hid (LG1_3.out.alloc (.cells #[.bool false, .int .i64 s3, .bool g3, .slice A3 n3 k3, .slice B3 m3 d3, .int .i64 s4, .bool g4, .slice A4 n4 k4, .slice B4 m4 d4] 48))
  have LG2_4 := Lib.hid (LG2_3.out.alloc (.cells #[.bool false, .int .i64 s3, .bool g3, .slice A3 n3 k3, .slice B3 m3 d3, .int .i64 s4, .bool g4, .slice A4 n4 k4, .slice B4 m4 d4] 48))
  have LG3_4 := Lib.hid (LG3_3.out.alloc (.cells #[.bool false, .int .i64 s3, .bool g3, .slice A3 n3 k3, .slice B3 m3 d3, .int .i64 s4, .bool g4, .slice A4 n4 k4, .slice B4 m4 d4] 48))
  have LG4_4 := Lib.hid (Blk.new w2 48 #[.bool false, .int .i64 s3, .bool g3, .slice A3 n3 k3, .slice B3 m3 d3, .int .i64 s4, .bool g4, .slice A4 n4 k4, .slice B4 m4 d4])
  clear LB3 LR3 LG0_3 LG1_3 LG2_3 LG3_3
  have H1 := Lib.hid (h1b.below (below_alloc w2 (.cells #[.bool false, .int .i64 s3, .bool g3, .slice A3 n3 k3, .slice B3 m3 d3, .int .i64 s4, .bool g4, .slice A4 n4 k4, .slice B4 m4 d4] 48)))
  have H2 := Lib.hid (h2b.below (below_alloc w2 (.cells #[.bool false, .int .i64 s3, .bool g3, .slice A3 n3 k3, .slice B3 m3 d3, .int .i64 s4, .bool g4, .slice A4 n4 k4, .slice B4 m4 d4] 48)))
  have H3 := Lib.hid (h3.below (below_alloc w2 (.cells #[.bool false, .int .i64 s3, .bool g3, .slice A3 n3 k3, .slice B3 m3 d3, .int .i64 s4, .bool g4, .slice A4 n4 k4, .slice B4 m4 d4] 48)))
  have H4 := Lib.hid (h4.below (below_alloc w2 (.cells #[.bool false, .int .i64 s3, .bool g3, .slice A3 n3 k3, .slice B3 m3 d3, .int .i64 s4, .bool g4, .slice A4 n4 k4, .slice B4 m4 d4] 48)))
  obtain ⟨V2, hV2⟩ : ∃ X, (w2.alloc (.cells #[.bool false, .int .i64 s3, .bool g3, .slice A3 n3 k3, .slice B3 m3 d3, .int .i64 s4, .bool g4, .slice A4 n4 k4, .slice B4 m4 d4] 48)) = X := ⟨_, rfl⟩
  have hlV2 : w2.heap.size < V2.heap.size := by rw [← hV2]; simp
  rw [hV2] at LB4 LR4 LG0_4 LG1_4 LG2_4 LG3_4 LG4_4 H1 H2 H3 H4 ⊢
  clear hV2 h1b h2b h3 h4
  have hlt9 : w1.heap.size < w2.heap.size := by omega
  have LV4 := Lib.hid (Below.refl V2.heap.size V2)
  have q3_0 : _ = some (.bool false : Value) := LG3_4.out.cell 0
  have q3_1 : _ = some (.int .i64 s1 : Value) := LG3_4.out.cell 1
  have q3_2 : _ = some (.bool g1 : Value) := LG3_4.out.cell 2
  have q3_3 : _ = some (.slice A1 n1 k1 : Value) := LG3_4.out.cell 3
  have q3_4 : _ = some (.slice B1 m1 d1 : Value) := LG3_4.out.cell 4
  have q3_5 : _ = some (.int .i64 s2 : Value) := LG3_4.out.cell 5
  have q3_6 : _ = some (.bool g2 : Value) := LG3_4.out.cell 6
  have q3_7 : _ = some (.slice A2 n2 k2 : Value) := LG3_4.out.cell 7
  have q3_8 : _ = some (.slice B2 m2 d2 : Value) := LG3_4.out.cell 8
  have q4_0 : _ = some (.bool false : Value) := LG4_4.out.cell 0
  have q4_1 : _ = some (.int .i64 s3 : Value) := LG4_4.out.cell 1
  have q4_2 : _ = some (.bool g3 : Value) := LG4_4.out.cell 2
  have q4_3 : _ = some (.slice A3 n3 k3 : Value) := LG4_4.out.cell 3
  have q4_4 : _ = some (.slice B3 m3 d3 : Value) := LG4_4.out.cell 4
  have q4_5 : _ = some (.int .i64 s4 : Value) := LG4_4.out.cell 5
  have q4_6 : _ = some (.bool g4 : Value) := LG4_4.out.cell 6
  have q4_7 : _ = some (.slice A4 n4 k4 : Value) := LG4_4.out.cell 7
  have q4_8 : _ = some (.slice B4 m4 d4 : Value) := LG4_4.out.cell 8
  have HT := Lib.hid (ecmp_any 34 s1 g1 A1 n1 k1 B1 m1 d1 x1 s4 g4 A4 n4 k4 B4 m4 d4 x4 _ (H1.out.below LV4.out) (H4.out.below LV4.out) (by omega))
  rw [R14.out] at HT
  go_wp2_with fail
  refine HT.out.mono ?_
  rintro e wc1 ⟨rfl, hbc1⟩
  have LB5 := Lib.hid (LB4.out.trans (hbc1.mono LB4.out.size))
  have LR5 := Lib.hid (LR4.out.keep hbc1)
  have LG0_5 := Lib.hid (LG0_4.out.keep hbc1)
  have LG1_5 := Lib.hid (LG1_4.out.keep hbc1)
  have LG2_5 := Lib.hid (LG2_4.out.keep hbc1)
  have LG3_5 := Lib.hid (LG3_4.out.keep hbc1)
  have LG4_5 := Lib.hid (LG4_4.out.keep hbc1)
  have LV5 := Lib.hid (LV4.out.trans (hbc1.mono LV4.out.size))
  clear LB4 LR4 LG0_4 LG1_4 LG2_4 LG3_4 LG4_4 LV4
  clear HT hbc1 q3_0 q3_1 q3_2 q3_3 q3_4 q3_5 q3_6 q3_7 q3_8 q4_0 q4_1 q4_2 q4_3 q4_4 q4_5 q4_6 q4_7 q4_8
  have q3_0 : _ = some (.bool false : Value) := LG3_5.out.cell 0
  have q3_1 : _ = some (.int .i64 s1 : Value) := LG3_5.out.cell 1
  have q3_2 : _ = some (.bool g1 : Value) := LG3_5.out.cell 2
  have q3_3 : _ = some (.slice A1 n1 k1 : Value) := LG3_5.out.cell 3
  have q3_4 : _ = some (.slice B1 m1 d1 : Value) := LG3_5.out.cell 4
  have q3_5 : _ = some (.int .i64 s2 : Value) := LG3_5.out.cell 5
  have q3_6 : _ = some (.bool g2 : Value) := LG3_5.out.cell 6
  have q3_7 : _ = some (.slice A2 n2 k2 : Value) := LG3_5.out.cell 7
  have q3_8 : _ = some (.slice B2 m2 d2 : Value) := LG3_5.out.cell 8
  have HT := Lib.hid (piece_some 34 s1 g1 A1 n1 k1 B1 m1 d1 x1 s2 g2 A2 n2 k2 B2 m2 d2 x2 _ (H1.out.below LV5.out) (H2.out.below LV5.out) (by omega) Z1.out Z2.out)
  obtain ⟨o5, eo5⟩ : ∃ s, decide (s1 ≠ 0) = s := ⟨_, rfl⟩
  obtain ⟨o6, eo6⟩ : ∃ s, decide (s2 ≠ 0) = s := ⟨_, rfl⟩
  rw [eo5, eo6] at HT
  have EO5 := Lib.hid eo5
  have EO6 := Lib.hid eo6
  clear eo5 eo6
  go_wp2_with fail
  refine HT.out.mono ?_
  rintro e w4 ⟨g5, A5, n5, k5, B5, m5, d5, g6, A6, n6, k6, B6, m6, d6, rfl, h5, h6, hb4⟩
  have LB6 := Lib.hid (LB5.out.trans (hb4.mono LB5.out.size))
  have LR6 := Lib.hid (LR5.out.keep hb4)
  have LG0_6 := Lib.hid (LG0_5.out.keep hb4)
  have LG1_6 := Lib.hid (LG1_5.out.keep hb4)
  have LG2_6 := Lib.hid (LG2_5.out.keep hb4)
  have LG3_6 := Lib.hid (LG3_5.out.keep hb4)
  have LG4_6 := Lib.hid (LG4_5.out.keep hb4)
  have LV6 := Lib.hid (LV5.out.trans (hb4.mono LV5.out.size))
  clear LB5 LR5 LG0_5 LG1_5 LG2_5 LG3_5 LG4_5 LV5
  clear HT hb4 q3_0 q3_1 q3_2 q3_3 q3_4 q3_5 q3_6 q3_7 q3_8
  have H5 := Lib.hid h5
  have H6 := Lib.hid h6
  clear h5 h6
  have LP6 := Lib.hid (Below.refl w4.heap.size w4)
  go_upto_region 8 with fail
  have hlp1 := LV6.out.size
  have hlt7 := LR6.out.lt
  have LB7 := Lib.hid (LB6.out.alloc LB6.out.size (.cells #[.bool false, .int .i64 s1, .bool g5, .slice A5 n5 k5, .slice B5 m5 d5, .int .i64 1, .bool o5, .int .i64 s2, .bool g6, .slice A6 n6 k6, .slice B6 m6 d6, .int .i64 1, .bool o6] 56))
  have LR7 := Lib.hid (LR6.out.alloc (.cells #[.bool false, .int .i64 s1, .bool g5, .slice A5 n5 k5, .slice B5 m5 d5, .int .i64 1, .bool o5, .int .i64 s2, .bool g6, .slice A6 n6 k6, .slice B6 m6 d6, .int .i64 1, .bool o6] 56))
  have LG0_7 := Lib.hid (LG0_6.out.alloc (.cells #[.bool false, .int .i64 s1, .bool g5, .slice A5 n5 k5, .slice B5 m5 d5, .int .i64 1, .bool o5, .int .i64 s2, .bool g6, .slice A6 n6 k6, .slice B6 m6 d6, .int .i64 1, .bool o6] 56))
  have LG1_7 := Lib.hid (LG1_6.out.alloc (.cells #[.bool false, .int .i64 s1, .bool g5, .slice A5 n5 k5, .slice B5 m5 d5, .int .i64 1, .bool o5, .int .i64 s2, .bool g6, .slice A6 n6 k6, .slice B6 m6 d6, .int .i64 1, .bool o6] 56))
  have LG2_7 := Lib.hid (LG2_6.out.alloc (.cells #[.bool false, .int .i64 s1, .bool g5, .slice A5 n5 k5, .slice B5 m5 d5, .int .i64 1, .bool o5, .int .i64 s2, .bool g6, .slice A6 n6 k6, .slice B6 m6 d6, .int .i64 1, .bool o6] 56))
  have LG3_7 := Lib.hid (LG3_6.out.alloc (.cells #[.bool false, .int .i64 s1, .bool g5, .slice A5 n5 k5, .slice B5 m5 d5, .int .i64 1, .bool o5, .int .i64 s2, .bool g6, .slice A6 n6 k6, .slice B6 m6 d6, .int .i64 1, .bool o6] 56))
  have LG4_7 := Lib.hid (LG4_6.out.alloc (.cells #[.bool false, .int .i64 s1, .bool g5, .slice A5 n5 k5, .slice B5 m5 d5, .int .i64 1, .bool o5, .int .i64 s2, .bool g6, .slice A6 n6 k6, .slice B6 m6 d6, .int .i64 1, .bool o6] 56))
  have LG5_7 := Lib.hid (Blk.new w4 56 #[.bool false, .int .i64 s1, .bool g5, .slice A5 n5 k5, .slice B5 m5 d5, .int .i64 1, .bool o5, .int .i64 s2, .bool g6, .slice A6 n6 k6, .slice B6 m6 d6, .int .i64 1, .bool o6])
  have LV7 := Lib.hid (LV6.out.alloc LV6.out.size (.cells #[.bool false, .int .i64 s1, .bool g5, .slice A5 n5 k5, .slice B5 m5 d5, .int .i64 1, .bool o5, .int .i64 s2, .bool g6, .slice A6 n6 k6, .slice B6 m6 d6, .int .i64 1, .bool o6] 56))
  have LP7 := Lib.hid (LP6.out.alloc LP6.out.size (.cells #[.bool false, .int .i64 s1, .bool g5, .slice A5 n5 k5, .slice B5 m5 d5, .int .i64 1, .bool o5, .int .i64 s2, .bool g6, .slice A6 n6 k6, .slice B6 m6 d6, .int .i64 1, .bool o6] 56))
  clear LB6 LR6 LG0_6 LG1_6 LG2_6 LG3_6 LG4_6 LV6 LP6
  obtain ⟨V4, hV4⟩ : ∃ X, (w4.alloc (.cells #[.bool false, .int .i64 s1, .bool g5, .slice A5 n5 k5, .slice B5 m5 d5, .int .i64 1, .bool o5, .int .i64 s2, .bool g6, .slice A6 n6 k6, .slice B6 m6 d6, .int .i64 1, .bool o6] 56)) = X := ⟨_, rfl⟩
  rw [hV4] at LB7 LR7 LG0_7 LG1_7 LG2_7 LG3_7 LG4_7 LG5_7 LV7 LP7 ⊢
  clear hV4
  have q3_0 : _ = some (.bool false : Value) := LG3_7.out.cell 0
  have q3_1 : _ = some (.int .i64 s1 : Value) := LG3_7.out.cell 1
  have q3_2 : _ = some (.bool g1 : Value) := LG3_7.out.cell 2
  have q3_3 : _ = some (.slice A1 n1 k1 : Value) := LG3_7.out.cell 3
  have q3_4 : _ = some (.slice B1 m1 d1 : Value) := LG3_7.out.cell 4
  have q3_5 : _ = some (.int .i64 s2 : Value) := LG3_7.out.cell 5
  have q3_6 : _ = some (.bool g2 : Value) := LG3_7.out.cell 6
  have q3_7 : _ = some (.slice A2 n2 k2 : Value) := LG3_7.out.cell 7
  have q3_8 : _ = some (.slice B2 m2 d2 : Value) := LG3_7.out.cell 8
  have q4_0 : _ = some (.bool false : Value) := LG4_7.out.cell 0
  have q4_1 : _ = some (.int .i64 s3 : Value) := LG4_7.out.cell 1
  have q4_2 : _ = some (.bool g3 : Value) := LG4_7.out.cell 2
  have q4_3 : _ = some (.slice A3 n3 k3 : Value) := LG4_7.out.cell 3
  have q4_4 : _ = some (.slice B3 m3 d3 : Value) := LG4_7.out.cell 4
  have q4_5 : _ = some (.int .i64 s4 : Value) := LG4_7.out.cell 5
  have q4_6 : _ = some (.bool g4 : Value) := LG4_7.out.cell 6
  have q4_7 : _ = some (.slice A4 n4 k4 : Value) := LG4_7.out.cell 7
  have q4_8 : _ = some (.slice B4 m4 d4 : Value) := LG4_7.out.cell 8
  have HT := Lib.hid (ecmp_any 34 s4 g4 A4 n4 k4 B4 m4 d4 x4 s2 g2 A2 n2 k2 B2 m2 d2 x2 _ (H4.out.below LV7.out) (H2.out.below LV7.out) (by omega))
  rw [R42.out] at HT
  go_wp2_with fail
  refine HT.out.mono ?_
  rintro e wc2 ⟨rfl, hbc2⟩
  have LB8 := Lib.hid (LB7.out.trans (hbc2.mono LB7.out.size))
  have LR8 := Lib.hid (LR7.out.keep hbc2)
  have LG0_8 := Lib.hid (LG0_7.out.keep hbc2)
  have LG1_8 := Lib.hid (LG1_7.out.keep hbc2)
  have LG2_8 := Lib.hid (LG2_7.out.keep hbc2)
  have LG3_8 := Lib.hid (LG3_7.out.keep hbc2)
  have LG4_8 := Lib.hid (LG4_7.out.keep hbc2)
  have LG5_8 := Lib.hid (LG5_7.out.keep hbc2)
  have LV8 := Lib.hid (LV7.out.trans (hbc2.mono LV7.out.size))
  have LP8 := Lib.hid (LP7.out.trans (hbc2.mono LP7.out.size))
  clear LB7 LR7 LG0_7 LG1_7 LG2_7 LG3_7 LG4_7 LG5_7 LV7 LP7
  clear HT hbc2 q3_0 q3_1 q3_2 q3_3 q3_4 q3_5 q3_6 q3_7 q3_8 q4_0 q4_1 q4_2 q4_3 q4_4 q4_5 q4_6 q4_7 q4_8
  have q3_0 : _ = some (.bool false : Value) := LG3_8.out.cell 0
  have q3_1 : _ = some (.int .i64 s1 : Value) := LG3_8.out.cell 1
  have q3_2 : _ = some (.bool g1 : Value) := LG3_8.out.cell 2
  have q3_3 : _ = some (.slice A1 n1 k1 : Value) := LG3_8.out.cell 3
  have q3_4 : _ = some (.slice B1 m1 d1 : Value) := LG3_8.out.cell 4
  have q3_5 : _ = some (.int .i64 s2 : Value) := LG3_8.out.cell 5
  have q3_6 : _ = some (.bool g2 : Value) := LG3_8.out.cell 6
  have q3_7 : _ = some (.slice A2 n2 k2 : Value) := LG3_8.out.cell 7
  have q3_8 : _ = some (.slice B2 m2 d2 : Value) := LG3_8.out.cell 8
  have q4_0 : _ = some (.bool false : Value) := LG4_8.out.cell 0
  have q4_1 : _ = some (.int .i64 s3 : Value) := LG4_8.out.cell 1
  have q4_2 : _ = some (.bool g3 : Value) := LG4_8.out.cell 2
  have q4_3 : _ = some (.slice A3 n3 k3 : Value) := LG4_8.out.cell 3
  have q4_4 : _ = some (.slice B3 m3 d3 : Value) := LG4_8.out.cell 4
  have q4_5 : _ = some (.int .i64 s4 : Value) := LG4_8.out.cell 5
  have q4_6 : _ = some (.bool g4 : Value) := LG4_8.out.cell 6
  have q4_7 : _ = some (.slice A4 n4 k4 : Value) := LG4_8.out.cell 7
  have q4_8 : _ = some (.slice B4 m4 d4 : Value) := LG4_8.out.cell 8
  have HT := Lib.hid (bound_end 34 s4 g4 A4 n4 k4 B4 m4 d4 x4 _ (H4.out.below LV8.out) (by omega) Z4.out)
  obtain ⟨o7, eo7⟩ : ∃ s, decide (s4 ≠ 0) = s := ⟨_, rfl⟩
  rw [eo7] at HT
  have EO7 := Lib.hid eo7
  clear eo7
  go_wp2_with fail
  refine HT.out.mono ?_
  rintro e wb7 ⟨g7, A7, n7, k7, B7, m7, d7, rfl, h7, hbb7⟩
  have LB9 := Lib.hid (LB8.out.trans (hbb7.mono LB8.out.size))
  have LR9 := Lib.hid (LR8.out.keep hbb7)
  have LG0_9 := Lib.hid (LG0_8.out.keep hbb7)
  have LG1_9 := Lib.hid (LG1_8.out.keep hbb7)
  have LG2_9 := Lib.hid (LG2_8.out.keep hbb7)
  have LG3_9 := Lib.hid (LG3_8.out.keep hbb7)
  have LG4_9 := Lib.hid (LG4_8.out.keep hbb7)
  have LG5_9 := Lib.hid (LG5_8.out.keep hbb7)
  have LV9 := Lib.hid (LV8.out.trans (hbb7.mono LV8.out.size))
  have LP9 := Lib.hid (LP8.out.trans (hbb7.mono LP8.out.size))
  clear LB8 LR8 LG0_8 LG1_8 LG2_8 LG3_8 LG4_8 LG5_8 LV8 LP8
  clear HT hbb7 q3_0 q3_1 q3_2 q3_3 q3_4 q3_5 q3_6 q3_7 q3_8 q4_0 q4_1 q4_2 q4_3 q4_4 q4_5 q4_6 q4_7 q4_8
  have q5_7 : _ = some (.int .i64 s2 : Value) := LG5_9.out.cell 7
  have q5_8 : _ = some (.bool g6 : Value) := LG5_9.out.cell 8
  have q5_9 : _ = some (.slice A6 n6 k6 : Value) := LG5_9.out.cell 9
  have q5_10 : _ = some (.slice B6 m6 d6 : Value) := LG5_9.out.cell 10
  have q5_11 : _ = some (.int .i64 1 : Value) := LG5_9.out.cell 11
  have q5_12 : _ = some (.bool o6 : Value) := LG5_9.out.cell 12
  have hf7 := LG5_9.out.frozen 7
  have hf8 := LG5_9.out.frozen 8
  have hf9 := LG5_9.out.frozen 9
  have hf10 := LG5_9.out.frozen 10
  have hf11 := LG5_9.out.frozen 11
  have hf12 := LG5_9.out.frozen 12
  go_upto_region 10 with fail
  clear q5_7 q5_8 q5_9 q5_10 q5_11 q5_12 hf7 hf8 hf9 hf10 hf11 hf12
  have h7s := h7.sets LG5_9.out (NoWd.of (by rw [← Array.all_toList]; rfl)) 7 [.int .i64 s4, .bool g7, .slice A7 n7 k7, .slice B7 m7 d7, .int .i64 1, .bool o7]
  have LB10 := Lib.hid (below_sets (w0 := w) (show w.heap.size ≤ w4.heap.size by omega) [.int .i64 s4, .bool g7, .slice A7 n7 k7, .slice B7 m7 d7, .int .i64 1, .bool o7] 7 wb7 LB9.out)
  have LR10 := Lib.hid (LR9.out.other (r := w4.heap.size) (by omega) 7 [.int .i64 s4, .bool g7, .slice A7 n7 k7, .slice B7 m7 d7, .int .i64 1, .bool o7])
  have LG0_10 := Lib.hid (LG0_9.out.other (r := w4.heap.size) (by omega) 7 [.int .i64 s4, .bool g7, .slice A7 n7 k7, .slice B7 m7 d7, .int .i64 1, .bool o7])
  have LG1_10 := Lib.hid (LG1_9.out.other (r := w4.heap.size) (by omega) 7 [.int .i64 s4, .bool g7, .slice A7 n7 k7, .slice B7 m7 d7, .int .i64 1, .bool o7])
  have LG2_10 := Lib.hid (LG2_9.out.other (r := w4.heap.size) (by omega) 7 [.int .i64 s4, .bool g7, .slice A7 n7 k7, .slice B7 m7 d7, .int .i64 1, .bool o7])
  have LG3_10 := Lib.hid (LG3_9.out.other (r := w4.heap.size) (by omega) 7 [.int .i64 s4, .bool g7, .slice A7 n7 k7, .slice B7 m7 d7, .int .i64 1, .bool o7])
  have LG4_10 := Lib.hid (LG4_9.out.other (r := w4.heap.size) (by omega) 7 [.int .i64 s4, .bool g7, .slice A7 n7 k7, .slice B7 m7 d7, .int .i64 1, .bool o7])
  have LG5_10 := Lib.hid (show Blk (sets wb7 w4.heap.size 7 [.int .i64 s4, .bool g7, .slice A7 n7 k7, .slice B7 m7 d7, .int .i64 1, .bool o7]) w4.heap.size 56 #[.bool false, .int .i64 s1, .bool g5, .slice A5 n5 k5, .slice B5 m5 d5, .int .i64 1, .bool o5, .int .i64 s4, .bool g7, .slice A7 n7 k7, .slice B7 m7 d7, .int .i64 1, .bool o7] from by have hbs := Blk.sets [.int .i64 s4, .bool g7, .slice A7 n7 k7, .slice B7 m7 d7, .int .i64 1, .bool o7] 7 wb7 _ LG5_9.out; simpa [laid] using hbs)
  have LV10 := Lib.hid (below_sets (w0 := V2) (show V2.heap.size ≤ w4.heap.size by omega) [.int .i64 s4, .bool g7, .slice A7 n7 k7, .slice B7 m7 d7, .int .i64 1, .bool o7] 7 wb7 LV9.out)
  have LP10 := Lib.hid (below_sets (w0 := w4) (show w4.heap.size ≤ w4.heap.size by omega) [.int .i64 s4, .bool g7, .slice A7 n7 k7, .slice B7 m7 d7, .int .i64 1, .bool o7] 7 wb7 LP9.out)
  clear LB9 LR9 LG0_9 LG1_9 LG2_9 LG3_9 LG4_9 LG5_9 LV9 LP9
  obtain ⟨V5, hV5⟩ : ∃ X, (sets wb7 w4.heap.size 7 [.int .i64 s4, .bool g7, .slice A7 n7 k7, .slice B7 m7 d7, .int .i64 1, .bool o7]) = X := ⟨_, rfl⟩
  rw [hV5] at LB10 LR10 LG0_10 LG1_10 LG2_10 LG3_10 LG4_10 LG5_10 LV10 LP10 h7s
  rw [show ((((((wb7.setCell ⟨w4.heap.size, 7, none⟩ (.int .i64 s4)).setCell ⟨w4.heap.size, 8, none⟩ (.bool g7)).setCell ⟨w4.heap.size, 9, none⟩ (.slice A7 n7 k7)).setCell ⟨w4.heap.size, 10, none⟩ (.slice B7 m7 d7)).setCell ⟨w4.heap.size, 11, none⟩ (.int .i64 1)).setCell ⟨w4.heap.size, 12, none⟩ (.bool o7)) = V5 from hV5]
  clear hV5 h7
  have H7 := Lib.hid h7s
  clear h7s
  have hbd := HBD.out
  have hqq := HQQ.out
  have hM : M = 9218868437227405312 := rfl
  have PC1 := Lib.hid (show PcVal V5 i1 i4 [.bool false, .int .i64 s1, .bool g5, .slice A5 n5 k5, .slice B5 m5 d5, .int .i64 1, .bool o5, .int .i64 s4, .bool g7, .slice A7 n7 k7, .slice B7 m7 d7, .int .i64 1, .bool o7] from ⟨by omega, by omega, by omega, by omega, by omega, g5, A5, n5, k5, B5, m5, d5, g7, A7, n7, k7, B7, m7, d7, by rw [ES1.out, EO5.out, ES4.out, EO7.out], by rw [EX1.out]; exact H5.out.below LP10.out, by rw [EX4.out]; exact H7.out⟩)
  clear hbd hqq hM
  have KB := Lib.hid LB10.out
  have KR := Lib.hid LR10.out
  have KX := Lib.hid LG2_10.out
  have hcs := LB10.out.size
  have hcs2 := LV10.out.size
  clear LP10
  have LA10 := Lib.hid (Below.refl V5.heap.size V5)
  have q5_0 : _ = some (.bool false : Value) := LG5_10.out.cell 0
  have q5_1 : _ = some (.int .i64 s1 : Value) := LG5_10.out.cell 1
  have q5_2 : _ = some (.bool g5 : Value) := LG5_10.out.cell 2
  have q5_3 : _ = some (.slice A5 n5 k5 : Value) := LG5_10.out.cell 3
  have q5_4 : _ = some (.slice B5 m5 d5 : Value) := LG5_10.out.cell 4
  have q5_5 : _ = some (.int .i64 1 : Value) := LG5_10.out.cell 5
  have q5_6 : _ = some (.bool o5 : Value) := LG5_10.out.cell 6
  have q5_7 : _ = some (.int .i64 s4 : Value) := LG5_10.out.cell 7
  have q5_8 : _ = some (.bool g7 : Value) := LG5_10.out.cell 8
  have q5_9 : _ = some (.slice A7 n7 k7 : Value) := LG5_10.out.cell 9
  have q5_10 : _ = some (.slice B7 m7 d7 : Value) := LG5_10.out.cell 10
  have q5_11 : _ = some (.int .i64 1 : Value) := LG5_10.out.cell 11
  have q5_12 : _ = some (.bool o7 : Value) := LG5_10.out.cell 12
  go_wp2_with (at_builtin; refine wpList_append_pc1 _ rfl _ _ rfl V5.heap.size rfl ⟨V5.heap.size, 0, none⟩ 1 [.bool false, .int .i64 s1, .bool g5, .slice A5 n5 k5, .slice B5 m5 d5, .int .i64 1, .bool o5, .int .i64 s4, .bool g7, .slice A7 n7 k7, .slice B7 m7 d7, .int .i64 1, .bool o7] rfl rfl ?c1 ?c2 rfl ?c3 ?_)
  case c1 => exact fun j u hu => lit_cells V5 _ _ j u hu
  case c2 => intro u hu; exact List.all_eq_true.1 (show List.all [.bool false, .int .i64 s1, .bool g5, .slice A5 n5 k5, .slice B5 m5 d5, .int .i64 1, .bool o5, .int .i64 s4, .bool g7, .slice A7 n7 k7, .slice B7 m7 d7, .int .i64 1, .bool o7] Value.oneCell' = true from rfl) u hu
  case c3 => simp
  rintro v' w6 ⟨gr, cap, cs, rfl, hown, hg1, hg2, hgb, hnw, hbw⟩
  have hb6 : Below V5.heap.size V5 w6 := (below_alloc V5 _).trans (hbw.mono (by simp))
  have OWN := Lib.hid hown
  have GB := Lib.hid hgb
  have NW := Lib.hid hnw
  have LB11 := Lib.hid (LB10.out.trans (hb6.mono LB10.out.size))
  have LR11 := Lib.hid (LR10.out.keep hb6)
  have LG0_11 := Lib.hid (LG0_10.out.keep hb6)
  have LG1_11 := Lib.hid (LG1_10.out.keep hb6)
  have LG2_11 := Lib.hid (LG2_10.out.keep hb6)
  have LG3_11 := Lib.hid (LG3_10.out.keep hb6)
  have LG4_11 := Lib.hid (LG4_10.out.keep hb6)
  have LG5_11 := Lib.hid (LG5_10.out.keep hb6)
  have LV11 := Lib.hid (LV10.out.trans (hb6.mono LV10.out.size))
  have LA11 := Lib.hid (LA10.out.trans (hb6.mono LA10.out.size))
  clear LB10 LR10 LG0_10 LG1_10 LG2_10 LG3_10 LG4_10 LG5_10 LV10 LA10
  clear hown hgb hnw hbw hb6 hg2 q5_0 q5_1 q5_2 q5_3 q5_4 q5_5 q5_6 q5_7 q5_8 q5_9 q5_10 q5_11 q5_12
  have LW11 := Lib.hid (Below.refl w6.heap.size w6)
  have q3_0 : _ = some (.bool false : Value) := LG3_11.out.cell 0
  have q3_1 : _ = some (.int .i64 s1 : Value) := LG3_11.out.cell 1
  have q3_2 : _ = some (.bool g1 : Value) := LG3_11.out.cell 2
  have q3_3 : _ = some (.slice A1 n1 k1 : Value) := LG3_11.out.cell 3
  have q3_4 : _ = some (.slice B1 m1 d1 : Value) := LG3_11.out.cell 4
  have q3_5 : _ = some (.int .i64 s2 : Value) := LG3_11.out.cell 5
  have q3_6 : _ = some (.bool g2 : Value) := LG3_11.out.cell 6
  have q3_7 : _ = some (.slice A2 n2 k2 : Value) := LG3_11.out.cell 7
  have q3_8 : _ = some (.slice B2 m2 d2 : Value) := LG3_11.out.cell 8
  have q4_0 : _ = some (.bool false : Value) := LG4_11.out.cell 0
  have q4_1 : _ = some (.int .i64 s3 : Value) := LG4_11.out.cell 1
  have q4_2 : _ = some (.bool g3 : Value) := LG4_11.out.cell 2
  have q4_3 : _ = some (.slice A3 n3 k3 : Value) := LG4_11.out.cell 3
  have q4_4 : _ = some (.slice B3 m3 d3 : Value) := LG4_11.out.cell 4
  have q4_5 : _ = some (.int .i64 s4 : Value) := LG4_11.out.cell 5
  have q4_6 : _ = some (.bool g4 : Value) := LG4_11.out.cell 6
  have q4_7 : _ = some (.slice A4 n4 k4 : Value) := LG4_11.out.cell 7
  have q4_8 : _ = some (.slice B4 m4 d4 : Value) := LG4_11.out.cell 8
  have HT := Lib.hid (ecmp_any 34 s1 g1 A1 n1 k1 B1 m1 d1 x1 s4 g4 A4 n4 k4 B4 m4 d4 x4 _ (H1.out.below LV11.out) (H4.out.below LV11.out) (by omega))
  rw [R14.out] at HT
  go_wp2_with fail
  refine HT.out.mono ?_
  rintro e wc3 ⟨rfl, hbc3⟩
  have LB12 := Lib.hid (LB11.out.trans (hbc3.mono LB11.out.size))
  have LR12 := Lib.hid (LR11.out.keep hbc3)
  have LG0_12 := Lib.hid (LG0_11.out.keep hbc3)
  have LG1_12 := Lib.hid (LG1_11.out.keep hbc3)
  have LG2_12 := Lib.hid (LG2_11.out.keep hbc3)
  have LG3_12 := Lib.hid (LG3_11.out.keep hbc3)
  have LG4_12 := Lib.hid (LG4_11.out.keep hbc3)
  have LG5_12 := Lib.hid (LG5_11.out.keep hbc3)
  have LV12 := Lib.hid (LV11.out.trans (hbc3.mono LV11.out.size))
  have LA12 := Lib.hid (LA11.out.trans (hbc3.mono LA11.out.size))
  have LW12 := Lib.hid (LW11.out.trans (hbc3.mono LW11.out.size))
  clear LB11 LR11 LG0_11 LG1_11 LG2_11 LG3_11 LG4_11 LG5_11 LV11 LA11 LW11
  clear HT hbc3 q3_0 q3_1 q3_2 q3_3 q3_4 q3_5 q3_6 q3_7 q3_8 q4_0 q4_1 q4_2 q4_3 q4_4 q4_5 q4_6 q4_7 q4_8
  have q3_0 : _ = some (.bool false : Value) := LG3_12.out.cell 0
  have q3_1 : _ = some (.int .i64 s1 : Value) := LG3_12.out.cell 1
  have q3_2 : _ = some (.bool g1 : Value) := LG3_12.out.cell 2
  have q3_3 : _ = some (.slice A1 n1 k1 : Value) := LG3_12.out.cell 3
  have q3_4 : _ = some (.slice B1 m1 d1 : Value) := LG3_12.out.cell 4
  have q3_5 : _ = some (.int .i64 s2 : Value) := LG3_12.out.cell 5
  have q3_6 : _ = some (.bool g2 : Value) := LG3_12.out.cell 6
  have q3_7 : _ = some (.slice A2 n2 k2 : Value) := LG3_12.out.cell 7
  have q3_8 : _ = some (.slice B2 m2 d2 : Value) := LG3_12.out.cell 8
  have q4_0 : _ = some (.bool false : Value) := LG4_12.out.cell 0
  have q4_1 : _ = some (.int .i64 s3 : Value) := LG4_12.out.cell 1
  have q4_2 : _ = some (.bool g3 : Value) := LG4_12.out.cell 2
  have q4_3 : _ = some (.slice A3 n3 k3 : Value) := LG4_12.out.cell 3
  have q4_4 : _ = some (.slice B3 m3 d3 : Value) := LG4_12.out.cell 4
  have q4_5 : _ = some (.int .i64 s4 : Value) := LG4_12.out.cell 5
  have q4_6 : _ = some (.bool g4 : Value) := LG4_12.out.cell 6
  have q4_7 : _ = some (.slice A4 n4 k4 : Value) := LG4_12.out.cell 7
  have q4_8 : _ = some (.slice B4 m4 d4 : Value) := LG4_12.out.cell 8
  have HT := Lib.hid (ecmp_any 34 s3 g3 A3 n3 k3 B3 m3 d3 x3 s2 g2 A2 n2 k2 B2 m2 d2 x2 _ (H3.out.below LV12.out) (H2.out.below LV12.out) (by omega))
  rw [R32.out] at HT
  go_wp2_with fail
  refine HT.out.mono ?_
  rintro e wc4 ⟨rfl, hbc4⟩
  have LB13 := Lib.hid (LB12.out.trans (hbc4.mono LB12.out.size))
  have LR13 := Lib.hid (LR12.out.keep hbc4)
  have LG0_13 := Lib.hid (LG0_12.out.keep hbc4)
  have LG1_13 := Lib.hid (LG1_12.out.keep hbc4)
  have LG2_13 := Lib.hid (LG2_12.out.keep hbc4)
  have LG3_13 := Lib.hid (LG3_12.out.keep hbc4)
  have LG4_13 := Lib.hid (LG4_12.out.keep hbc4)
  have LG5_13 := Lib.hid (LG5_12.out.keep hbc4)
  have LV13 := Lib.hid (LV12.out.trans (hbc4.mono LV12.out.size))
  have LA13 := Lib.hid (LA12.out.trans (hbc4.mono LA12.out.size))
  have LW13 := Lib.hid (LW12.out.trans (hbc4.mono LW12.out.size))
  clear LB12 LR12 LG0_12 LG1_12 LG2_12 LG3_12 LG4_12 LG5_12 LV12 LA12 LW12
  clear HT hbc4 q3_0 q3_1 q3_2 q3_3 q3_4 q3_5 q3_6 q3_7 q3_8 q4_0 q4_1 q4_2 q4_3 q4_4 q4_5 q4_6 q4_7 q4_8
  have q3_0 : _ = some (.bool false : Value) := LG3_13.out.cell 0
  have q3_1 : _ = some (.int .i64 s1 : Value) := LG3_13.out.cell 1
  have q3_2 : _ = some (.bool g1 : Value) := LG3_13.out.cell 2
  have q3_3 : _ = some (.slice A1 n1 k1 : Value) := LG3_13.out.cell 3
  have q3_4 : _ = some (.slice B1 m1 d1 : Value) := LG3_13.out.cell 4
  have q3_5 : _ = some (.int .i64 s2 : Value) := LG3_13.out.cell 5
  have q3_6 : _ = some (.bool g2 : Value) := LG3_13.out.cell 6
  have q3_7 : _ = some (.slice A2 n2 k2 : Value) := LG3_13.out.cell 7
  have q3_8 : _ = some (.slice B2 m2 d2 : Value) := LG3_13.out.cell 8
  have q4_0 : _ = some (.bool false : Value) := LG4_13.out.cell 0
  have q4_1 : _ = some (.int .i64 s3 : Value) := LG4_13.out.cell 1
  have q4_2 : _ = some (.bool g3 : Value) := LG4_13.out.cell 2
  have q4_3 : _ = some (.slice A3 n3 k3 : Value) := LG4_13.out.cell 3
  have q4_4 : _ = some (.slice B3 m3 d3 : Value) := LG4_13.out.cell 4
  have q4_5 : _ = some (.int .i64 s4 : Value) := LG4_13.out.cell 5
  have q4_6 : _ = some (.bool g4 : Value) := LG4_13.out.cell 6
  have q4_7 : _ = some (.slice A4 n4 k4 : Value) := LG4_13.out.cell 7
  have q4_8 : _ = some (.slice B4 m4 d4 : Value) := LG4_13.out.cell 8
  have HT := Lib.hid (bound_end 34 s1 g1 A1 n1 k1 B1 m1 d1 x1 _ (H1.out.below LV13.out) (by omega) Z1.out)
  obtain ⟨o8, eo8⟩ : ∃ s, decide (s1 ≠ 0) = s := ⟨_, rfl⟩
  rw [eo8] at HT
  have EO8 := Lib.hid eo8
  clear eo8
  go_wp2_with fail
  refine HT.out.mono ?_
  rintro e wb8 ⟨g8, A8, n8, k8, B8, m8, d8, rfl, h8, hbb8⟩
  have LB14 := Lib.hid (LB13.out.trans (hbb8.mono LB13.out.size))
  have LR14 := Lib.hid (LR13.out.keep hbb8)
  have LG0_14 := Lib.hid (LG0_13.out.keep hbb8)
  have LG1_14 := Lib.hid (LG1_13.out.keep hbb8)
  have LG2_14 := Lib.hid (LG2_13.out.keep hbb8)
  have LG3_14 := Lib.hid (LG3_13.out.keep hbb8)
  have LG4_14 := Lib.hid (LG4_13.out.keep hbb8)
  have LG5_14 := Lib.hid (LG5_13.out.keep hbb8)
  have LV14 := Lib.hid (LV13.out.trans (hbb8.mono LV13.out.size))
  have LA14 := Lib.hid (LA13.out.trans (hbb8.mono LA13.out.size))
  have LW14 := Lib.hid (LW13.out.trans (hbb8.mono LW13.out.size))
  clear LB13 LR13 LG0_13 LG1_13 LG2_13 LG3_13 LG4_13 LG5_13 LV13 LA13 LW13
  clear HT hbb8 q3_0 q3_1 q3_2 q3_3 q3_4 q3_5 q3_6 q3_7 q3_8 q4_0 q4_1 q4_2 q4_3 q4_4 q4_5 q4_6 q4_7 q4_8
  have h8x := h8
  go_wp2_with fail
  refine (far_any 1 _).mono ?_
  rintro e w7 ⟨g9, A9, n9, k9, B9, m9, d9, rfl, h9, hb7⟩
  have LB15 := Lib.hid (LB14.out.trans (hb7.mono LB14.out.size))
  have LR15 := Lib.hid (LR14.out.keep hb7)
  have LG0_15 := Lib.hid (LG0_14.out.keep hb7)
  have LG1_15 := Lib.hid (LG1_14.out.keep hb7)
  have LG2_15 := Lib.hid (LG2_14.out.keep hb7)
  have LG3_15 := Lib.hid (LG3_14.out.keep hb7)
  have LG4_15 := Lib.hid (LG4_14.out.keep hb7)
  have LG5_15 := Lib.hid (LG5_14.out.keep hb7)
  have LV15 := Lib.hid (LV14.out.trans (hb7.mono LV14.out.size))
  have LA15 := Lib.hid (LA14.out.trans (hb7.mono LA14.out.size))
  have LW15 := Lib.hid (LW14.out.trans (hb7.mono LW14.out.size))
  clear LB14 LR14 LG0_14 LG1_14 LG2_14 LG3_14 LG4_14 LG5_14 LV14 LA14 LW14
  have H8 := Lib.hid (h8.below hb7)
  have H9 := Lib.hid h9.k34
  clear h8 h8x h9 hb7
  have LQ15 := Lib.hid (Below.refl w7.heap.size w7)
  have hl57 := LG5_15.out.lt
  go_upto_region 13 with fail
  have hlp2 := LV15.out.size
  have hlp3 := LA15.out.size
  have hlp4 := LW15.out.size
  have hlt16 := LR15.out.lt
  have LB16 := Lib.hid (LB15.out.alloc LB15.out.size (.cells #[.bool false, .int .i64 s1, .bool g8, .slice A8 n8 k8, .slice B8 m8 d8, .int .i64 1, .bool o8, .int .i64 1, .bool g9, .slice A9 n9 k9, .slice B9 m9 d9, .int .i64 1, .bool true] 56))
  have LR16 := Lib.hid (LR15.out.alloc (.cells #[.bool false, .int .i64 s1, .bool g8, .slice A8 n8 k8, .slice B8 m8 d8, .int .i64 1, .bool o8, .int .i64 1, .bool g9, .slice A9 n9 k9, .slice B9 m9 d9, .int .i64 1, .bool true] 56))
  have LG0_16 := Lib.hid (LG0_15.out.alloc (.cells #[.bool false, .int .i64 s1, .bool g8, .slice A8 n8 k8, .slice B8 m8 d8, .int .i64 1, .bool o8, .int .i64 1, .bool g9, .slice A9 n9 k9, .slice B9 m9 d9, .int .i64 1, .bool true] 56))
  have LG1_16 := Lib.hid (LG1_15.out.alloc (.cells #[.bool false, .int .i64 s1, .bool g8, .slice A8 n8 k8, .slice B8 m8 d8, .int .i64 1, .bool o8, .int .i64 1, .bool g9, .slice A9 n9 k9, .slice B9 m9 d9, .int .i64 1, .bool true] 56))
  have LG2_16 := Lib.hid (LG2_15.out.alloc (.cells #[.bool false, .int .i64 s1, .bool g8, .slice A8 n8 k8, .slice B8 m8 d8, .int .i64 1, .bool o8, .int .i64 1, .bool g9, .slice A9 n9 k9, .slice B9 m9 d9, .int .i64 1, .bool true] 56))
  have LG3_16 := Lib.hid (LG3_15.out.alloc (.cells #[.bool false, .int .i64 s1, .bool g8, .slice A8 n8 k8, .slice B8 m8 d8, .int .i64 1, .bool o8, .int .i64 1, .bool g9, .slice A9 n9 k9, .slice B9 m9 d9, .int .i64 1, .bool true] 56))
  have LG4_16 := Lib.hid (LG4_15.out.alloc (.cells #[.bool false, .int .i64 s1, .bool g8, .slice A8 n8 k8, .slice B8 m8 d8, .int .i64 1, .bool o8, .int .i64 1, .bool g9, .slice A9 n9 k9, .slice B9 m9 d9, .int .i64 1, .bool true] 56))
  have LG5_16 := Lib.hid (LG5_15.out.alloc (.cells #[.bool false, .int .i64 s1, .bool g8, .slice A8 n8 k8, .slice B8 m8 d8, .int .i64 1, .bool o8, .int .i64 1, .bool g9, .slice A9 n9 k9, .slice B9 m9 d9, .int .i64 1, .bool true] 56))
  have LG6_16 := Lib.hid (Blk.new w7 56 #[.bool false, .int .i64 s1, .bool g8, .slice A8 n8 k8, .slice B8 m8 d8, .int .i64 1, .bool o8, .int .i64 1, .bool g9, .slice A9 n9 k9, .slice B9 m9 d9, .int .i64 1, .bool true])
  have LV16 := Lib.hid (LV15.out.alloc LV15.out.size (.cells #[.bool false, .int .i64 s1, .bool g8, .slice A8 n8 k8, .slice B8 m8 d8, .int .i64 1, .bool o8, .int .i64 1, .bool g9, .slice A9 n9 k9, .slice B9 m9 d9, .int .i64 1, .bool true] 56))
  have LA16 := Lib.hid (LA15.out.alloc LA15.out.size (.cells #[.bool false, .int .i64 s1, .bool g8, .slice A8 n8 k8, .slice B8 m8 d8, .int .i64 1, .bool o8, .int .i64 1, .bool g9, .slice A9 n9 k9, .slice B9 m9 d9, .int .i64 1, .bool true] 56))
  have LW16 := Lib.hid (LW15.out.alloc LW15.out.size (.cells #[.bool false, .int .i64 s1, .bool g8, .slice A8 n8 k8, .slice B8 m8 d8, .int .i64 1, .bool o8, .int .i64 1, .bool g9, .slice A9 n9 k9, .slice B9 m9 d9, .int .i64 1, .bool true] 56))
  have LQ16 := Lib.hid (LQ15.out.alloc LQ15.out.size (.cells #[.bool false, .int .i64 s1, .bool g8, .slice A8 n8 k8, .slice B8 m8 d8, .int .i64 1, .bool o8, .int .i64 1, .bool g9, .slice A9 n9 k9, .slice B9 m9 d9, .int .i64 1, .bool true] 56))
  clear LB15 LR15 LG0_15 LG1_15 LG2_15 LG3_15 LG4_15 LG5_15 LV15 LA15 LW15 LQ15
  obtain ⟨V7, hV7⟩ : ∃ X, (w7.alloc (.cells #[.bool false, .int .i64 s1, .bool g8, .slice A8 n8 k8, .slice B8 m8 d8, .int .i64 1, .bool o8, .int .i64 1, .bool g9, .slice A9 n9 k9, .slice B9 m9 d9, .int .i64 1, .bool true] 56)) = X := ⟨_, rfl⟩
  rw [hV7] at LB16 LR16 LG0_16 LG1_16 LG2_16 LG3_16 LG4_16 LG5_16 LG6_16 LV16 LA16 LW16 LQ16 ⊢
  clear hV7
  skip
  have q3_0 : _ = some (.bool false : Value) := LG3_16.out.cell 0
  have q3_1 : _ = some (.int .i64 s1 : Value) := LG3_16.out.cell 1
  have q3_2 : _ = some (.bool g1 : Value) := LG3_16.out.cell 2
  have q3_3 : _ = some (.slice A1 n1 k1 : Value) := LG3_16.out.cell 3
  have q3_4 : _ = some (.slice B1 m1 d1 : Value) := LG3_16.out.cell 4
  have q3_5 : _ = some (.int .i64 s2 : Value) := LG3_16.out.cell 5
  have q3_6 : _ = some (.bool g2 : Value) := LG3_16.out.cell 6
  have q3_7 : _ = some (.slice A2 n2 k2 : Value) := LG3_16.out.cell 7
  have q3_8 : _ = some (.slice B2 m2 d2 : Value) := LG3_16.out.cell 8
  have q4_0 : _ = some (.bool false : Value) := LG4_16.out.cell 0
  have q4_1 : _ = some (.int .i64 s3 : Value) := LG4_16.out.cell 1
  have q4_2 : _ = some (.bool g3 : Value) := LG4_16.out.cell 2
  have q4_3 : _ = some (.slice A3 n3 k3 : Value) := LG4_16.out.cell 3
  have q4_4 : _ = some (.slice B3 m3 d3 : Value) := LG4_16.out.cell 4
  have q4_5 : _ = some (.int .i64 s4 : Value) := LG4_16.out.cell 5
  have q4_6 : _ = some (.bool g4 : Value) := LG4_16.out.cell 6
  have q4_7 : _ = some (.slice A4 n4 k4 : Value) := LG4_16.out.cell 7
  have q4_8 : _ = some (.slice B4 m4 d4 : Value) := LG4_16.out.cell 8
  have HT := Lib.hid (ecmp_any 34 s1 g1 A1 n1 k1 B1 m1 d1 x1 s3 g3 A3 n3 k3 B3 m3 d3 x3 _ (H1.out.below LV16.out) (H3.out.below LV16.out) (by omega))
  rw [R13.out] at HT
  go_wp2_with fail
  refine HT.out.mono ?_
  rintro e wc5 ⟨rfl, hbc5⟩
  have LB17 := Lib.hid (LB16.out.trans (hbc5.mono LB16.out.size))
  have LR17 := Lib.hid (LR16.out.keep hbc5)
  have LG0_17 := Lib.hid (LG0_16.out.keep hbc5)
  have LG1_17 := Lib.hid (LG1_16.out.keep hbc5)
  have LG2_17 := Lib.hid (LG2_16.out.keep hbc5)
  have LG3_17 := Lib.hid (LG3_16.out.keep hbc5)
  have LG4_17 := Lib.hid (LG4_16.out.keep hbc5)
  have LG5_17 := Lib.hid (LG5_16.out.keep hbc5)
  have LG6_17 := Lib.hid (LG6_16.out.keep hbc5)
  have LV17 := Lib.hid (LV16.out.trans (hbc5.mono LV16.out.size))
  have LA17 := Lib.hid (LA16.out.trans (hbc5.mono LA16.out.size))
  have LW17 := Lib.hid (LW16.out.trans (hbc5.mono LW16.out.size))
  have LQ17 := Lib.hid (LQ16.out.trans (hbc5.mono LQ16.out.size))
  clear LB16 LR16 LG0_16 LG1_16 LG2_16 LG3_16 LG4_16 LG5_16 LG6_16 LV16 LA16 LW16 LQ16
  clear HT hbc5 q3_0 q3_1 q3_2 q3_3 q3_4 q3_5 q3_6 q3_7 q3_8 q4_0 q4_1 q4_2 q4_3 q4_4 q4_5 q4_6 q4_7 q4_8
  have hbd := HBD.out
  have hqq := HQQ.out
  have hM : M = 9218868437227405312 := rfl
  have PC2 := Lib.hid (show PcVal wc5 i1 M [.bool false, .int .i64 s1, .bool g8, .slice A8 n8 k8, .slice B8 m8 d8, .int .i64 1, .bool o8, .int .i64 1, .bool g9, .slice A9 n9 k9, .slice B9 m9 d9, .int .i64 1, .bool true] from ⟨by omega, by omega, by omega, by omega, by omega, g8, A8, n8, k8, B8, m8, d8, g9, A9, n9, k9, B9, m9, d9, by rw [ES1.out, EO8.out, es_max]; rfl, by rw [EX1.out]; exact (H8.out.below LQ17.out), by rw [ex_max]; exact H9.out.below LQ17.out⟩)
  clear hbd hqq hM
  have q6_0 : _ = some (.bool false : Value) := LG6_17.out.cell 0
  have q6_1 : _ = some (.int .i64 s1 : Value) := LG6_17.out.cell 1
  have q6_2 : _ = some (.bool g8 : Value) := LG6_17.out.cell 2
  have q6_3 : _ = some (.slice A8 n8 k8 : Value) := LG6_17.out.cell 3
  have q6_4 : _ = some (.slice B8 m8 d8 : Value) := LG6_17.out.cell 4
  have q6_5 : _ = some (.int .i64 1 : Value) := LG6_17.out.cell 5
  have q6_6 : _ = some (.bool o8 : Value) := LG6_17.out.cell 6
  have q6_7 : _ = some (.int .i64 1 : Value) := LG6_17.out.cell 7
  have q6_8 : _ = some (.bool g9 : Value) := LG6_17.out.cell 8
  have q6_9 : _ = some (.slice A9 n9 k9 : Value) := LG6_17.out.cell 9
  have q6_10 : _ = some (.slice B9 m9 d9 : Value) := LG6_17.out.cell 10
  have q6_11 : _ = some (.int .i64 1 : Value) := LG6_17.out.cell 11
  have q6_12 : _ = some (.bool true : Value) := LG6_17.out.cell 12
  have hsz := LA17.out.size
  go_wp2_with (at_builtin; refine wpList_append_pc _ rfl _ _ rfl V5.heap.size _ 1 _ rfl ((OWN.out.keep LW17.out).alloc _) ⟨wc5.heap.size, 0, none⟩ 1 [.bool false, .int .i64 s1, .bool g8, .slice A8 n8 k8, .slice B8 m8 d8, .int .i64 1, .bool o8, .int .i64 1, .bool g9, .slice A9 n9 k9, .slice B9 m9 d9, .int .i64 1, .bool true] rfl rfl ?c1 ?c2 (by omega) ?c3 ?_)
  case c1 => exact fun j u hu => lit_cells wc5 _ _ j u hu
  case c2 => intro u hu; exact List.all_eq_true.1 (show List.all [.bool false, .int .i64 s1, .bool g8, .slice A8 n8 k8, .slice B8 m8 d8, .int .i64 1, .bool o8, .int .i64 1, .bool g9, .slice A9 n9 k9, .slice B9 m9 d9, .int .i64 1, .bool true] Value.oneCell' = true from rfl) u hu
  case c3 => simp; omega
  intro v2 w8 hown2 hgrow
  obtain ⟨gs, cap2, rfl, hgs, hcap2⟩ := hown2.form (by omega)
  have hbz : Below V5.heap.size V5 w8 := (LA17.out.alloc hsz _).grown hgrow (by simp; omega) (fun k hk => Nat.le_trans hg1 (Nat.le_of_eq (by simpa [Value.ownBlock] using hk)))
  have LBX := Lib.hid (KB.out.trans (hbz.mono KB.out.size))
  have LRX := Lib.hid (KR.out.keep hbz)
  have LGX := Lib.hid (KX.out.keep hbz)
  have PZ1 := Lib.hid (PC1.out.below hbz)
  have PZ2 := Lib.hid ((PC2.out.below (below_alloc wc5 _)).grown ((GB.out.keep LW17.out).alloc _) NW.out hgrow)
  have OWN2 := Lib.hid hown2
  clear hown2 hgrow hbz
  clear q6_0 q6_1 q6_2 q6_3 q6_4 q6_5 q6_6 q6_7 q6_8 q6_9 q6_10 q6_11 q6_12 LB17 LR17 LG0_17 LG1_17 LG2_17 LG3_17 LG4_17 LG5_17 LG6_17 LV17 LA17 LW17 LQ17
  have LB90 := Lib.hid LBX.out
  have LR90 := Lib.hid LRX.out
  have LG0_90 := Lib.hid LGX.out
  clear LBX LRX LGX
  have q0_0 : _ = some (.int .u64 (x : Int) : Value) := LG0_90.out.cell 0
  have q0_1 : _ = some (.int .u64 (y : Int) : Value) := LG0_90.out.cell 1
  have HT := Lib.hid (HALL.out ⟨gs, 0, none⟩ 2 cap2 w8 (by omega) hcap2 (fun k hk => by
    have hk2 : k = 0 ∨ k = 1 := by omega
    rcases hk2 with rfl | rfl
    · rw [D1.out]
      exact pcAt_of (p := [.bool false, .int .i64 s1, .bool g5, .slice A5 n5 k5, .slice B5 m5 d5, .int .i64 1, .bool o5, .int .i64 s4, .bool g7, .slice A7 n7 k7, .slice B7 m7 d7, .int .i64 1, .bool o7]) OWN2.out (by omega) (fun j hj => match j, hj with | 0, _ => rfl | 1, _ => rfl | 2, _ => rfl | 3, _ => rfl | 4, _ => rfl | 5, _ => rfl | 6, _ => rfl | 7, _ => rfl | 8, _ => rfl | 9, _ => rfl | 10, _ => rfl | 11, _ => rfl | 12, _ => rfl) PZ1.out
    · rw [D2.out]
      exact pcAt_of (p := [.bool false, .int .i64 s1, .bool g8, .slice A8 n8 k8, .slice B8 m8 d8, .int .i64 1, .bool o8, .int .i64 1, .bool g9, .slice A9 n9 k9, .slice B9 m9 d9, .int .i64 1, .bool true]) OWN2.out (by omega) (fun j hj => match j, hj with | 0, _ => rfl | 1, _ => rfl | 2, _ => rfl | 3, _ => rfl | 4, _ => rfl | 5, _ => rfl | 6, _ => rfl | 7, _ => rfl | 8, _ => rfl | 9, _ => rfl | 10, _ => rfl | 11, _ => rfl | 12, _ => rfl) PZ2.out))
  rw [HPP.out] at HT
  go_wp2_with fail
  refine HT.out.mono ?_
  rintro e w9 ⟨rfl, hb9⟩
  have LB91 := Lib.hid (LB90.out.trans (hb9.mono LB90.out.size))
  have LR91 := Lib.hid (LR90.out.keep hb9)
  have LG0_91 := Lib.hid (LG0_90.out.keep hb9)
  clear LB90 LR90 LG0_90
  clear HT hb9 q0_0 q0_1
  have ha0 := LR91.out.someCell 0 (by decide)
  have hf0 := LR91.out.frozen 0
  have ha1 := LR91.out.someCell 1 (by decide)
  have hf1 := LR91.out.frozen 1
  have hk0 := LR91.out.setCell [.int .u64 (pat PP.1 : Int), .int .u64 (pat PP.2 : Int)] rfl 0 (by decide)
  have hk1 := LR91.out.setCell [.int .u64 (pat PP.1 : Int), .int .u64 (pat PP.2 : Int)] rfl 1 (by decide)
  have F := Lib.hid (below_sets (w0 := w) (r := (w.heap.size + 3)) (by omega) [.int .u64 (pat PP.1 : Int), .int .u64 (pat PP.2 : Int)] 0 _ LB91.out)
  simp [sets] at hk0 hk1
  go_wp2
  refine bodyPost_ret (v := .agg #[.int .u64 (pat PP.1 : Int), .int .u64 (pat PP.2 : Int)]) (by simp [results, Try.results7, go_sem, hk0, hk1]) rfl ?_
  exact ⟨rfl, F.out⟩

set_option maxRecDepth 2000 in
set_option maxHeartbeats 12800000 in
theorem mr_2rl (b1 b2 c1 c2 x y : Nat) (i1 i2 i3 i4 : Int) (w : World) (hb1 : b1 < 18446744073709551616) (hb2 : b2 < 18446744073709551616) (hc1 : c1 < 18446744073709551616) (hc2 : c2 < 18446744073709551616) (hx : x < 18446744073709551616) (hy : y < 18446744073709551616) (hcc : snd c1 c2 = true) (hbb : snd b1 b2 = true) (e1 : idx c1 = i1) (e2 : idx c2 = i2) (e3 : idx b1 = i3) (e4 : idx b2 = i4) (q0 : i1 ≤ i4) (q1 : i4 < i2) (q2 : i3 ≤ i2) (q3 : i1 < i3) :
    Calls Try.prog 7 #[.agg #[.int .u64 (b1 : Int), .int .u64 (b2 : Int)], .agg #[.int .u64 (c1 : Int), .int .u64 (c2 : Int)], .agg #[.int .u64 (x : Int), .int .u64 (y : Int)]] w fun e w' => e = .returned (.agg #[.int .u64 (pat (zf (rd x y).1 (rd x y).2 (mrL i3 i4 i1 i2) 2).1 : Int), .int .u64 (pat (zf (rd x y).1 (rd x y).2 (mrL i3 i4 i1 i2) 2).2 : Int)]) ∧ Below w.heap.size w w' := by
  have hdc := of_decide_eq_true hcc
  have hdb := of_decide_eq_true hbb
  have a1 := idx_bounds hdc.1
  have a2 := idx_bounds hdc.2.1
  have a3 := idx_bounds hdb.1
  have a4 := idx_bounds hdb.2.1
  rw [e1] at a1; rw [e2] at a2; rw [e3] at a3; rw [e4] at a4
  have u1 := hdc.2.2; have u2 := hdb.2.2
  rw [e1, e2] at u1; rw [e3, e4] at u2
  have HC := Lib.hid fun W => of_full c1 c2 W hc1 hc2 hcc
  have HBB := Lib.hid fun W => of_full b1 b2 W hb1 hb2 hbb
  rw [e1, e2] at HC
  rw [e3, e4] at HBB
  have Q14 := ec_idx a1.1 a1.2 a4.1 a4.2
  have Q42 := ec_idx a4.1 a4.2 a2.1 a2.2
  have Q32 := ec_idx a3.1 a3.2 a2.1 a2.2
  have Q13 := ec_idx a1.1 a1.2 a3.1 a3.2
  unfold SameSign at Q14 Q42 Q32 Q13
  have z1 : es i1 ≠ 0 → ex i1 = 0 := ex_inf
  have z2 : es i2 ≠ 0 → ex i2 = 0 := ex_inf
  have z3 : es i3 ≠ 0 → ex i3 = 0 := ex_inf
  have z4 : es i4 ≠ 0 → ex i4 = 0 := ex_inf
  have D1 : mrL i3 i4 i1 i2 0 = (i1, i4) := by unfold mrL; rw [if_pos rfl, show min i2 i4 = i4 from by omega]
  have D2 : mrL i3 i4 i1 i2 1 = (i3, (M : Int)) := by unfold mrL; rw [if_neg (by decide), show max i1 i3 = i3 from by omega]
  obtain ⟨L, hL⟩ : ∃ L, mrL i3 i4 i1 i2 = L := ⟨_, rfl⟩
  rw [hL] at D1 D2 ⊢
  clear hL
  have E1 := Lib.hid (rfl : es i1 = es i1)
  obtain ⟨s1, es1⟩ : ∃ s, es i1 = s := ⟨_, rfl⟩
  obtain ⟨x1, ex1⟩ : ∃ s, ex i1 = s := ⟨_, rfl⟩
  have ES1 := Lib.hid es1
  have EX1 := Lib.hid ex1
  rw [es1, ex1] at z1
  obtain ⟨s2, es2⟩ : ∃ s, es i2 = s := ⟨_, rfl⟩
  obtain ⟨x2, ex2⟩ : ∃ s, ex i2 = s := ⟨_, rfl⟩
  have ES2 := Lib.hid es2
  have EX2 := Lib.hid ex2
  rw [es2, ex2] at z2
  obtain ⟨s3, es3⟩ : ∃ s, es i3 = s := ⟨_, rfl⟩
  obtain ⟨x3, ex3⟩ : ∃ s, ex i3 = s := ⟨_, rfl⟩
  have ES3 := Lib.hid es3
  have EX3 := Lib.hid ex3
  rw [es3, ex3] at z3
  obtain ⟨s4, es4⟩ : ∃ s, es i4 = s := ⟨_, rfl⟩
  obtain ⟨x4, ex4⟩ : ∃ s, ex i4 = s := ⟨_, rfl⟩
  have ES4 := Lib.hid es4
  have EX4 := Lib.hid ex4
  rw [es4, ex4] at z4
  rw [es1, ex1, es2, ex2] at HC
  rw [es3, ex3, es4, ex4] at HBB
  rw [es1, ex1, es4, ex4] at Q14
  rw [es4, ex4, es2, ex2] at Q42
  rw [es3, ex3, es2, ex2] at Q32
  rw [es1, ex1, es3, ex3] at Q13
  obtain ⟨r14, er14⟩ : ∃ r, ec s1 x1 s4 x4 = r := ⟨_, rfl⟩
  obtain ⟨r42, er42⟩ : ∃ r, ec s4 x4 s2 x2 = r := ⟨_, rfl⟩
  obtain ⟨r32, er32⟩ : ∃ r, ec s3 x3 s2 x2 = r := ⟨_, rfl⟩
  obtain ⟨r13, er13⟩ : ∃ r, ec s1 x1 s3 x3 = r := ⟨_, rfl⟩
  rw [er14] at Q14; rw [er42] at Q42; rw [er32] at Q32; rw [er13] at Q13
  have R14 := Lib.hid er14
  have R42 := Lib.hid er42
  have R32 := Lib.hid er32
  have R13 := Lib.hid er13
  have c14 : r14 ≤ 0 := by omega
  have d14 : decide (r14 ≤ 0) = true := by simp; omega
  have c42 : r42 < 0 := by omega
  have c32 : decide (r32 ≤ 0) = true := by simp; omega
  have c13 : r13 < 0 := by omega
  have hM : M = 9218868437227405312 := rfl
  have HBD := Lib.hid (⟨a1, a2, a3, a4, u1, u2⟩ : _ ∧ _ ∧ _ ∧ _ ∧ _ ∧ _)
  have HQQ := Lib.hid (⟨q0, q1, q2, q3, trivial⟩ : i1 ≤ i4 ∧ i4 < i2 ∧ i3 ≤ i2 ∧ i1 < i3 ∧ True)
  have Z1 := Lib.hid z1
  have Z2 := Lib.hid z2
  have Z3 := Lib.hid z3
  have Z4 := Lib.hid z4
  have D1 := Lib.hid D1
  have D2 := Lib.hid D2
  have HALL := Lib.hid fun (ad : Addr) (n c : Nat) W (h1 : n ≤ 100) (h2 : n ≤ c) (h3 : ∀ k : Nat, k < n → PcAt W ad k (L k).1 (L k).2) => all_any x y ad n c L W hx hy h1 h2 h3
  obtain ⟨PP, hPP⟩ : ∃ P, zf (rd x y).1 (rd x y).2 L 2 = P := ⟨_, rfl⟩
  rw [hPP]
  have HPP := Lib.hid hPP
  clear hPP
  clear hdc hdb a1 a2 a3 a4 u1 u2 Q14 Q42 Q32 Q13 es1 es2 es3 es4 ex1 ex2 ex3 ex4 er14 er42 er32 er13 e1 e2 e3 e4 z1 z2 z3 z4 hM hcc hbb q0 q1 q2 q3
  have LB0 := Lib.hid (show Below w.heap.size w ((((w.alloc (.cells #[.int .u64 (b1 : Int), .int .u64 (b2 : Int)] 24)).alloc (.cells #[.int .u64 (c1 : Int), .int .u64 (c2 : Int)] 24)).alloc (.cells #[.int .u64 (x : Int), .int .u64 (y : Int)] 24)).alloc (.cells #[.int .u64 0, .int .u64 0] 24)) from ((((below_alloc w _).alloc (by simp <;> omega) _).alloc (by simp <;> omega) _).alloc (by simp <;> omega) _))
  have LG0_0 := Lib.hid (((((Blk.at (W := w) (g := w.heap.size) (by simp <;> omega) 24 #[.int .u64 (b1 : Int), .int .u64 (b2 : Int)]).alloc (.cells #[.int .u64 (c1 : Int), .int .u64 (c2 : Int)] 24)).alloc (.cells #[.int .u64 (x : Int), .int .u64 (y : Int)] 24)).alloc (.cells #[.int .u64 0, .int .u64 0] 24)))
  have LG1_0 := Lib.hid ((((Blk.at (W := (w.alloc (.cells #[.int .u64 (b1 : Int), .int .u64 (b2 : Int)] 24))) (g := (w.heap.size + 1)) (by simp <;> omega) 24 #[.int .u64 (c1 : Int), .int .u64 (c2 : Int)]).alloc (.cells #[.int .u64 (x : Int), .int .u64 (y : Int)] 24)).alloc (.cells #[.int .u64 0, .int .u64 0] 24)))
  have LG2_0 := Lib.hid (((Blk.at (W := ((w.alloc (.cells #[.int .u64 (b1 : Int), .int .u64 (b2 : Int)] 24)).alloc (.cells #[.int .u64 (c1 : Int), .int .u64 (c2 : Int)] 24))) (g := (w.heap.size + 2)) (by simp <;> omega) 24 #[.int .u64 (x : Int), .int .u64 (y : Int)]).alloc (.cells #[.int .u64 0, .int .u64 0] 24)))
  have LR0 := Lib.hid (HasBlk.of (n := 2) (Blk.at (W := (((w.alloc (.cells #[.int .u64 (b1 : Int), .int .u64 (b2 : Int)] 24)).alloc (.cells #[.int .u64 (c1 : Int), .int .u64 (c2 : Int)] 24)).alloc (.cells #[.int .u64 (x : Int), .int .u64 (y : Int)] 24))) (g := (w.heap.size + 3)) (by simp <;> omega) 24 #[.int .u64 0, .int .u64 0]) rfl rfl)
  go_enter Try.func7, Try.ntmps7
  go_wp2_with fail
  refine (HC.out _).mono ?_
  rintro e w1 ⟨g1, A1, n1, k1, B1, m1, d1, g2, A2, n2, k2, B2, m2, d2, rfl, h1, h2, hbA⟩
  have LB1 := Lib.hid (LB0.out.trans (hbA.mono LB0.out.size))
  have LR1 := Lib.hid (LR0.out.keep hbA)
  have LG0_1 := Lib.hid (LG0_0.out.keep hbA)
  have LG1_1 := Lib.hid (LG1_0.out.keep hbA)
  have LG2_1 := Lib.hid (LG2_0.out.keep hbA)
  clear LB0 LR0 LG0_0 LG1_0 LG2_0
  go_upto_region 2 with fail
  have hlt2 := LR1.out.lt
  have LB2 := Lib.hid (LB1.out.alloc LB1.out.size (.cells #[.bool false, .int .i64 s1, .bool g1, .slice A1 n1 k1, .slice B1 m1 d1, .int .i64 s2, .bool g2, .slice A2 n2 k2, .slice B2 m2 d2] 48))
  have LR2 := Lib.hid (LR1.out.alloc (.cells #[.bool false, .int .i64 s1, .bool g1, .slice A1 n1 k1, .slice B1 m1 d1, .int .i64 s2, .bool g2, .slice A2 n2 k2, .slice B2 m2 d2] 48))
  have LG0_2 := Lib.hid (LG0_1.out.alloc (.cells #[.bool false, .int .i64 s1, .bool g1, .slice A1 n1 k1, .slice B1 m1 d1, .int .i64 s2, .bool g2, .slice A2 n2 k2, .slice B2 m2 d2] 48))
  have LG1_2 := Lib.hid (LG1_1.out.alloc (.cells #[.bool false, .int .i64 s1, .bool g1, .slice A1 n1 k1, .slice B1 m1 d1, .int .i64 s2, .bool g2, .slice A2 n2 k2, .slice B2 m2 d2] 48))
  have LG2_2 := Lib.hid (LG2_1.out.alloc (.cells #[.bool false, .int .i64 s1, .bool g1, .slice A1 n1 k1, .slice B1 m1 d1, .int .i64 s2, .bool g2, .slice A2 n2 k2, .slice B2 m2 d2] 48))
  have LG3_2 := Lib.hid (Blk.new w1 48 #[.bool false, .int .i64 s1, .bool g1, .slice A1 n1 k1, .slice B1 m1 d1, .int .i64 s2, .bool g2, .slice A2 n2 k2, .slice B2 m2 d2])
  clear LB1 LR1 LG0_1 LG1_1 LG2_1
  have h1a := h1.below (below_alloc w1 (.cells #[.bool false, .int .i64 s1, .bool g1, .slice A1 n1 k1, .slice B1 m1 d1, .int .i64 s2, .bool g2, .slice A2 n2 k2, .slice B2 m2 d2] 48))
  have h2a := h2.below (below_alloc w1 (.cells #[.bool false, .int .i64 s1, .bool g1, .slice A1 n1 k1, .slice B1 m1 d1, .int .i64 s2, .bool g2, .slice A2 n2 k2, .slice B2 m2 d2] 48))
  obtain ⟨V1, hV1⟩ : ∃ X, (w1.alloc (.cells #[.bool false, .int .i64 s1, .bool g1, .slice A1 n1 k1, .slice B1 m1 d1, .int .i64 s2, .bool g2, .slice A2 n2 k2, .slice B2 m2 d2] 48)) = X := ⟨_, rfl⟩
  have hlV : w1.heap.size < V1.heap.size := by rw [← hV1]; simp
  rw [hV1] at LB2 LR2 LG0_2 LG1_2 LG2_2 LG3_2 h1a h2a ⊢
  clear hV1 h1 h2 hbA
  have q0_0 : _ = some (.int .u64 (b1 : Int) : Value) := LG0_2.out.cell 0
  have q0_1 : _ = some (.int .u64 (b2 : Int) : Value) := LG0_2.out.cell 1
  go_wp2_with fail
  refine (HBB.out _).mono ?_
  rintro e w2 ⟨g3, A3, n3, k3, B3, m3, d3, g4, A4, n4, k4, B4, m4, d4, rfl, h3, h4, hbB⟩
  have LB3 := Lib.hid (LB2.out.trans (hbB.mono LB2.out.size))
  have LR3 := Lib.hid (LR2.out.keep hbB)
  have LG0_3 := Lib.hid (LG0_2.out.keep hbB)
  have LG1_3 := Lib.hid (LG1_2.out.keep hbB)
  have LG2_3 := Lib.hid (LG2_2.out.keep hbB)
  have LG3_3 := Lib.hid (LG3_2.out.keep hbB)
  clear LB2 LR2 LG0_2 LG1_2 LG2_2 LG3_2
  have h1b := h1a.below hbB
  have h2b := h2a.below hbB
  have hlW := hbB.size
  clear h1a h2a hbB q0_0 q0_1
  go_upto_region 3 with fail
  have hlt4 := LR3.out.lt
  have LB4 := Lib.hid (LB3.out.alloc LB3.out.size (.cells #[.bool false, .int .i64 s3, .bool g3, .slice A3 n3 k3, .slice B3 m3 d3, .int .i64 s4, .bool g4, .slice A4 n4 k4, .slice B4 m4 d4] 48))
  have LR4 := Lib.hid (LR3.out.alloc (.cells #[.bool false, .int .i64 s3, .bool g3, .slice A3 n3 k3, .slice B3 m3 d3, .int .i64 s4, .bool g4, .slice A4 n4 k4, .slice B4 m4 d4] 48))
  have LG0_4 := Lib.hid (LG0_3.out.alloc (.cells #[.bool false, .int .i64 s3, .bool g3, .slice A3 n3 k3, .slice B3 m3 d3, .int .i64 s4, .bool g4, .slice A4 n4 k4, .slice B4 m4 d4] 48))
  have LG1_4 := Lib.hid (LG1_3.out.alloc (.cells #[.bool false, .int .i64 s3, .bool g3, .slice A3 n3 k3, .slice B3 m3 d3, .int .i64 s4, .bool g4, .slice A4 n4 k4, .slice B4 m4 d4] 48))
  have LG2_4 := Lib.hid (LG2_3.out.alloc (.cells #[.bool false, .int .i64 s3, .bool g3, .slice A3 n3 k3, .slice B3 m3 d3, .int .i64 s4, .bool g4, .slice A4 n4 k4, .slice B4 m4 d4] 48))
  have LG3_4 := Lib.hid (LG3_3.out.alloc (.cells #[.bool false, .int .i64 s3, .bool g3, .slice A3 n3 k3, .slice B3 m3 d3, .int .i64 s4, .bool g4, .slice A4 n4 k4, .slice B4 m4 d4] 48))
  have LG4_4 := Lib.hid (Blk.new w2 48 #[.bool false, .int .i64 s3, .bool g3, .slice A3 n3 k3, .slice B3 m3 d3, .int .i64 s4, .bool g4, .slice A4 n4 k4, .slice B4 m4 d4])
  clear LB3 LR3 LG0_3 LG1_3 LG2_3 LG3_3
  have H1 := Lib.hid (h1b.below (below_alloc w2 (.cells #[.bool false, .int .i64 s3, .bool g3, .slice A3 n3 k3, .slice B3 m3 d3, .int .i64 s4, .bool g4, .slice A4 n4 k4, .slice B4 m4 d4] 48)))
  have H2 := Lib.hid (h2b.below (below_alloc w2 (.cells #[.bool false, .int .i64 s3, .bool g3, .slice A3 n3 k3, .slice B3 m3 d3, .int .i64 s4, .bool g4, .slice A4 n4 k4, .slice B4 m4 d4] 48)))
  have H3 := Lib.hid (h3.below (below_alloc w2 (.cells #[.bool false, .int .i64 s3, .bool g3, .slice A3 n3 k3, .slice B3 m3 d3, .int .i64 s4, .bool g4, .slice A4 n4 k4, .slice B4 m4 d4] 48)))
  have H4 := Lib.hid (h4.below (below_alloc w2 (.cells #[.bool false, .int .i64 s3, .bool g3, .slice A3 n3 k3, .slice B3 m3 d3, .int .i64 s4, .bool g4, .slice A4 n4 k4, .slice B4 m4 d4] 48)))
  obtain ⟨V2, hV2⟩ : ∃ X, (w2.alloc (.cells #[.bool false, .int .i64 s3, .bool g3, .slice A3 n3 k3, .slice B3 m3 d3, .int .i64 s4, .bool g4, .slice A4 n4 k4, .slice B4 m4 d4] 48)) = X := ⟨_, rfl⟩
  have hlV2 : w2.heap.size < V2.heap.size := by rw [← hV2]; simp
  rw [hV2] at LB4 LR4 LG0_4 LG1_4 LG2_4 LG3_4 LG4_4 H1 H2 H3 H4 ⊢
  clear hV2 h1b h2b h3 h4
  have hlt9 : w1.heap.size < w2.heap.size := by omega
  have LV4 := Lib.hid (Below.refl V2.heap.size V2)
  have q3_0 : _ = some (.bool false : Value) := LG3_4.out.cell 0
  have q3_1 : _ = some (.int .i64 s1 : Value) := LG3_4.out.cell 1
  have q3_2 : _ = some (.bool g1 : Value) := LG3_4.out.cell 2
  have q3_3 : _ = some (.slice A1 n1 k1 : Value) := LG3_4.out.cell 3
  have q3_4 : _ = some (.slice B1 m1 d1 : Value) := LG3_4.out.cell 4
  have q3_5 : _ = some (.int .i64 s2 : Value) := LG3_4.out.cell 5
  have q3_6 : _ = some (.bool g2 : Value) := LG3_4.out.cell 6
  have q3_7 : _ = some (.slice A2 n2 k2 : Value) := LG3_4.out.cell 7
  have q3_8 : _ = some (.slice B2 m2 d2 : Value) := LG3_4.out.cell 8
  have q4_0 : _ = some (.bool false : Value) := LG4_4.out.cell 0
  have q4_1 : _ = some (.int .i64 s3 : Value) := LG4_4.out.cell 1
  have q4_2 : _ = some (.bool g3 : Value) := LG4_4.out.cell 2
  have q4_3 : _ = some (.slice A3 n3 k3 : Value) := LG4_4.out.cell 3
  have q4_4 : _ = some (.slice B3 m3 d3 : Value) := LG4_4.out.cell 4
  have q4_5 : _ = some (.int .i64 s4 : Value) := LG4_4.out.cell 5
  have q4_6 : _ = some (.bool g4 : Value) := LG4_4.out.cell 6
  have q4_7 : _ = some (.slice A4 n4 k4 : Value) := LG4_4.out.cell 7
  have q4_8 : _ = some (.slice B4 m4 d4 : Value) := LG4_4.out.cell 8
  have HT := Lib.hid (ecmp_any 34 s1 g1 A1 n1 k1 B1 m1 d1 x1 s4 g4 A4 n4 k4 B4 m4 d4 x4 _ (H1.out.below LV4.out) (H4.out.below LV4.out) (by omega))
  rw [R14.out] at HT
  go_wp2_with fail
  refine HT.out.mono ?_
  rintro e wc1 ⟨rfl, hbc1⟩
  have LB5 := Lib.hid (LB4.out.trans (hbc1.mono LB4.out.size))
  have LR5 := Lib.hid (LR4.out.keep hbc1)
  have LG0_5 := Lib.hid (LG0_4.out.keep hbc1)
  have LG1_5 := Lib.hid (LG1_4.out.keep hbc1)
  have LG2_5 := Lib.hid (LG2_4.out.keep hbc1)
  have LG3_5 := Lib.hid (LG3_4.out.keep hbc1)
  have LG4_5 := Lib.hid (LG4_4.out.keep hbc1)
  have LV5 := Lib.hid (LV4.out.trans (hbc1.mono LV4.out.size))
  clear LB4 LR4 LG0_4 LG1_4 LG2_4 LG3_4 LG4_4 LV4
  clear HT hbc1 q3_0 q3_1 q3_2 q3_3 q3_4 q3_5 q3_6 q3_7 q3_8 q4_0 q4_1 q4_2 q4_3 q4_4 q4_5 q4_6 q4_7 q4_8
  have q3_0 : _ = some (.bool false : Value) := LG3_5.out.cell 0
  have q3_1 : _ = some (.int .i64 s1 : Value) := LG3_5.out.cell 1
  have q3_2 : _ = some (.bool g1 : Value) := LG3_5.out.cell 2
  have q3_3 : _ = some (.slice A1 n1 k1 : Value) := LG3_5.out.cell 3
  have q3_4 : _ = some (.slice B1 m1 d1 : Value) := LG3_5.out.cell 4
  have q3_5 : _ = some (.int .i64 s2 : Value) := LG3_5.out.cell 5
  have q3_6 : _ = some (.bool g2 : Value) := LG3_5.out.cell 6
  have q3_7 : _ = some (.slice A2 n2 k2 : Value) := LG3_5.out.cell 7
  have q3_8 : _ = some (.slice B2 m2 d2 : Value) := LG3_5.out.cell 8
  have HT := Lib.hid (piece_some 34 s1 g1 A1 n1 k1 B1 m1 d1 x1 s2 g2 A2 n2 k2 B2 m2 d2 x2 _ (H1.out.below LV5.out) (H2.out.below LV5.out) (by omega) Z1.out Z2.out)
  obtain ⟨o5, eo5⟩ : ∃ s, decide (s1 ≠ 0) = s := ⟨_, rfl⟩
  obtain ⟨o6, eo6⟩ : ∃ s, decide (s2 ≠ 0) = s := ⟨_, rfl⟩
  rw [eo5, eo6] at HT
  have EO5 := Lib.hid eo5
  have EO6 := Lib.hid eo6
  clear eo5 eo6
  go_wp2_with fail
  refine HT.out.mono ?_
  rintro e w4 ⟨g5, A5, n5, k5, B5, m5, d5, g6, A6, n6, k6, B6, m6, d6, rfl, h5, h6, hb4⟩
  have LB6 := Lib.hid (LB5.out.trans (hb4.mono LB5.out.size))
  have LR6 := Lib.hid (LR5.out.keep hb4)
  have LG0_6 := Lib.hid (LG0_5.out.keep hb4)
  have LG1_6 := Lib.hid (LG1_5.out.keep hb4)
  have LG2_6 := Lib.hid (LG2_5.out.keep hb4)
  have LG3_6 := Lib.hid (LG3_5.out.keep hb4)
  have LG4_6 := Lib.hid (LG4_5.out.keep hb4)
  have LV6 := Lib.hid (LV5.out.trans (hb4.mono LV5.out.size))
  clear LB5 LR5 LG0_5 LG1_5 LG2_5 LG3_5 LG4_5 LV5
  clear HT hb4 q3_0 q3_1 q3_2 q3_3 q3_4 q3_5 q3_6 q3_7 q3_8
  have H5 := Lib.hid h5
  have H6 := Lib.hid h6
  clear h5 h6
  have LP6 := Lib.hid (Below.refl w4.heap.size w4)
  go_upto_region 8 with fail
  have hlp1 := LV6.out.size
  have hlt7 := LR6.out.lt
  have LB7 := Lib.hid (LB6.out.alloc LB6.out.size (.cells #[.bool false, .int .i64 s1, .bool g5, .slice A5 n5 k5, .slice B5 m5 d5, .int .i64 1, .bool o5, .int .i64 s2, .bool g6, .slice A6 n6 k6, .slice B6 m6 d6, .int .i64 1, .bool o6] 56))
  have LR7 := Lib.hid (LR6.out.alloc (.cells #[.bool false, .int .i64 s1, .bool g5, .slice A5 n5 k5, .slice B5 m5 d5, .int .i64 1, .bool o5, .int .i64 s2, .bool g6, .slice A6 n6 k6, .slice B6 m6 d6, .int .i64 1, .bool o6] 56))
  have LG0_7 := Lib.hid (LG0_6.out.alloc (.cells #[.bool false, .int .i64 s1, .bool g5, .slice A5 n5 k5, .slice B5 m5 d5, .int .i64 1, .bool o5, .int .i64 s2, .bool g6, .slice A6 n6 k6, .slice B6 m6 d6, .int .i64 1, .bool o6] 56))
  have LG1_7 := Lib.hid (LG1_6.out.alloc (.cells #[.bool false, .int .i64 s1, .bool g5, .slice A5 n5 k5, .slice B5 m5 d5, .int .i64 1, .bool o5, .int .i64 s2, .bool g6, .slice A6 n6 k6, .slice B6 m6 d6, .int .i64 1, .bool o6] 56))
  have LG2_7 := Lib.hid (LG2_6.out.alloc (.cells #[.bool false, .int .i64 s1, .bool g5, .slice A5 n5 k5, .slice B5 m5 d5, .int .i64 1, .bool o5, .int .i64 s2, .bool g6, .slice A6 n6 k6, .slice B6 m6 d6, .int .i64 1, .bool o6] 56))
  have LG3_7 := Lib.hid (LG3_6.out.alloc (.cells #[.bool false, .int .i64 s1, .bool g5, .slice A5 n5 k5, .slice B5 m5 d5, .int .i64 1, .bool o5, .int .i64 s2, .bool g6, .slice A6 n6 k6, .slice B6 m6 d6, .int .i64 1, .bool o6] 56))
  have LG4_7 := Lib.hid (LG4_6.out.alloc (.cells #[.bool false, .int .i64 s1, .bool g5, .slice A5 n5 k5, .slice B5 m5 d5, .int .i64 1, .bool o5, .int .i64 s2, .bool g6, .slice A6 n6 k6, .slice B6 m6 d6, .int .i64 1, .bool o6] 56))
  have LG5_7 := Lib.hid (Blk.new w4 56 #[.bool false, .int .i64 s1, .bool g5, .slice A5 n5 k5, .slice B5 m5 d5, .int .i64 1, .bool o5, .int .i64 s2, .bool g6, .slice A6 n6 k6, .slice B6 m6 d6, .int .i64 1, .bool o6])
  have LV7 := Lib.hid (LV6.out.alloc LV6.out.size (.cells #[.bool false, .int .i64 s1, .bool g5, .slice A5 n5 k5, .slice B5 m5 d5, .int .i64 1, .bool o5, .int .i64 s2, .bool g6, .slice A6 n6 k6, .slice B6 m6 d6, .int .i64 1, .bool o6] 56))
  have LP7 := Lib.hid (LP6.out.alloc LP6.out.size (.cells #[.bool false, .int .i64 s1, .bool g5, .slice A5 n5 k5, .slice B5 m5 d5, .int .i64 1, .bool o5, .int .i64 s2, .bool g6, .slice A6 n6 k6, .slice B6 m6 d6, .int .i64 1, .bool o6] 56))
  clear LB6 LR6 LG0_6 LG1_6 LG2_6 LG3_6 LG4_6 LV6 LP6
  obtain ⟨V4, hV4⟩ : ∃ X, (w4.alloc (.cells #[.bool false, .int .i64 s1, .bool g5, .slice A5 n5 k5, .slice B5 m5 d5, .int .i64 1, .bool o5, .int .i64 s2, .bool g6, .slice A6 n6 k6, .slice B6 m6 d6, .int .i64 1, .bool o6] 56)) = X := ⟨_, rfl⟩
  rw [hV4] at LB7 LR7 LG0_7 LG1_7 LG2_7 LG3_7 LG4_7 LG5_7 LV7 LP7 ⊢
  clear hV4
  have q3_0 : _ = some (.bool false : Value) := LG3_7.out.cell 0
  have q3_1 : _ = some (.int .i64 s1 : Value) := LG3_7.out.cell 1
  have q3_2 : _ = some (.bool g1 : Value) := LG3_7.out.cell 2
  have q3_3 : _ = some (.slice A1 n1 k1 : Value) := LG3_7.out.cell 3
  have q3_4 : _ = some (.slice B1 m1 d1 : Value) := LG3_7.out.cell 4
  have q3_5 : _ = some (.int .i64 s2 : Value) := LG3_7.out.cell 5
  have q3_6 : _ = some (.bool g2 : Value) := LG3_7.out.cell 6
  have q3_7 : _ = some (.slice A2 n2 k2 : Value) := LG3_7.out.cell 7
  have q3_8 : _ = some (.slice B2 m2 d2 : Value) := LG3_7.out.cell 8
  have q4_0 : _ = some (.bool false : Value) := LG4_7.out.cell 0
  have q4_1 : _ = some (.int .i64 s3 : Value) := LG4_7.out.cell 1
  have q4_2 : _ = some (.bool g3 : Value) := LG4_7.out.cell 2
  have q4_3 : _ = some (.slice A3 n3 k3 : Value) := LG4_7.out.cell 3
  have q4_4 : _ = some (.slice B3 m3 d3 : Value) := LG4_7.out.cell 4
  have q4_5 : _ = some (.int .i64 s4 : Value) := LG4_7.out.cell 5
  have q4_6 : _ = some (.bool g4 : Value) := LG4_7.out.cell 6
  have q4_7 : _ = some (.slice A4 n4 k4 : Value) := LG4_7.out.cell 7
  have q4_8 : _ = some (.slice B4 m4 d4 : Value) := LG4_7.out.cell 8
  have HT := Lib.hid (ecmp_any 34 s4 g4 A4 n4 k4 B4 m4 d4 x4 s2 g2 A2 n2 k2 B2 m2 d2 x2 _ (H4.out.below LV7.out) (H2.out.below LV7.out) (by omega))
  rw [R42.out] at HT
  go_wp2_with fail
  refine HT.out.mono ?_
  rintro e wc2 ⟨rfl, hbc2⟩
  have LB8 := Lib.hid (LB7.out.trans (hbc2.mono LB7.out.size))
  have LR8 := Lib.hid (LR7.out.keep hbc2)
  have LG0_8 := Lib.hid (LG0_7.out.keep hbc2)
  have LG1_8 := Lib.hid (LG1_7.out.keep hbc2)
  have LG2_8 := Lib.hid (LG2_7.out.keep hbc2)
  have LG3_8 := Lib.hid (LG3_7.out.keep hbc2)
  have LG4_8 := Lib.hid (LG4_7.out.keep hbc2)
  have LG5_8 := Lib.hid (LG5_7.out.keep hbc2)
  have LV8 := Lib.hid (LV7.out.trans (hbc2.mono LV7.out.size))
  have LP8 := Lib.hid (LP7.out.trans (hbc2.mono LP7.out.size))
  clear LB7 LR7 LG0_7 LG1_7 LG2_7 LG3_7 LG4_7 LG5_7 LV7 LP7
  clear HT hbc2 q3_0 q3_1 q3_2 q3_3 q3_4 q3_5 q3_6 q3_7 q3_8 q4_0 q4_1 q4_2 q4_3 q4_4 q4_5 q4_6 q4_7 q4_8
  have q3_0 : _ = some (.bool false : Value) := LG3_8.out.cell 0
  have q3_1 : _ = some (.int .i64 s1 : Value) := LG3_8.out.cell 1
  have q3_2 : _ = some (.bool g1 : Value) := LG3_8.out.cell 2
  have q3_3 : _ = some (.slice A1 n1 k1 : Value) := LG3_8.out.cell 3
  have q3_4 : _ = some (.slice B1 m1 d1 : Value) := LG3_8.out.cell 4
  have q3_5 : _ = some (.int .i64 s2 : Value) := LG3_8.out.cell 5
  have q3_6 : _ = some (.bool g2 : Value) := LG3_8.out.cell 6
  have q3_7 : _ = some (.slice A2 n2 k2 : Value) := LG3_8.out.cell 7
  have q3_8 : _ = some (.slice B2 m2 d2 : Value) := LG3_8.out.cell 8
  have q4_0 : _ = some (.bool false : Value) := LG4_8.out.cell 0
  have q4_1 : _ = some (.int .i64 s3 : Value) := LG4_8.out.cell 1
  have q4_2 : _ = some (.bool g3 : Value) := LG4_8.out.cell 2
  have q4_3 : _ = some (.slice A3 n3 k3 : Value) := LG4_8.out.cell 3
  have q4_4 : _ = some (.slice B3 m3 d3 : Value) := LG4_8.out.cell 4
  have q4_5 : _ = some (.int .i64 s4 : Value) := LG4_8.out.cell 5
  have q4_6 : _ = some (.bool g4 : Value) := LG4_8.out.cell 6
  have q4_7 : _ = some (.slice A4 n4 k4 : Value) := LG4_8.out.cell 7
  have q4_8 : _ = some (.slice B4 m4 d4 : Value) := LG4_8.out.cell 8
  have HT := Lib.hid (bound_end 34 s4 g4 A4 n4 k4 B4 m4 d4 x4 _ (H4.out.below LV8.out) (by omega) Z4.out)
  obtain ⟨o7, eo7⟩ : ∃ s, decide (s4 ≠ 0) = s := ⟨_, rfl⟩
  rw [eo7] at HT
  have EO7 := Lib.hid eo7
  clear eo7
  go_wp2_with fail
  refine HT.out.mono ?_
  rintro e wb7 ⟨g7, A7, n7, k7, B7, m7, d7, rfl, h7, hbb7⟩
  have LB9 := Lib.hid (LB8.out.trans (hbb7.mono LB8.out.size))
  have LR9 := Lib.hid (LR8.out.keep hbb7)
  have LG0_9 := Lib.hid (LG0_8.out.keep hbb7)
  have LG1_9 := Lib.hid (LG1_8.out.keep hbb7)
  have LG2_9 := Lib.hid (LG2_8.out.keep hbb7)
  have LG3_9 := Lib.hid (LG3_8.out.keep hbb7)
  have LG4_9 := Lib.hid (LG4_8.out.keep hbb7)
  have LG5_9 := Lib.hid (LG5_8.out.keep hbb7)
  have LV9 := Lib.hid (LV8.out.trans (hbb7.mono LV8.out.size))
  have LP9 := Lib.hid (LP8.out.trans (hbb7.mono LP8.out.size))
  clear LB8 LR8 LG0_8 LG1_8 LG2_8 LG3_8 LG4_8 LG5_8 LV8 LP8
  clear HT hbb7 q3_0 q3_1 q3_2 q3_3 q3_4 q3_5 q3_6 q3_7 q3_8 q4_0 q4_1 q4_2 q4_3 q4_4 q4_5 q4_6 q4_7 q4_8
  have q5_7 : _ = some (.int .i64 s2 : Value) := LG5_9.out.cell 7
  have q5_8 : _ = some (.bool g6 : Value) := LG5_9.out.cell 8
  have q5_9 : _ = some (.slice A6 n6 k6 : Value) := LG5_9.out.cell 9
  have q5_10 : _ = some (.slice B6 m6 d6 : Value) := LG5_9.out.cell 10
  have q5_11 : _ = some (.int .i64 1 : Value) := LG5_9.out.cell 11
  have q5_12 : _ = some (.bool o6 : Value) := LG5_9.out.cell 12
  have hf7 := LG5_9.out.frozen 7
  have hf8 := LG5_9.out.frozen 8
  have hf9 := LG5_9.out.frozen 9
  have hf10 := LG5_9.out.frozen 10
  have hf11 := LG5_9.out.frozen 11
  have hf12 := LG5_9.out.frozen 12
  go_upto_region 10 with fail
  clear q5_7 q5_8 q5_9 q5_10 q5_11 q5_12 hf7 hf8 hf9 hf10 hf11 hf12
  have h7s := h7.sets LG5_9.out (NoWd.of (by rw [← Array.all_toList]; rfl)) 7 [.int .i64 s4, .bool g7, .slice A7 n7 k7, .slice B7 m7 d7, .int .i64 1, .bool o7]
  have LB10 := Lib.hid (below_sets (w0 := w) (show w.heap.size ≤ w4.heap.size by omega) [.int .i64 s4, .bool g7, .slice A7 n7 k7, .slice B7 m7 d7, .int .i64 1, .bool o7] 7 wb7 LB9.out)
  have LR10 := Lib.hid (LR9.out.other (r := w4.heap.size) (by omega) 7 [.int .i64 s4, .bool g7, .slice A7 n7 k7, .slice B7 m7 d7, .int .i64 1, .bool o7])
  have LG0_10 := Lib.hid (LG0_9.out.other (r := w4.heap.size) (by omega) 7 [.int .i64 s4, .bool g7, .slice A7 n7 k7, .slice B7 m7 d7, .int .i64 1, .bool o7])
  have LG1_10 := Lib.hid (LG1_9.out.other (r := w4.heap.size) (by omega) 7 [.int .i64 s4, .bool g7, .slice A7 n7 k7, .slice B7 m7 d7, .int .i64 1, .bool o7])
  have LG2_10 := Lib.hid (LG2_9.out.other (r := w4.heap.size) (by omega) 7 [.int .i64 s4, .bool g7, .slice A7 n7 k7, .slice B7 m7 d7, .int .i64 1, .bool o7])
  have LG3_10 := Lib.hid (LG3_9.out.other (r := w4.heap.size) (by omega) 7 [.int .i64 s4, .bool g7, .slice A7 n7 k7, .slice B7 m7 d7, .int .i64 1, .bool o7])
  have LG4_10 := Lib.hid (LG4_9.out.other (r := w4.heap.size) (by omega) 7 [.int .i64 s4, .bool g7, .slice A7 n7 k7, .slice B7 m7 d7, .int .i64 1, .bool o7])
  have LG5_10 := Lib.hid (show Blk (sets wb7 w4.heap.size 7 [.int .i64 s4, .bool g7, .slice A7 n7 k7, .slice B7 m7 d7, .int .i64 1, .bool o7]) w4.heap.size 56 #[.bool false, .int .i64 s1, .bool g5, .slice A5 n5 k5, .slice B5 m5 d5, .int .i64 1, .bool o5, .int .i64 s4, .bool g7, .slice A7 n7 k7, .slice B7 m7 d7, .int .i64 1, .bool o7] from by have hbs := Blk.sets [.int .i64 s4, .bool g7, .slice A7 n7 k7, .slice B7 m7 d7, .int .i64 1, .bool o7] 7 wb7 _ LG5_9.out; simpa [laid] using hbs)
  have LV10 := Lib.hid (below_sets (w0 := V2) (show V2.heap.size ≤ w4.heap.size by omega) [.int .i64 s4, .bool g7, .slice A7 n7 k7, .slice B7 m7 d7, .int .i64 1, .bool o7] 7 wb7 LV9.out)
  have LP10 := Lib.hid (below_sets (w0 := w4) (show w4.heap.size ≤ w4.heap.size by omega) [.int .i64 s4, .bool g7, .slice A7 n7 k7, .slice B7 m7 d7, .int .i64 1, .bool o7] 7 wb7 LP9.out)
  clear LB9 LR9 LG0_9 LG1_9 LG2_9 LG3_9 LG4_9 LG5_9 LV9 LP9
  obtain ⟨V5, hV5⟩ : ∃ X, (sets wb7 w4.heap.size 7 [.int .i64 s4, .bool g7, .slice A7 n7 k7, .slice B7 m7 d7, .int .i64 1, .bool o7]) = X := ⟨_, rfl⟩
  rw [hV5] at LB10 LR10 LG0_10 LG1_10 LG2_10 LG3_10 LG4_10 LG5_10 LV10 LP10 h7s
  rw [show ((((((wb7.setCell ⟨w4.heap.size, 7, none⟩ (.int .i64 s4)).setCell ⟨w4.heap.size, 8, none⟩ (.bool g7)).setCell ⟨w4.heap.size, 9, none⟩ (.slice A7 n7 k7)).setCell ⟨w4.heap.size, 10, none⟩ (.slice B7 m7 d7)).setCell ⟨w4.heap.size, 11, none⟩ (.int .i64 1)).setCell ⟨w4.heap.size, 12, none⟩ (.bool o7)) = V5 from hV5]
  clear hV5 h7
  have H7 := Lib.hid h7s
  clear h7s
  have hbd := HBD.out
  have hqq := HQQ.out
  have hM : M = 9218868437227405312 := rfl
  have PC1 := Lib.hid (show PcVal V5 i1 i4 [.bool false, .int .i64 s1, .bool g5, .slice A5 n5 k5, .slice B5 m5 d5, .int .i64 1, .bool o5, .int .i64 s4, .bool g7, .slice A7 n7 k7, .slice B7 m7 d7, .int .i64 1, .bool o7] from ⟨by omega, by omega, by omega, by omega, by omega, g5, A5, n5, k5, B5, m5, d5, g7, A7, n7, k7, B7, m7, d7, by rw [ES1.out, EO5.out, ES4.out, EO7.out], by rw [EX1.out]; exact H5.out.below LP10.out, by rw [EX4.out]; exact H7.out⟩)
  clear hbd hqq hM
  have KB := Lib.hid LB10.out
  have KR := Lib.hid LR10.out
  have KX := Lib.hid LG2_10.out
  have hcs := LB10.out.size
  have hcs2 := LV10.out.size
  clear LP10
  have LA10 := Lib.hid (Below.refl V5.heap.size V5)
  have q5_0 : _ = some (.bool false : Value) := LG5_10.out.cell 0
  have q5_1 : _ = some (.int .i64 s1 : Value) := LG5_10.out.cell 1
  have q5_2 : _ = some (.bool g5 : Value) := LG5_10.out.cell 2
  have q5_3 : _ = some (.slice A5 n5 k5 : Value) := LG5_10.out.cell 3
  have q5_4 : _ = some (.slice B5 m5 d5 : Value) := LG5_10.out.cell 4
  have q5_5 : _ = some (.int .i64 1 : Value) := LG5_10.out.cell 5
  have q5_6 : _ = some (.bool o5 : Value) := LG5_10.out.cell 6
  have q5_7 : _ = some (.int .i64 s4 : Value) := LG5_10.out.cell 7
  have q5_8 : _ = some (.bool g7 : Value) := LG5_10.out.cell 8
  have q5_9 : _ = some (.slice A7 n7 k7 : Value) := LG5_10.out.cell 9
  have q5_10 : _ = some (.slice B7 m7 d7 : Value) := LG5_10.out.cell 10
  have q5_11 : _ = some (.int .i64 1 : Value) := LG5_10.out.cell 11
  have q5_12 : _ = some (.bool o7 : Value) := LG5_10.out.cell 12
  go_wp2_with (at_builtin; refine wpList_append_pc1 _ rfl _ _ rfl V5.heap.size rfl ⟨V5.heap.size, 0, none⟩ 1 [.bool false, .int .i64 s1, .bool g5, .slice A5 n5 k5, .slice B5 m5 d5, .int .i64 1, .bool o5, .int .i64 s4, .bool g7, .slice A7 n7 k7, .slice B7 m7 d7, .int .i64 1, .bool o7] rfl rfl ?c1 ?c2 rfl ?c3 ?_)
  case c1 => exact fun j u hu => lit_cells V5 _ _ j u hu
  case c2 => intro u hu; exact List.all_eq_true.1 (show List.all [.bool false, .int .i64 s1, .bool g5, .slice A5 n5 k5, .slice B5 m5 d5, .int .i64 1, .bool o5, .int .i64 s4, .bool g7, .slice A7 n7 k7, .slice B7 m7 d7, .int .i64 1, .bool o7] Value.oneCell' = true from rfl) u hu
  case c3 => simp
  rintro v' w6 ⟨gr, cap, cs, rfl, hown, hg1, hg2, hgb, hnw, hbw⟩
  have hb6 : Below V5.heap.size V5 w6 := (below_alloc V5 _).trans (hbw.mono (by simp))
  have OWN := Lib.hid hown
  have GB := Lib.hid hgb
  have NW := Lib.hid hnw
  have LB11 := Lib.hid (LB10.out.trans (hb6.mono LB10.out.size))
  have LR11 := Lib.hid (LR10.out.keep hb6)
  have LG0_11 := Lib.hid (LG0_10.out.keep hb6)
  have LG1_11 := Lib.hid (LG1_10.out.keep hb6)
  have LG2_11 := Lib.hid (LG2_10.out.keep hb6)
  have LG3_11 := Lib.hid (LG3_10.out.keep hb6)
  have LG4_11 := Lib.hid (LG4_10.out.keep hb6)
  have LG5_11 := Lib.hid (LG5_10.out.keep hb6)
  have LV11 := Lib.hid (LV10.out.trans (hb6.mono LV10.out.size))
  have LA11 := Lib.hid (LA10.out.trans (hb6.mono LA10.out.size))
  clear LB10 LR10 LG0_10 LG1_10 LG2_10 LG3_10 LG4_10 LG5_10 LV10 LA10
  clear hown hgb hnw hbw hb6 hg2 q5_0 q5_1 q5_2 q5_3 q5_4 q5_5 q5_6 q5_7 q5_8 q5_9 q5_10 q5_11 q5_12
  have LW11 := Lib.hid (Below.refl w6.heap.size w6)
  have q3_0 : _ = some (.bool false : Value) := LG3_11.out.cell 0
  have q3_1 : _ = some (.int .i64 s1 : Value) := LG3_11.out.cell 1
  have q3_2 : _ = some (.bool g1 : Value) := LG3_11.out.cell 2
  have q3_3 : _ = some (.slice A1 n1 k1 : Value) := LG3_11.out.cell 3
  have q3_4 : _ = some (.slice B1 m1 d1 : Value) := LG3_11.out.cell 4
  have q3_5 : _ = some (.int .i64 s2 : Value) := LG3_11.out.cell 5
  have q3_6 : _ = some (.bool g2 : Value) := LG3_11.out.cell 6
  have q3_7 : _ = some (.slice A2 n2 k2 : Value) := LG3_11.out.cell 7
  have q3_8 : _ = some (.slice B2 m2 d2 : Value) := LG3_11.out.cell 8
  have q4_0 : _ = some (.bool false : Value) := LG4_11.out.cell 0
  have q4_1 : _ = some (.int .i64 s3 : Value) := LG4_11.out.cell 1
  have q4_2 : _ = some (.bool g3 : Value) := LG4_11.out.cell 2
  have q4_3 : _ = some (.slice A3 n3 k3 : Value) := LG4_11.out.cell 3
  have q4_4 : _ = some (.slice B3 m3 d3 : Value) := LG4_11.out.cell 4
  have q4_5 : _ = some (.int .i64 s4 : Value) := LG4_11.out.cell 5
  have q4_6 : _ = some (.bool g4 : Value) := LG4_11.out.cell 6
  have q4_7 : _ = some (.slice A4 n4 k4 : Value) := LG4_11.out.cell 7
  have q4_8 : _ = some (.slice B4 m4 d4 : Value) := LG4_11.out.cell 8
  have HT := Lib.hid (ecmp_any 34 s1 g1 A1 n1 k1 B1 m1 d1 x1 s4 g4 A4 n4 k4 B4 m4 d4 x4 _ (H1.out.below LV11.out) (H4.out.below LV11.out) (by omega))
  rw [R14.out] at HT
  go_wp2_with fail
  refine HT.out.mono ?_
  rintro e wc3 ⟨rfl, hbc3⟩
  have LB12 := Lib.hid (LB11.out.trans (hbc3.mono LB11.out.size))
  have LR12 := Lib.hid (LR11.out.keep hbc3)
  have LG0_12 := Lib.hid (LG0_11.out.keep hbc3)
  have LG1_12 := Lib.hid (LG1_11.out.keep hbc3)
  have LG2_12 := Lib.hid (LG2_11.out.keep hbc3)
  have LG3_12 := Lib.hid (LG3_11.out.keep hbc3)
  have LG4_12 := Lib.hid (LG4_11.out.keep hbc3)
  have LG5_12 := Lib.hid (LG5_11.out.keep hbc3)
  have LV12 := Lib.hid (LV11.out.trans (hbc3.mono LV11.out.size))
  have LA12 := Lib.hid (LA11.out.trans (hbc3.mono LA11.out.size))
  have LW12 := Lib.hid (LW11.out.trans (hbc3.mono LW11.out.size))
  clear LB11 LR11 LG0_11 LG1_11 LG2_11 LG3_11 LG4_11 LG5_11 LV11 LA11 LW11
  clear HT hbc3 q3_0 q3_1 q3_2 q3_3 q3_4 q3_5 q3_6 q3_7 q3_8 q4_0 q4_1 q4_2 q4_3 q4_4 q4_5 q4_6 q4_7 q4_8
  have q3_0 : _ = some (.bool false : Value) := LG3_12.out.cell 0
  have q3_1 : _ = some (.int .i64 s1 : Value) := LG3_12.out.cell 1
  have q3_2 : _ = some (.bool g1 : Value) := LG3_12.out.cell 2
  have q3_3 : _ = some (.slice A1 n1 k1 : Value) := LG3_12.out.cell 3
  have q3_4 : _ = some (.slice B1 m1 d1 : Value) := LG3_12.out.cell 4
  have q3_5 : _ = some (.int .i64 s2 : Value) := LG3_12.out.cell 5
  have q3_6 : _ = some (.bool g2 : Value) := LG3_12.out.cell 6
  have q3_7 : _ = some (.slice A2 n2 k2 : Value) := LG3_12.out.cell 7
  have q3_8 : _ = some (.slice B2 m2 d2 : Value) := LG3_12.out.cell 8
  have q4_0 : _ = some (.bool false : Value) := LG4_12.out.cell 0
  have q4_1 : _ = some (.int .i64 s3 : Value) := LG4_12.out.cell 1
  have q4_2 : _ = some (.bool g3 : Value) := LG4_12.out.cell 2
  have q4_3 : _ = some (.slice A3 n3 k3 : Value) := LG4_12.out.cell 3
  have q4_4 : _ = some (.slice B3 m3 d3 : Value) := LG4_12.out.cell 4
  have q4_5 : _ = some (.int .i64 s4 : Value) := LG4_12.out.cell 5
  have q4_6 : _ = some (.bool g4 : Value) := LG4_12.out.cell 6
  have q4_7 : _ = some (.slice A4 n4 k4 : Value) := LG4_12.out.cell 7
  have q4_8 : _ = some (.slice B4 m4 d4 : Value) := LG4_12.out.cell 8
  have HT := Lib.hid (ecmp_any 34 s3 g3 A3 n3 k3 B3 m3 d3 x3 s2 g2 A2 n2 k2 B2 m2 d2 x2 _ (H3.out.below LV12.out) (H2.out.below LV12.out) (by omega))
  rw [R32.out] at HT
  go_wp2_with fail
  refine HT.out.mono ?_
  rintro e wc4 ⟨rfl, hbc4⟩
  have LB13 := Lib.hid (LB12.out.trans (hbc4.mono LB12.out.size))
  have LR13 := Lib.hid (LR12.out.keep hbc4)
  have LG0_13 := Lib.hid (LG0_12.out.keep hbc4)
  have LG1_13 := Lib.hid (LG1_12.out.keep hbc4)
  have LG2_13 := Lib.hid (LG2_12.out.keep hbc4)
  have LG3_13 := Lib.hid (LG3_12.out.keep hbc4)
  have LG4_13 := Lib.hid (LG4_12.out.keep hbc4)
  have LG5_13 := Lib.hid (LG5_12.out.keep hbc4)
  have LV13 := Lib.hid (LV12.out.trans (hbc4.mono LV12.out.size))
  have LA13 := Lib.hid (LA12.out.trans (hbc4.mono LA12.out.size))
  have LW13 := Lib.hid (LW12.out.trans (hbc4.mono LW12.out.size))
  clear LB12 LR12 LG0_12 LG1_12 LG2_12 LG3_12 LG4_12 LG5_12 LV12 LA12 LW12
  clear HT hbc4 q3_0 q3_1 q3_2 q3_3 q3_4 q3_5 q3_6 q3_7 q3_8 q4_0 q4_1 q4_2 q4_3 q4_4 q4_5 q4_6 q4_7 q4_8
  have q3_0 : _ = some (.bool false : Value) := LG3_13.out.cell 0
  have q3_1 : _ = some (.int .i64 s1 : Value) := LG3_13.out.cell 1
  have q3_2 : _ = some (.bool g1 : Value) := LG3_13.out.cell 2
  have q3_3 : _ = some (.slice A1 n1 k1 : Value) := LG3_13.out.cell 3
  have q3_4 : _ = some (.slice B1 m1 d1 : Value) := LG3_13.out.cell 4
  have q3_5 : _ = some (.int .i64 s2 : Value) := LG3_13.out.cell 5
  have q3_6 : _ = some (.bool g2 : Value) := LG3_13.out.cell 6
  have q3_7 : _ = some (.slice A2 n2 k2 : Value) := LG3_13.out.cell 7
  have q3_8 : _ = some (.slice B2 m2 d2 : Value) := LG3_13.out.cell 8
  have q4_0 : _ = some (.bool false : Value) := LG4_13.out.cell 0
  have q4_1 : _ = some (.int .i64 s3 : Value) := LG4_13.out.cell 1
  have q4_2 : _ = some (.bool g3 : Value) := LG4_13.out.cell 2
  have q4_3 : _ = some (.slice A3 n3 k3 : Value) := LG4_13.out.cell 3
  have q4_4 : _ = some (.slice B3 m3 d3 : Value) := LG4_13.out.cell 4
  have q4_5 : _ = some (.int .i64 s4 : Value) := LG4_13.out.cell 5
  have q4_6 : _ = some (.bool g4 : Value) := LG4_13.out.cell 6
  have q4_7 : _ = some (.slice A4 n4 k4 : Value) := LG4_13.out.cell 7
  have q4_8 : _ = some (.slice B4 m4 d4 : Value) := LG4_13.out.cell 8
  have HT := Lib.hid (bound_end 34 s1 g1 A1 n1 k1 B1 m1 d1 x1 _ (H1.out.below LV13.out) (by omega) Z1.out)
  obtain ⟨o8, eo8⟩ : ∃ s, decide (s1 ≠ 0) = s := ⟨_, rfl⟩
  rw [eo8] at HT
  have EO8 := Lib.hid eo8
  clear eo8
  go_wp2_with fail
  refine HT.out.mono ?_
  rintro e wb8 ⟨g8, A8, n8, k8, B8, m8, d8, rfl, h8, hbb8⟩
  have LB14 := Lib.hid (LB13.out.trans (hbb8.mono LB13.out.size))
  have LR14 := Lib.hid (LR13.out.keep hbb8)
  have LG0_14 := Lib.hid (LG0_13.out.keep hbb8)
  have LG1_14 := Lib.hid (LG1_13.out.keep hbb8)
  have LG2_14 := Lib.hid (LG2_13.out.keep hbb8)
  have LG3_14 := Lib.hid (LG3_13.out.keep hbb8)
  have LG4_14 := Lib.hid (LG4_13.out.keep hbb8)
  have LG5_14 := Lib.hid (LG5_13.out.keep hbb8)
  have LV14 := Lib.hid (LV13.out.trans (hbb8.mono LV13.out.size))
  have LA14 := Lib.hid (LA13.out.trans (hbb8.mono LA13.out.size))
  have LW14 := Lib.hid (LW13.out.trans (hbb8.mono LW13.out.size))
  clear LB13 LR13 LG0_13 LG1_13 LG2_13 LG3_13 LG4_13 LG5_13 LV13 LA13 LW13
  clear HT hbb8 q3_0 q3_1 q3_2 q3_3 q3_4 q3_5 q3_6 q3_7 q3_8 q4_0 q4_1 q4_2 q4_3 q4_4 q4_5 q4_6 q4_7 q4_8
  have h8x := h8
  go_wp2_with fail
  refine (far_any 1 _).mono ?_
  rintro e w7 ⟨g9, A9, n9, k9, B9, m9, d9, rfl, h9, hb7⟩
  have LB15 := Lib.hid (LB14.out.trans (hb7.mono LB14.out.size))
  have LR15 := Lib.hid (LR14.out.keep hb7)
  have LG0_15 := Lib.hid (LG0_14.out.keep hb7)
  have LG1_15 := Lib.hid (LG1_14.out.keep hb7)
  have LG2_15 := Lib.hid (LG2_14.out.keep hb7)
  have LG3_15 := Lib.hid (LG3_14.out.keep hb7)
  have LG4_15 := Lib.hid (LG4_14.out.keep hb7)
  have LG5_15 := Lib.hid (LG5_14.out.keep hb7)
  have LV15 := Lib.hid (LV14.out.trans (hb7.mono LV14.out.size))
  have LA15 := Lib.hid (LA14.out.trans (hb7.mono LA14.out.size))
  have LW15 := Lib.hid (LW14.out.trans (hb7.mono LW14.out.size))
  clear LB14 LR14 LG0_14 LG1_14 LG2_14 LG3_14 LG4_14 LG5_14 LV14 LA14 LW14
  have H8 := Lib.hid (h8.below hb7)
  have H9 := Lib.hid h9.k34
  clear h8 h8x h9 hb7
  have LQ15 := Lib.hid (Below.refl w7.heap.size w7)
  have hl57 := LG5_15.out.lt
  go_upto_region 13 with fail
  have hlp2 := LV15.out.size
  have hlp3 := LA15.out.size
  have hlp4 := LW15.out.size
  have hlt16 := LR15.out.lt
  have LB16 := Lib.hid (LB15.out.alloc LB15.out.size (.cells #[.bool false, .int .i64 s1, .bool g8, .slice A8 n8 k8, .slice B8 m8 d8, .int .i64 1, .bool o8, .int .i64 1, .bool g9, .slice A9 n9 k9, .slice B9 m9 d9, .int .i64 1, .bool true] 56))
  have LR16 := Lib.hid (LR15.out.alloc (.cells #[.bool false, .int .i64 s1, .bool g8, .slice A8 n8 k8, .slice B8 m8 d8, .int .i64 1, .bool o8, .int .i64 1, .bool g9, .slice A9 n9 k9, .slice B9 m9 d9, .int .i64 1, .bool true] 56))
  have LG0_16 := Lib.hid (LG0_15.out.alloc (.cells #[.bool false, .int .i64 s1, .bool g8, .slice A8 n8 k8, .slice B8 m8 d8, .int .i64 1, .bool o8, .int .i64 1, .bool g9, .slice A9 n9 k9, .slice B9 m9 d9, .int .i64 1, .bool true] 56))
  have LG1_16 := Lib.hid (LG1_15.out.alloc (.cells #[.bool false, .int .i64 s1, .bool g8, .slice A8 n8 k8, .slice B8 m8 d8, .int .i64 1, .bool o8, .int .i64 1, .bool g9, .slice A9 n9 k9, .slice B9 m9 d9, .int .i64 1, .bool true] 56))
  have LG2_16 := Lib.hid (LG2_15.out.alloc (.cells #[.bool false, .int .i64 s1, .bool g8, .slice A8 n8 k8, .slice B8 m8 d8, .int .i64 1, .bool o8, .int .i64 1, .bool g9, .slice A9 n9 k9, .slice B9 m9 d9, .int .i64 1, .bool true] 56))
  have LG3_16 := Lib.hid (LG3_15.out.alloc (.cells #[.bool false, .int .i64 s1, .bool g8, .slice A8 n8 k8, .slice B8 m8 d8, .int .i64 1, .bool o8, .int .i64 1, .bool g9, .slice A9 n9 k9, .slice B9 m9 d9, .int .i64 1, .bool true] 56))
  have LG4_16 := Lib.hid (LG4_15.out.alloc (.cells #[.bool false, .int .i64 s1, .bool g8, .slice A8 n8 k8, .slice B8 m8 d8, .int .i64 1, .bool o8, .int .i64 1, .bool g9, .slice A9 n9 k9, .slice B9 m9 d9, .int .i64 1, .bool true] 56))
  have LG5_16 := Lib.hid (LG5_15.out.alloc (.cells #[.bool false, .int .i64 s1, .bool g8, .slice A8 n8 k8, .slice B8 m8 d8, .int .i64 1, .bool o8, .int .i64 1, .bool g9, .slice A9 n9 k9, .slice B9 m9 d9, .int .i64 1, .bool true] 56))
  have LG6_16 := Lib.hid (Blk.new w7 56 #[.bool false, .int .i64 s1, .bool g8, .slice A8 n8 k8, .slice B8 m8 d8, .int .i64 1, .bool o8, .int .i64 1, .bool g9, .slice A9 n9 k9, .slice B9 m9 d9, .int .i64 1, .bool true])
  have LV16 := Lib.hid (LV15.out.alloc LV15.out.size (.cells #[.bool false, .int .i64 s1, .bool g8, .slice A8 n8 k8, .slice B8 m8 d8, .int .i64 1, .bool o8, .int .i64 1, .bool g9, .slice A9 n9 k9, .slice B9 m9 d9, .int .i64 1, .bool true] 56))
  have LA16 := Lib.hid (LA15.out.alloc LA15.out.size (.cells #[.bool false, .int .i64 s1, .bool g8, .slice A8 n8 k8, .slice B8 m8 d8, .int .i64 1, .bool o8, .int .i64 1, .bool g9, .slice A9 n9 k9, .slice B9 m9 d9, .int .i64 1, .bool true] 56))
  have LW16 := Lib.hid (LW15.out.alloc LW15.out.size (.cells #[.bool false, .int .i64 s1, .bool g8, .slice A8 n8 k8, .slice B8 m8 d8, .int .i64 1, .bool o8, .int .i64 1, .bool g9, .slice A9 n9 k9, .slice B9 m9 d9, .int .i64 1, .bool true] 56))
  have LQ16 := Lib.hid (LQ15.out.alloc LQ15.out.size (.cells #[.bool false, .int .i64 s1, .bool g8, .slice A8 n8 k8, .slice B8 m8 d8, .int .i64 1, .bool o8, .int .i64 1, .bool g9, .slice A9 n9 k9, .slice B9 m9 d9, .int .i64 1, .bool true] 56))
  clear LB15 LR15 LG0_15 LG1_15 LG2_15 LG3_15 LG4_15 LG5_15 LV15 LA15 LW15 LQ15
  obtain ⟨V7, hV7⟩ : ∃ X, (w7.alloc (.cells #[.bool false, .int .i64 s1, .bool g8, .slice A8 n8 k8, .slice B8 m8 d8, .int .i64 1, .bool o8, .int .i64 1, .bool g9, .slice A9 n9 k9, .slice B9 m9 d9, .int .i64 1, .bool true] 56)) = X := ⟨_, rfl⟩
  rw [hV7] at LB16 LR16 LG0_16 LG1_16 LG2_16 LG3_16 LG4_16 LG5_16 LG6_16 LV16 LA16 LW16 LQ16 ⊢
  clear hV7
  skip
  have q3_0 : _ = some (.bool false : Value) := LG3_16.out.cell 0
  have q3_1 : _ = some (.int .i64 s1 : Value) := LG3_16.out.cell 1
  have q3_2 : _ = some (.bool g1 : Value) := LG3_16.out.cell 2
  have q3_3 : _ = some (.slice A1 n1 k1 : Value) := LG3_16.out.cell 3
  have q3_4 : _ = some (.slice B1 m1 d1 : Value) := LG3_16.out.cell 4
  have q3_5 : _ = some (.int .i64 s2 : Value) := LG3_16.out.cell 5
  have q3_6 : _ = some (.bool g2 : Value) := LG3_16.out.cell 6
  have q3_7 : _ = some (.slice A2 n2 k2 : Value) := LG3_16.out.cell 7
  have q3_8 : _ = some (.slice B2 m2 d2 : Value) := LG3_16.out.cell 8
  have q4_0 : _ = some (.bool false : Value) := LG4_16.out.cell 0
  have q4_1 : _ = some (.int .i64 s3 : Value) := LG4_16.out.cell 1
  have q4_2 : _ = some (.bool g3 : Value) := LG4_16.out.cell 2
  have q4_3 : _ = some (.slice A3 n3 k3 : Value) := LG4_16.out.cell 3
  have q4_4 : _ = some (.slice B3 m3 d3 : Value) := LG4_16.out.cell 4
  have q4_5 : _ = some (.int .i64 s4 : Value) := LG4_16.out.cell 5
  have q4_6 : _ = some (.bool g4 : Value) := LG4_16.out.cell 6
  have q4_7 : _ = some (.slice A4 n4 k4 : Value) := LG4_16.out.cell 7
  have q4_8 : _ = some (.slice B4 m4 d4 : Value) := LG4_16.out.cell 8
  have HT := Lib.hid (ecmp_any 34 s1 g1 A1 n1 k1 B1 m1 d1 x1 s3 g3 A3 n3 k3 B3 m3 d3 x3 _ (H1.out.below LV16.out) (H3.out.below LV16.out) (by omega))
  rw [R13.out] at HT
  go_wp2_with fail
  refine HT.out.mono ?_
  rintro e wc5 ⟨rfl, hbc5⟩
  have LB17 := Lib.hid (LB16.out.trans (hbc5.mono LB16.out.size))
  have LR17 := Lib.hid (LR16.out.keep hbc5)
  have LG0_17 := Lib.hid (LG0_16.out.keep hbc5)
  have LG1_17 := Lib.hid (LG1_16.out.keep hbc5)
  have LG2_17 := Lib.hid (LG2_16.out.keep hbc5)
  have LG3_17 := Lib.hid (LG3_16.out.keep hbc5)
  have LG4_17 := Lib.hid (LG4_16.out.keep hbc5)
  have LG5_17 := Lib.hid (LG5_16.out.keep hbc5)
  have LG6_17 := Lib.hid (LG6_16.out.keep hbc5)
  have LV17 := Lib.hid (LV16.out.trans (hbc5.mono LV16.out.size))
  have LA17 := Lib.hid (LA16.out.trans (hbc5.mono LA16.out.size))
  have LW17 := Lib.hid (LW16.out.trans (hbc5.mono LW16.out.size))
  have LQ17 := Lib.hid (LQ16.out.trans (hbc5.mono LQ16.out.size))
  clear LB16 LR16 LG0_16 LG1_16 LG2_16 LG3_16 LG4_16 LG5_16 LG6_16 LV16 LA16 LW16 LQ16
  clear HT hbc5 q3_0 q3_1 q3_2 q3_3 q3_4 q3_5 q3_6 q3_7 q3_8 q4_0 q4_1 q4_2 q4_3 q4_4 q4_5 q4_6 q4_7 q4_8
  have q3_0 : _ = some (.bool false : Value) := LG3_17.out.cell 0
  have q3_1 : _ = some (.int .i64 s1 : Value) := LG3_17.out.cell 1
  have q3_2 : _ = some (.bool g1 : Value) := LG3_17.out.cell 2
  have q3_3 : _ = some (.slice A1 n1 k1 : Value) := LG3_17.out.cell 3
  have q3_4 : _ = some (.slice B1 m1 d1 : Value) := LG3_17.out.cell 4
  have q3_5 : _ = some (.int .i64 s2 : Value) := LG3_17.out.cell 5
  have q3_6 : _ = some (.bool g2 : Value) := LG3_17.out.cell 6
  have q3_7 : _ = some (.slice A2 n2 k2 : Value) := LG3_17.out.cell 7
  have q3_8 : _ = some (.slice B2 m2 d2 : Value) := LG3_17.out.cell 8
  have q4_0 : _ = some (.bool false : Value) := LG4_17.out.cell 0
  have q4_1 : _ = some (.int .i64 s3 : Value) := LG4_17.out.cell 1
  have q4_2 : _ = some (.bool g3 : Value) := LG4_17.out.cell 2
  have q4_3 : _ = some (.slice A3 n3 k3 : Value) := LG4_17.out.cell 3
  have q4_4 : _ = some (.slice B3 m3 d3 : Value) := LG4_17.out.cell 4
  have q4_5 : _ = some (.int .i64 s4 : Value) := LG4_17.out.cell 5
  have q4_6 : _ = some (.bool g4 : Value) := LG4_17.out.cell 6
  have q4_7 : _ = some (.slice A4 n4 k4 : Value) := LG4_17.out.cell 7
  have q4_8 : _ = some (.slice B4 m4 d4 : Value) := LG4_17.out.cell 8
  have HT := Lib.hid (bound_end 34 s3 g3 A3 n3 k3 B3 m3 d3 x3 _ (H3.out.below LV17.out) (by omega) Z3.out)
  obtain ⟨o10, eo10⟩ : ∃ s, decide (s3 ≠ 0) = s := ⟨_, rfl⟩
  rw [eo10] at HT
  have EO10 := Lib.hid eo10
  clear eo10
  go_wp2_with fail
  refine HT.out.mono ?_
  rintro e wb10 ⟨g10, A10, n10, k10, B10, m10, d10, rfl, h10, hbb10⟩
  have LB18 := Lib.hid (LB17.out.trans (hbb10.mono LB17.out.size))
  have LR18 := Lib.hid (LR17.out.keep hbb10)
  have LG0_18 := Lib.hid (LG0_17.out.keep hbb10)
  have LG1_18 := Lib.hid (LG1_17.out.keep hbb10)
  have LG2_18 := Lib.hid (LG2_17.out.keep hbb10)
  have LG3_18 := Lib.hid (LG3_17.out.keep hbb10)
  have LG4_18 := Lib.hid (LG4_17.out.keep hbb10)
  have LG5_18 := Lib.hid (LG5_17.out.keep hbb10)
  have LG6_18 := Lib.hid (LG6_17.out.keep hbb10)
  have LV18 := Lib.hid (LV17.out.trans (hbb10.mono LV17.out.size))
  have LA18 := Lib.hid (LA17.out.trans (hbb10.mono LA17.out.size))
  have LW18 := Lib.hid (LW17.out.trans (hbb10.mono LW17.out.size))
  have LQ18 := Lib.hid (LQ17.out.trans (hbb10.mono LQ17.out.size))
  clear LB17 LR17 LG0_17 LG1_17 LG2_17 LG3_17 LG4_17 LG5_17 LG6_17 LV17 LA17 LW17 LQ17
  clear HT hbb10 q3_0 q3_1 q3_2 q3_3 q3_4 q3_5 q3_6 q3_7 q3_8 q4_0 q4_1 q4_2 q4_3 q4_4 q4_5 q4_6 q4_7 q4_8
  have q6_1 : _ = some (.int .i64 s1 : Value) := LG6_18.out.cell 1
  have q6_2 : _ = some (.bool g8 : Value) := LG6_18.out.cell 2
  have q6_3 : _ = some (.slice A8 n8 k8 : Value) := LG6_18.out.cell 3
  have q6_4 : _ = some (.slice B8 m8 d8 : Value) := LG6_18.out.cell 4
  have q6_5 : _ = some (.int .i64 1 : Value) := LG6_18.out.cell 5
  have q6_6 : _ = some (.bool o8 : Value) := LG6_18.out.cell 6
  have hf1 := LG6_18.out.frozen 1
  have hf2 := LG6_18.out.frozen 2
  have hf3 := LG6_18.out.frozen 3
  have hf4 := LG6_18.out.frozen 4
  have hf5 := LG6_18.out.frozen 5
  have hf6 := LG6_18.out.frozen 6
  go_upto_region 15 with fail
  clear q6_1 q6_2 q6_3 q6_4 q6_5 q6_6 hf1 hf2 hf3 hf4 hf5 hf6
  have h10s := h10.sets LG6_18.out (NoWd.of (by rw [← Array.all_toList]; rfl)) 1 [.int .i64 s3, .bool g10, .slice A10 n10 k10, .slice B10 m10 d10, .int .i64 1, .bool o10]
  have LB19 := Lib.hid (below_sets (w0 := w) (show w.heap.size ≤ w7.heap.size by omega) [.int .i64 s3, .bool g10, .slice A10 n10 k10, .slice B10 m10 d10, .int .i64 1, .bool o10] 1 wb10 LB18.out)
  have LR19 := Lib.hid (LR18.out.other (r := w7.heap.size) (by omega) 1 [.int .i64 s3, .bool g10, .slice A10 n10 k10, .slice B10 m10 d10, .int .i64 1, .bool o10])
  have LG0_19 := Lib.hid (LG0_18.out.other (r := w7.heap.size) (by omega) 1 [.int .i64 s3, .bool g10, .slice A10 n10 k10, .slice B10 m10 d10, .int .i64 1, .bool o10])
  have LG1_19 := Lib.hid (LG1_18.out.other (r := w7.heap.size) (by omega) 1 [.int .i64 s3, .bool g10, .slice A10 n10 k10, .slice B10 m10 d10, .int .i64 1, .bool o10])
  have LG2_19 := Lib.hid (LG2_18.out.other (r := w7.heap.size) (by omega) 1 [.int .i64 s3, .bool g10, .slice A10 n10 k10, .slice B10 m10 d10, .int .i64 1, .bool o10])
  have LG3_19 := Lib.hid (LG3_18.out.other (r := w7.heap.size) (by omega) 1 [.int .i64 s3, .bool g10, .slice A10 n10 k10, .slice B10 m10 d10, .int .i64 1, .bool o10])
  have LG4_19 := Lib.hid (LG4_18.out.other (r := w7.heap.size) (by omega) 1 [.int .i64 s3, .bool g10, .slice A10 n10 k10, .slice B10 m10 d10, .int .i64 1, .bool o10])
  have LG5_19 := Lib.hid (LG5_18.out.other (r := w7.heap.size) (by omega) 1 [.int .i64 s3, .bool g10, .slice A10 n10 k10, .slice B10 m10 d10, .int .i64 1, .bool o10])
  have LG6_19 := Lib.hid (show Blk (sets wb10 w7.heap.size 1 [.int .i64 s3, .bool g10, .slice A10 n10 k10, .slice B10 m10 d10, .int .i64 1, .bool o10]) w7.heap.size 56 #[.bool false, .int .i64 s3, .bool g10, .slice A10 n10 k10, .slice B10 m10 d10, .int .i64 1, .bool o10, .int .i64 1, .bool g9, .slice A9 n9 k9, .slice B9 m9 d9, .int .i64 1, .bool true] from by have hbs := Blk.sets [.int .i64 s3, .bool g10, .slice A10 n10 k10, .slice B10 m10 d10, .int .i64 1, .bool o10] 1 wb10 _ LG6_18.out; simpa [laid] using hbs)
  have LV19 := Lib.hid (below_sets (w0 := V2) (show V2.heap.size ≤ w7.heap.size by omega) [.int .i64 s3, .bool g10, .slice A10 n10 k10, .slice B10 m10 d10, .int .i64 1, .bool o10] 1 wb10 LV18.out)
  have LA19 := Lib.hid (below_sets (w0 := V5) (show V5.heap.size ≤ w7.heap.size by omega) [.int .i64 s3, .bool g10, .slice A10 n10 k10, .slice B10 m10 d10, .int .i64 1, .bool o10] 1 wb10 LA18.out)
  have LW19 := Lib.hid (below_sets (w0 := w6) (show w6.heap.size ≤ w7.heap.size by omega) [.int .i64 s3, .bool g10, .slice A10 n10 k10, .slice B10 m10 d10, .int .i64 1, .bool o10] 1 wb10 LW18.out)
  have LQ19 := Lib.hid (below_sets (w0 := w7) (show w7.heap.size ≤ w7.heap.size by omega) [.int .i64 s3, .bool g10, .slice A10 n10 k10, .slice B10 m10 d10, .int .i64 1, .bool o10] 1 wb10 LQ18.out)
  clear LB18 LR18 LG0_18 LG1_18 LG2_18 LG3_18 LG4_18 LG5_18 LG6_18 LV18 LA18 LW18 LQ18
  obtain ⟨V8, hV8⟩ : ∃ X, (sets wb10 w7.heap.size 1 [.int .i64 s3, .bool g10, .slice A10 n10 k10, .slice B10 m10 d10, .int .i64 1, .bool o10]) = X := ⟨_, rfl⟩
  rw [hV8] at LB19 LR19 LG0_19 LG1_19 LG2_19 LG3_19 LG4_19 LG5_19 LG6_19 LV19 LA19 LW19 LQ19 h10s
  rw [show ((((((wb10.setCell ⟨w7.heap.size, 1, none⟩ (.int .i64 s3)).setCell ⟨w7.heap.size, 2, none⟩ (.bool g10)).setCell ⟨w7.heap.size, 3, none⟩ (.slice A10 n10 k10)).setCell ⟨w7.heap.size, 4, none⟩ (.slice B10 m10 d10)).setCell ⟨w7.heap.size, 5, none⟩ (.int .i64 1)).setCell ⟨w7.heap.size, 6, none⟩ (.bool o10)) = V8 from hV8]
  clear hV8 h10
  have H10 := Lib.hid h10s
  clear h10s
  have hbd := HBD.out
  have hqq := HQQ.out
  have hM : M = 9218868437227405312 := rfl
  have PC2 := Lib.hid (show PcVal V8 i3 M [.bool false, .int .i64 s3, .bool g10, .slice A10 n10 k10, .slice B10 m10 d10, .int .i64 1, .bool o10, .int .i64 1, .bool g9, .slice A9 n9 k9, .slice B9 m9 d9, .int .i64 1, .bool true] from ⟨by omega, by omega, by omega, by omega, by omega, g10, A10, n10, k10, B10, m10, d10, g9, A9, n9, k9, B9, m9, d9, by rw [ES3.out, EO10.out, es_max]; rfl, by rw [EX3.out]; exact H10.out, by rw [ex_max]; exact H9.out.below LQ19.out⟩)
  clear hbd hqq hM
  have q6_0 : _ = some (.bool false : Value) := LG6_19.out.cell 0
  have q6_1 : _ = some (.int .i64 s3 : Value) := LG6_19.out.cell 1
  have q6_2 : _ = some (.bool g10 : Value) := LG6_19.out.cell 2
  have q6_3 : _ = some (.slice A10 n10 k10 : Value) := LG6_19.out.cell 3
  have q6_4 : _ = some (.slice B10 m10 d10 : Value) := LG6_19.out.cell 4
  have q6_5 : _ = some (.int .i64 1 : Value) := LG6_19.out.cell 5
  have q6_6 : _ = some (.bool o10 : Value) := LG6_19.out.cell 6
  have q6_7 : _ = some (.int .i64 1 : Value) := LG6_19.out.cell 7
  have q6_8 : _ = some (.bool g9 : Value) := LG6_19.out.cell 8
  have q6_9 : _ = some (.slice A9 n9 k9 : Value) := LG6_19.out.cell 9
  have q6_10 : _ = some (.slice B9 m9 d9 : Value) := LG6_19.out.cell 10
  have q6_11 : _ = some (.int .i64 1 : Value) := LG6_19.out.cell 11
  have q6_12 : _ = some (.bool true : Value) := LG6_19.out.cell 12
  have hsz := LA19.out.size
  go_wp2_with (at_builtin; refine wpList_append_pc _ rfl _ _ rfl V5.heap.size _ 1 _ rfl ((OWN.out.keep LW19.out).alloc _) ⟨V8.heap.size, 0, none⟩ 1 [.bool false, .int .i64 s3, .bool g10, .slice A10 n10 k10, .slice B10 m10 d10, .int .i64 1, .bool o10, .int .i64 1, .bool g9, .slice A9 n9 k9, .slice B9 m9 d9, .int .i64 1, .bool true] rfl rfl ?c1 ?c2 (by omega) ?c3 ?_)
  case c1 => exact fun j u hu => lit_cells V8 _ _ j u hu
  case c2 => intro u hu; exact List.all_eq_true.1 (show List.all [.bool false, .int .i64 s3, .bool g10, .slice A10 n10 k10, .slice B10 m10 d10, .int .i64 1, .bool o10, .int .i64 1, .bool g9, .slice A9 n9 k9, .slice B9 m9 d9, .int .i64 1, .bool true] Value.oneCell' = true from rfl) u hu
  case c3 => simp; omega
  intro v2 w8 hown2 hgrow
  obtain ⟨gs, cap2, rfl, hgs, hcap2⟩ := hown2.form (by omega)
  have hbz : Below V5.heap.size V5 w8 := (LA19.out.alloc hsz _).grown hgrow (by simp; omega) (fun k hk => Nat.le_trans hg1 (Nat.le_of_eq (by simpa [Value.ownBlock] using hk)))
  have LBX := Lib.hid (KB.out.trans (hbz.mono KB.out.size))
  have LRX := Lib.hid (KR.out.keep hbz)
  have LGX := Lib.hid (KX.out.keep hbz)
  have PZ1 := Lib.hid (PC1.out.below hbz)
  have PZ2 := Lib.hid ((PC2.out.below (below_alloc V8 _)).grown ((GB.out.keep LW19.out).alloc _) NW.out hgrow)
  have OWN2 := Lib.hid hown2
  clear hown2 hgrow hbz
  clear q6_0 q6_1 q6_2 q6_3 q6_4 q6_5 q6_6 q6_7 q6_8 q6_9 q6_10 q6_11 q6_12 LB19 LR19 LG0_19 LG1_19 LG2_19 LG3_19 LG4_19 LG5_19 LG6_19 LV19 LA19 LW19 LQ19
  have LB90 := Lib.hid LBX.out
  have LR90 := Lib.hid LRX.out
  have LG0_90 := Lib.hid LGX.out
  clear LBX LRX LGX
  have q0_0 : _ = some (.int .u64 (x : Int) : Value) := LG0_90.out.cell 0
  have q0_1 : _ = some (.int .u64 (y : Int) : Value) := LG0_90.out.cell 1
  have HT := Lib.hid (HALL.out ⟨gs, 0, none⟩ 2 cap2 w8 (by omega) hcap2 (fun k hk => by
    have hk2 : k = 0 ∨ k = 1 := by omega
    rcases hk2 with rfl | rfl
    · rw [D1.out]
      exact pcAt_of (p := [.bool false, .int .i64 s1, .bool g5, .slice A5 n5 k5, .slice B5 m5 d5, .int .i64 1, .bool o5, .int .i64 s4, .bool g7, .slice A7 n7 k7, .slice B7 m7 d7, .int .i64 1, .bool o7]) OWN2.out (by omega) (fun j hj => match j, hj with | 0, _ => rfl | 1, _ => rfl | 2, _ => rfl | 3, _ => rfl | 4, _ => rfl | 5, _ => rfl | 6, _ => rfl | 7, _ => rfl | 8, _ => rfl | 9, _ => rfl | 10, _ => rfl | 11, _ => rfl | 12, _ => rfl) PZ1.out
    · rw [D2.out]
      exact pcAt_of (p := [.bool false, .int .i64 s3, .bool g10, .slice A10 n10 k10, .slice B10 m10 d10, .int .i64 1, .bool o10, .int .i64 1, .bool g9, .slice A9 n9 k9, .slice B9 m9 d9, .int .i64 1, .bool true]) OWN2.out (by omega) (fun j hj => match j, hj with | 0, _ => rfl | 1, _ => rfl | 2, _ => rfl | 3, _ => rfl | 4, _ => rfl | 5, _ => rfl | 6, _ => rfl | 7, _ => rfl | 8, _ => rfl | 9, _ => rfl | 10, _ => rfl | 11, _ => rfl | 12, _ => rfl) PZ2.out))
  rw [HPP.out] at HT
  go_wp2_with fail
  refine HT.out.mono ?_
  rintro e w9 ⟨rfl, hb9⟩
  have LB91 := Lib.hid (LB90.out.trans (hb9.mono LB90.out.size))
  have LR91 := Lib.hid (LR90.out.keep hb9)
  have LG0_91 := Lib.hid (LG0_90.out.keep hb9)
  clear LB90 LR90 LG0_90
  clear HT hb9 q0_0 q0_1
  have ha0 := LR91.out.someCell 0 (by decide)
  have hf0 := LR91.out.frozen 0
  have ha1 := LR91.out.someCell 1 (by decide)
  have hf1 := LR91.out.frozen 1
  have hk0 := LR91.out.setCell [.int .u64 (pat PP.1 : Int), .int .u64 (pat PP.2 : Int)] rfl 0 (by decide)
  have hk1 := LR91.out.setCell [.int .u64 (pat PP.1 : Int), .int .u64 (pat PP.2 : Int)] rfl 1 (by decide)
  have F := Lib.hid (below_sets (w0 := w) (r := (w.heap.size + 3)) (by omega) [.int .u64 (pat PP.1 : Int), .int .u64 (pat PP.2 : Int)] 0 _ LB91.out)
  simp [sets] at hk0 hk1
  go_wp2
  refine bodyPost_ret (v := .agg #[.int .u64 (pat PP.1 : Int), .int .u64 (pat PP.2 : Int)]) (by simp [results, Try.results7, go_sem, hk0, hk1]) rfl ?_
  exact ⟨rfl, F.out⟩

theorem minrev_any (b1 b2 c1 c2 x y : Nat) (w : World) (hb1 : b1 < 18446744073709551616) (hb2 : b2 < 18446744073709551616) (hc1 : c1 < 18446744073709551616) (hc2 : c2 < 18446744073709551616) (hx : x < 18446744073709551616) (hy : y < 18446744073709551616) :
    Calls Try.prog 7 #[.agg #[.int .u64 (b1 : Int), .int .u64 (b2 : Int)], .agg #[.int .u64 (c1 : Int), .int .u64 (c2 : Int)], .agg #[.int .u64 (x : Int), .int .u64 (y : Int)]] w fun e w' => e = .returned (.agg #[.int .u64 (pat (mr (rd b1 b2).1 (rd b1 b2).2 (rd c1 c2).1 (rd c1 c2).2 (rd x y).1 (rd x y).2).1 : Int), .int .u64 (pat (mr (rd b1 b2).1 (rd b1 b2).2 (rd c1 c2).1 (rd c1 c2).2 (rd x y).1 (rd x y).2).2 : Int)]) ∧ Below w.heap.size w w' := by
  have hM : M = 9218868437227405312 := rfl
  cases hc : snd c1 c2
  · have e : rd c1 c2 = ((M : Int), -(M : Int)) := by unfold rd; rw [hc]; rfl
    have e2 : mr (rd b1 b2).1 (rd b1 b2).2 (rd c1 c2).1 (rd c1 c2).2 (rd x y).1 (rd x y).2 = ((M : Int), -(M : Int)) := by
      unfold mr; rw [e, if_pos (by dsimp only; omega)]
    rw [e2, pat_max, pat_min]
    exact minrev_c b1 b2 c1 c2 x y w hb1 hb2 hc1 hc2 hc
  · cases hb : snd b1 b2
    · have e : rd b1 b2 = ((M : Int), -(M : Int)) := by unfold rd; rw [hb]; rfl
      have e2 : mr (rd b1 b2).1 (rd b1 b2).2 (rd c1 c2).1 (rd c1 c2).2 (rd x y).1 (rd x y).2 = ((M : Int), -(M : Int)) := by
        unfold mr; rw [e, if_pos (by dsimp only; omega)]
      rw [e2, pat_max, pat_min]
      exact minrev_b b1 b2 c1 c2 x y w hb1 hb2 hc1 hc2 hc hb
    · have dc := of_decide_eq_true hc
      have db := of_decide_eq_true hb
      have ec : rd c1 c2 = (idx c1, idx c2) := by unfold rd; rw [hc]; rfl
      have eb : rd b1 b2 = (idx b1, idx b2) := by unfold rd; rw [hb]; rfl
      rw [ec, eb]
      dsimp only
      by_cases q0 : idx b2 < idx c1
      · have e2 : mr (idx b1) (idx b2) (idx c1) (idx c2) (rd x y).1 (rd x y).2 = ((M : Int), -(M : Int)) := by unfold mr; rw [if_pos (by omega)]
        rw [e2]
        exact mr_none b1 b2 c1 c2 x y _ _ _ _ w hb1 hb2 hc1 hc2 hx hy hc hb rfl rfl rfl rfl q0
      · by_cases q2 : idx c2 < idx b1
        · have e2 : mr (idx b1) (idx b2) (idx c1) (idx c2) (rd x y).1 (rd x y).2 = zf (rd x y).1 (rd x y).2 (mrL (idx b1) (idx b2) (idx c1) (idx c2)) 1 := by unfold mr; rw [if_neg (by omega), if_pos q2]
          rw [e2]
          by_cases q1 : idx b2 < idx c2
          · exact mr_1r b1 b2 c1 c2 x y _ _ _ _ w hb1 hb2 hc1 hc2 hx hy hc hb rfl rfl rfl rfl (by omega) q1 q2
          · exact mr_1 b1 b2 c1 c2 x y _ _ _ _ w hb1 hb2 hc1 hc2 hx hy hc hb rfl rfl rfl rfl (by omega) (by omega) q2
        · have e2 : mr (idx b1) (idx b2) (idx c1) (idx c2) (rd x y).1 (rd x y).2 = zf (rd x y).1 (rd x y).2 (mrL (idx b1) (idx b2) (idx c1) (idx c2)) 2 := by unfold mr; rw [if_neg (by omega), if_neg q2]
          rw [e2]
          by_cases q1 : idx b2 < idx c2
          · by_cases q3 : idx c1 < idx b1
            · exact mr_2rl b1 b2 c1 c2 x y _ _ _ _ w hb1 hb2 hc1 hc2 hx hy hc hb rfl rfl rfl rfl (by omega) q1 (by omega) q3
            · exact mr_2r b1 b2 c1 c2 x y _ _ _ _ w hb1 hb2 hc1 hc2 hx hy hc hb rfl rfl rfl rfl (by omega) q1 (by omega) (by omega)
          · by_cases q3 : idx c1 < idx b1
            · exact mr_2l b1 b2 c1 c2 x y _ _ _ _ w hb1 hb2 hc1 hc2 hx hy hc hb rfl rfl rfl rfl (by omega) (by omega) (by omega) q3
            · exact mr_2 b1 b2 c1 c2 x y _ _ _ _ w hb1 hb2 hc1 hc2 hx hy hc hb rfl rfl rfl rfl (by omega) (by omega) (by omega) (by omega)

end Go.Proofs.Ythaojemejpbbgaa
