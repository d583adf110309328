/-
Walks: package vergeref10, MinRev.
-/
import Derived.Test.YthaojemejpbbgaaM17
import Derived.Deep.DeepCutAuto
set_option linter.unusedSimpArgs false
set_option linter.unusedVariables false

namespace Go.Proofs.Ythaojemejpbbgaa
open Go.RowKit

/-- The pieces. -/
def mrL (bi bj ci cj : Int) (k : Nat) : Int × Int := if k = 0 then (ci, min cj bj) else (max ci bi, (M : Int))
/-- What chapter 10 says of MinRev. -/
def mr (bi bj ci cj xi xj : Int) : Int × Int :=
  if bj < bi ∨ cj < ci ∨ bj < ci then ((M : Int), -(M : Int)) else if cj < bi then zf xi xj (mrL bi bj ci cj) 1 else zf xi xj (mrL bi bj ci cj) 2
theorem lit_cells (W : World) (t : TypeId) (news : List Value) (j : Nat) (u : Value) (h : news[j]? = some u) : (W.alloc (.cells news.toArray t)).cell? ((⟨W.heap.size, 0, none⟩ : Addr).add j) = some u := by
  rw [add_at, (Blk.new W t news.toArray).cell j]
  simpa using h

set_option maxHeartbeats 3200000 in
theorem all_nil (x y : Nat) (w : World) (hx : x < 18446744073709551616) (hy : y < 18446744073709551616) :
    Calls Try.prog 22 #[.agg #[.int .u64 (x : Int), .int .u64 (y : Int)], .slice none 0 0] w fun e w' => e = .returned (.agg #[.int .u64 9218868437227405312, .int .u64 18442240474082181120]) ∧ Below w.heap.size w w' := by
  have HR := Lib.hid fun W => read6 x y W hx hy
  have HE := Lib.hid empty6
  obtain ⟨p, hp⟩ : ∃ p, pat (rd x y).1 = p := ⟨_, rfl⟩
  obtain ⟨q, hq⟩ : ∃ p, pat (rd x y).2 = p := ⟨_, rfl⟩
  rw [hp, hq] at HR
  clear hp hq
  have LB0 := Lib.hid (show Below w.heap.size w ((w.alloc (.cells #[.int .u64 (x : Int), .int .u64 (y : Int)] 24)).alloc (.cells #[.int .u64 0, .int .u64 0] 24)) from ((below_alloc w _).alloc (by simp <;> omega) _))
  have LG0_0 := Lib.hid (((Blk.at (W := w) (g := w.heap.size) (by simp <;> omega) 24 #[.int .u64 (x : Int), .int .u64 (y : Int)]).alloc (.cells #[.int .u64 0, .int .u64 0] 24)))
  have LR0 := Lib.hid (HasBlk.of (n := 2) (Blk.at (W := (w.alloc (.cells #[.int .u64 (x : Int), .int .u64 (y : Int)] 24))) (g := (w.heap.size + 1)) (by simp <;> omega) 24 #[.int .u64 0, .int .u64 0]) rfl rfl)
  go_enter Try.func22, Try.ntmps22
  go_wp2_with fail
  refine (HR.out _).mono ?_
  rintro e w1 ⟨rfl, hb1⟩
  have LB1 := Lib.hid (LB0.out.trans (hb1.mono LB0.out.size))
  have LR1 := Lib.hid (LR0.out.keep hb1)
  have LG0_1 := Lib.hid (LG0_0.out.keep hb1)
  clear LB0 LR0 LG0_0
  have hlt2 := LR1.out.lt
  have LB2 := Lib.hid (LB1.out.alloc LB1.out.size (.cells #[.int .u64 (p : Int), .int .u64 (q : Int)] 24))
  have LR2 := Lib.hid (LR1.out.alloc (.cells #[.int .u64 (p : Int), .int .u64 (q : Int)] 24))
  have LG0_2 := Lib.hid (LG0_1.out.alloc (.cells #[.int .u64 (p : Int), .int .u64 (q : Int)] 24))
  have LG1_2 := Lib.hid (Blk.new w1 24 #[.int .u64 (p : Int), .int .u64 (q : Int)])
  clear LB1 LR1 LG0_1
  clear hb1
  go_wp2_with fail
  refine (HE.out _).mono ?_
  rintro e w2 ⟨rfl, hb2⟩
  have LB3 := Lib.hid (LB2.out.trans (hb2.mono LB2.out.size))
  have LR3 := Lib.hid (LR2.out.keep hb2)
  have LG0_3 := Lib.hid (LG0_2.out.keep hb2)
  have LG1_3 := Lib.hid (LG1_2.out.keep hb2)
  clear LB2 LR2 LG0_2 LG1_2
  have hlt4 := LR3.out.lt
  have LB4 := Lib.hid (LB3.out.alloc LB3.out.size (.cells #[.int .u64 9218868437227405312, .int .u64 18442240474082181120] 24))
  have LR4 := Lib.hid (LR3.out.alloc (.cells #[.int .u64 9218868437227405312, .int .u64 18442240474082181120] 24))
  have LG0_4 := Lib.hid (LG0_3.out.alloc (.cells #[.int .u64 9218868437227405312, .int .u64 18442240474082181120] 24))
  have LG1_4 := Lib.hid (LG1_3.out.alloc (.cells #[.int .u64 9218868437227405312, .int .u64 18442240474082181120] 24))
  have LG2_4 := Lib.hid (Blk.new w2 24 #[.int .u64 9218868437227405312, .int .u64 18442240474082181120])
  clear LB3 LR3 LG0_3 LG1_3
  clear hb2
  go_upto_region 3 with fail
  obtain ⟨V4, hV4⟩ : ∃ X, (w2.alloc (.cells #[.int .u64 9218868437227405312, .int .u64 18442240474082181120] 24)) = X := ⟨_, rfl⟩
  rw [hV4] at LB4 LR4 LG0_4 LG1_4 LG2_4 ⊢
  clear hV4
  go_wp2_with fail
  go_loopw [7] (fun iv wr => iv = .int .i64 0 ∧ V4 = wr) (fun _ _ => 0)
  case atStart => exact ⟨rfl, rfl⟩
  case round =>
    obtain ⟨rfl, rfl⟩ := hrel
    have q2_0 : _ = some (.int .u64 9218868437227405312 : Value) := LG2_4.out.cell 0
    have q2_1 : _ = some (.int .u64 18442240474082181120 : Value) := LG2_4.out.cell 1
    have ha0 := LR4.out.someCell 0 (by decide)
    have hf0 := LR4.out.frozen 0
    have ha1 := LR4.out.someCell 1 (by decide)
    have hf1 := LR4.out.frozen 1
    have hk0 := LR4.out.setCell [.int .u64 9218868437227405312, .int .u64 18442240474082181120] rfl 0 (by decide)
    have hk1 := LR4.out.setCell [.int .u64 9218868437227405312, .int .u64 18442240474082181120] rfl 1 (by decide)
    have F := Lib.hid (below_sets (w0 := w) (r := (w.heap.size + 1)) (by omega) [.int .u64 9218868437227405312, .int .u64 18442240474082181120] 0 _ LB4.out)
    simp [sets] at hk0 hk1
    go_wp2
    refine bodyPost_ret (v := .agg #[.int .u64 9218868437227405312, .int .u64 18442240474082181120]) (by simp [results, Try.results22, go_sem, hk0, hk1]) rfl ?_
    exact ⟨rfl, F.out⟩

set_option maxHeartbeats 6400000 in
theorem minrev_c (b1 b2 c1 c2 x y : Nat) (w : World) (hb1 : b1 < 18446744073709551616) (hb2 : b2 < 18446744073709551616) (hc1 : c1 < 18446744073709551616) (hc2 : c2 < 18446744073709551616) (h : snd c1 c2 = false) :
    Calls Try.prog 7 #[.agg #[.int .u64 (b1 : Int), .int .u64 (b2 : Int)], .agg #[.int .u64 (c1 : Int), .int .u64 (c2 : Int)], .agg #[.int .u64 (x : Int), .int .u64 (y : Int)]] w fun e w' => e = .returned (.agg #[.int .u64 9218868437227405312, .int .u64 18442240474082181120]) ∧ Below w.heap.size w w' := by
  have HE := Lib.hid empty6
  have HC := Lib.hid fun W => of_none c1 c2 W hc1 hc2 h
  have HBB := Lib.hid fun W => of_idx b1 b2 W hb1 hb2
  have LB0 := Lib.hid (show Below w.heap.size w ((((w.alloc (.cells #[.int .u64 (b1 : Int), .int .u64 (b2 : Int)] 24)).alloc (.cells #[.int .u64 (c1 : Int), .int .u64 (c2 : Int)] 24)).alloc (.cells #[.int .u64 (x : Int), .int .u64 (y : Int)] 24)).alloc (.cells #[.int .u64 0, .int .u64 0] 24)) from ((((below_alloc w _).alloc (by simp <;> omega) _).alloc (by simp <;> omega) _).alloc (by simp <;> omega) _))
  have LG0_0 := Lib.hid (((((Blk.at (W := w) (g := w.heap.size) (by simp <;> omega) 24 #[.int .u64 (b1 : Int), .int .u64 (b2 : Int)]).alloc (.cells #[.int .u64 (c1 : Int), .int .u64 (c2 : Int)] 24)).alloc (.cells #[.int .u64 (x : Int), .int .u64 (y : Int)] 24)).alloc (.cells #[.int .u64 0, .int .u64 0] 24)))
  have LG1_0 := Lib.hid ((((Blk.at (W := (w.alloc (.cells #[.int .u64 (b1 : Int), .int .u64 (b2 : Int)] 24))) (g := (w.heap.size + 1)) (by simp <;> omega) 24 #[.int .u64 (c1 : Int), .int .u64 (c2 : Int)]).alloc (.cells #[.int .u64 (x : Int), .int .u64 (y : Int)] 24)).alloc (.cells #[.int .u64 0, .int .u64 0] 24)))
  have LG2_0 := Lib.hid (((Blk.at (W := ((w.alloc (.cells #[.int .u64 (b1 : Int), .int .u64 (b2 : Int)] 24)).alloc (.cells #[.int .u64 (c1 : Int), .int .u64 (c2 : Int)] 24))) (g := (w.heap.size + 2)) (by simp <;> omega) 24 #[.int .u64 (x : Int), .int .u64 (y : Int)]).alloc (.cells #[.int .u64 0, .int .u64 0] 24)))
  have LR0 := Lib.hid (HasBlk.of (n := 2) (Blk.at (W := (((w.alloc (.cells #[.int .u64 (b1 : Int), .int .u64 (b2 : Int)] 24)).alloc (.cells #[.int .u64 (c1 : Int), .int .u64 (c2 : Int)] 24)).alloc (.cells #[.int .u64 (x : Int), .int .u64 (y : Int)] 24))) (g := (w.heap.size + 3)) (by simp <;> omega) 24 #[.int .u64 0, .int .u64 0]) rfl rfl)
  go_enter Try.func7, Try.ntmps7
  go_wp2_with fail
  refine (HC.out _).mono ?_
  rintro e w1 ⟨g1, A1, n1, k1, B1, m1, d1, g2, A2, n2, k2, B2, m2, d2, rfl, h1, h2, hb1⟩
  have LB1 := Lib.hid (LB0.out.trans (hb1.mono LB0.out.size))
  have LR1 := Lib.hid (LR0.out.keep hb1)
  have LG0_1 := Lib.hid (LG0_0.out.keep hb1)
  have LG1_1 := Lib.hid (LG1_0.out.keep hb1)
  have LG2_1 := Lib.hid (LG2_0.out.keep hb1)
  clear LB0 LR0 LG0_0 LG1_0 LG2_0
  clear hb1 h1 h2
  go_upto_region 2 with fail
  have hlt2 := LR1.out.lt
  have LB2 := Lib.hid (LB1.out.alloc LB1.out.size (.cells #[.bool true, .int .i64 0, .bool g1, .slice A1 n1 k1, .slice B1 m1 d1, .int .i64 0, .bool g2, .slice A2 n2 k2, .slice B2 m2 d2] 48))
  have LR2 := Lib.hid (LR1.out.alloc (.cells #[.bool true, .int .i64 0, .bool g1, .slice A1 n1 k1, .slice B1 m1 d1, .int .i64 0, .bool g2, .slice A2 n2 k2, .slice B2 m2 d2] 48))
  have LG0_2 := Lib.hid (LG0_1.out.alloc (.cells #[.bool true, .int .i64 0, .bool g1, .slice A1 n1 k1, .slice B1 m1 d1, .int .i64 0, .bool g2, .slice A2 n2 k2, .slice B2 m2 d2] 48))
  have LG1_2 := Lib.hid (LG1_1.out.alloc (.cells #[.bool true, .int .i64 0, .bool g1, .slice A1 n1 k1, .slice B1 m1 d1, .int .i64 0, .bool g2, .slice A2 n2 k2, .slice B2 m2 d2] 48))
  have LG2_2 := Lib.hid (LG2_1.out.alloc (.cells #[.bool true, .int .i64 0, .bool g1, .slice A1 n1 k1, .slice B1 m1 d1, .int .i64 0, .bool g2, .slice A2 n2 k2, .slice B2 m2 d2] 48))
  have LG3_2 := Lib.hid (Blk.new w1 48 #[.bool true, .int .i64 0, .bool g1, .slice A1 n1 k1, .slice B1 m1 d1, .int .i64 0, .bool g2, .slice A2 n2 k2, .slice B2 m2 d2])
  clear LB1 LR1 LG0_1 LG1_1 LG2_1
  obtain ⟨V1, hV1⟩ : ∃ X, (w1.alloc (.cells #[.bool true, .int .i64 0, .bool g1, .slice A1 n1 k1, .slice B1 m1 d1, .int .i64 0, .bool g2, .slice A2 n2 k2, .slice B2 m2 d2] 48)) = X := ⟨_, rfl⟩
  rw [hV1] at LB2 LR2 LG0_2 LG1_2 LG2_2 LG3_2 ⊢
  clear hV1
  have q0_0 : _ = some (.int .u64 (b1 : Int) : Value) := LG0_2.out.cell 0
  have q0_1 : _ = some (.int .u64 (b2 : Int) : Value) := LG0_2.out.cell 1
  go_wp2_with fail
  refine (HBB.out _).mono ?_
  rintro e w2 ⟨v, rfl, hv, hb2⟩
  have LB3 := Lib.hid (LB2.out.trans (hb2.mono LB2.out.size))
  have LR3 := Lib.hid (LR2.out.keep hb2)
  have LG0_3 := Lib.hid (LG0_2.out.keep hb2)
  have LG1_3 := Lib.hid (LG1_2.out.keep hb2)
  have LG2_3 := Lib.hid (LG2_2.out.keep hb2)
  have LG3_3 := Lib.hid (LG3_2.out.keep hb2)
  clear LB2 LR2 LG0_2 LG1_2 LG2_2 LG3_2
  clear q0_0 q0_1
  have hsh : ∃ o s g A n c B m d t g' A' n' c' B' m' d', v = .agg #[.bool o, .int .i64 s, .bool g, .slice A n c, .slice B m d, .int .i64 t, .bool g', .slice A' n' c', .slice B' m' d'] := by
    rcases hv with ⟨-, -, s, x, t, y, g, A, n, c, B, m, d, g', A', n', c', B', m', d', rfl, -, -⟩ | ⟨-, g, A, n, c, B, m, d, g', A', n', c', B', m', d', rfl, -, -⟩ <;> exact ⟨_, _, _, _, _, _, _, _, _, _, _, _, _, _, _, _, _, rfl⟩
  obtain ⟨o3, s3, g3, A3, n3, k3, B3, m3, d3, s4, g4, A4, n4, k4, B4, m4, d4, rfl⟩ := hsh
  clear hv hb2
  go_upto_region 3 with fail
  have hlt4 := LR3.out.lt
  have LB4 := Lib.hid (LB3.out.alloc LB3.out.size (.cells #[.bool o3, .int .i64 s3, .bool g3, .slice A3 n3 k3, .slice B3 m3 d3, .int .i64 s4, .bool g4, .slice A4 n4 k4, .slice B4 m4 d4] 48))
  have LR4 := Lib.hid (LR3.out.alloc (.cells #[.bool o3, .int .i64 s3, .bool g3, .slice A3 n3 k3, .slice B3 m3 d3, .int .i64 s4, .bool g4, .slice A4 n4 k4, .slice B4 m4 d4] 48))
  have LG0_4 := Lib.hid (LG0_3.out.alloc (.cells #[.bool o3, .int .i64 s3, .bool g3, .slice A3 n3 k3, .slice B3 m3 d3, .int .i64 s4, .bool g4, .slice A4 n4 k4, .slice B4 m4 d4] 48))
  have LG1_4 := Lib.hid (LG1_3.out.alloc (.cells #[.bool o3, .int .i64 s3, .bool g3, .slice A3 n3 k3, .slice B3 m3 d3, .int .i64 s4, .bool g4, .slice A4 n4 k4, .slice B4 m4 d4] 48))
  have LG2_4 := Lib.hid (LG2_3.out.alloc (.cells #[.bool o3, .int .i64 s3, .bool g3, .slice A3 n3 k3, .slice B3 m3 d3, .int .i64 s4, .bool g4, .slice A4 n4 k4, .slice B4 m4 d4] 48))
  have LG3_4 := Lib.hid (LG3_3.out.alloc (.cells #[.bool o3, .int .i64 s3, .bool g3, .slice A3 n3 k3, .slice B3 m3 d3, .int .i64 s4, .bool g4, .slice A4 n4 k4, .slice B4 m4 d4] 48))
  have LG4_4 := Lib.hid (Blk.new w2 48 #[.bool o3, .int .i64 s3, .bool g3, .slice A3 n3 k3, .slice B3 m3 d3, .int .i64 s4, .bool g4, .slice A4 n4 k4, .slice B4 m4 d4])
  clear LB3 LR3 LG0_3 LG1_3 LG2_3 LG3_3
  obtain ⟨V2, hV2⟩ : ∃ X, (w2.alloc (.cells #[.bool o3, .int .i64 s3, .bool g3, .slice A3 n3 k3, .slice B3 m3 d3, .int .i64 s4, .bool g4, .slice A4 n4 k4, .slice B4 m4 d4] 48)) = X := ⟨_, rfl⟩
  rw [hV2] at LB4 LR4 LG0_4 LG1_4 LG2_4 LG3_4 LG4_4 ⊢
  clear hV2
  have q3_0 : _ = some (.bool true : Value) := LG3_4.out.cell 0
  have q4_0 : _ = some (.bool o3 : Value) := LG4_4.out.cell 0
  go_wp2_with fail
  refine (HE.out _).mono ?_
  rintro e w3 ⟨rfl, hb3⟩
  have LB5 := Lib.hid (LB4.out.trans (hb3.mono LB4.out.size))
  have LR5 := Lib.hid (LR4.out.keep hb3)
  have LG0_5 := Lib.hid (LG0_4.out.keep hb3)
  have LG1_5 := Lib.hid (LG1_4.out.keep hb3)
  have LG2_5 := Lib.hid (LG2_4.out.keep hb3)
  have LG3_5 := Lib.hid (LG3_4.out.keep hb3)
  have LG4_5 := Lib.hid (LG4_4.out.keep hb3)
  clear LB4 LR4 LG0_4 LG1_4 LG2_4 LG3_4 LG4_4
  clear hb3 q3_0 q4_0
  have ha0 := LR5.out.someCell 0 (by decide)
  have hf0 := LR5.out.frozen 0
  have ha1 := LR5.out.someCell 1 (by decide)
  have hf1 := LR5.out.frozen 1
  have hk0 := LR5.out.setCell [.int .u64 9218868437227405312, .int .u64 18442240474082181120] rfl 0 (by decide)
  have hk1 := LR5.out.setCell [.int .u64 9218868437227405312, .int .u64 18442240474082181120] rfl 1 (by decide)
  have F := Lib.hid (below_sets (w0 := w) (r := (w.heap.size + 3)) (by omega) [.int .u64 9218868437227405312, .int .u64 18442240474082181120] 0 _ LB5.out)
  simp [sets] at hk0 hk1
  go_wp2
  refine bodyPost_ret (v := .agg #[.int .u64 9218868437227405312, .int .u64 18442240474082181120]) (by simp [results, Try.results7, go_sem, hk0, hk1]) rfl ?_
  exact ⟨rfl, F.out⟩

set_option maxHeartbeats 6400000 in
theorem minrev_b (b1 b2 c1 c2 x y : Nat) (w : World) (hb1 : b1 < 18446744073709551616) (hb2 : b2 < 18446744073709551616) (hc1 : c1 < 18446744073709551616) (hc2 : c2 < 18446744073709551616) (h : snd c1 c2 = true) (h2 : snd b1 b2 = false) :
    Calls Try.prog 7 #[.agg #[.int .u64 (b1 : Int), .int .u64 (b2 : Int)], .agg #[.int .u64 (c1 : Int), .int .u64 (c2 : Int)], .agg #[.int .u64 (x : Int), .int .u64 (y : Int)]] w fun e w' => e = .returned (.agg #[.int .u64 9218868437227405312, .int .u64 18442240474082181120]) ∧ Below w.heap.size w w' := by
  have HE := Lib.hid empty6
  have HC := Lib.hid fun W => of_full c1 c2 W hc1 hc2 h
  have HBB := Lib.hid fun W => of_none b1 b2 W hb1 hb2 h2
  obtain ⟨s1, e1⟩ : ∃ s, es (idx c1) = s := ⟨_, rfl⟩
  obtain ⟨s2, e3⟩ : ∃ s, es (idx c2) = s := ⟨_, rfl⟩
  rw [e1, e3] at HC
  clear e1 e3
  have LB0 := Lib.hid (show Below w.heap.size w ((((w.alloc (.cells #[.int .u64 (b1 : Int), .int .u64 (b2 : Int)] 24)).alloc (.cells #[.int .u64 (c1 : Int), .int .u64 (c2 : Int)] 24)).alloc (.cells #[.int .u64 (x : Int), .int .u64 (y : Int)] 24)).alloc (.cells #[.int .u64 0, .int .u64 0] 24)) from ((((below_alloc w _).alloc (by simp <;> omega) _).alloc (by simp <;> omega) _).alloc (by simp <;> omega) _))
  have LG0_0 := Lib.hid (((((Blk.at (W := w) (g := w.heap.size) (by simp <;> omega) 24 #[.int .u64 (b1 : Int), .int .u64 (b2 : Int)]).alloc (.cells #[.int .u64 (c1 : Int), .int .u64 (c2 : Int)] 24)).alloc (.cells #[.int .u64 (x : Int), .int .u64 (y : Int)] 24)).alloc (.cells #[.int .u64 0, .int .u64 0] 24)))
  have LG1_0 := Lib.hid ((((Blk.at (W := (w.alloc (.cells #[.int .u64 (b1 : Int), .int .u64 (b2 : Int)] 24))) (g := (w.heap.size + 1)) (by simp <;> omega) 24 #[.int .u64 (c1 : Int), .int .u64 (c2 : Int)]).alloc (.cells #[.int .u64 (x : Int), .int .u64 (y : Int)] 24)).alloc (.cells #[.int .u64 0, .int .u64 0] 24)))
  have LG2_0 := Lib.hid (((Blk.at (W := ((w.alloc (.cells #[.int .u64 (b1 : Int), .int .u64 (b2 : Int)] 24)).alloc (.cells #[.int .u64 (c1 : Int), .int .u64 (c2 : Int)] 24))) (g := (w.heap.size + 2)) (by simp <;> omega) 24 #[.int .u64 (x : Int), .int .u64 (y : Int)]).alloc (.cells #[.int .u64 0, .int .u64 0] 24)))
  have LR0 := Lib.hid (HasBlk.of (n := 2) (Blk.at (W := (((w.alloc (.cells #[.int .u64 (b1 : Int), .int .u64 (b2 : Int)] 24)).alloc (.cells #[.int .u64 (c1 : Int), .int .u64 (c2 : Int)] 24)).alloc (.cells #[.int .u64 (x : Int), .int .u64 (y : Int)] 24))) (g := (w.heap.size + 3)) (by simp <;> omega) 24 #[.int .u64 0, .int .u64 0]) rfl rfl)
  go_enter Try.func7, Try.ntmps7
  go_wp2_with fail
  refine (HC.out _).mono ?_
  rintro e w1 ⟨g1, A1, n1, k1, B1, m1, d1, g2, A2, n2, k2, B2, m2, d2, rfl, h1, h2, hb1⟩
  have LB1 := Lib.hid (LB0.out.trans (hb1.mono LB0.out.size))
  have LR1 := Lib.hid (LR0.out.keep hb1)
  have LG0_1 := Lib.hid (LG0_0.out.keep hb1)
  have LG1_1 := Lib.hid (LG1_0.out.keep hb1)
  have LG2_1 := Lib.hid (LG2_0.out.keep hb1)
  clear LB0 LR0 LG0_0 LG1_0 LG2_0
  clear hb1 h1 h2
  go_upto_region 2 with fail
  have hlt2 := LR1.out.lt
  have LB2 := Lib.hid (LB1.out.alloc LB1.out.size (.cells #[.bool false, .int .i64 s1, .bool g1, .slice A1 n1 k1, .slice B1 m1 d1, .int .i64 s2, .bool g2, .slice A2 n2 k2, .slice B2 m2 d2] 48))
  have LR2 := Lib.hid (LR1.out.alloc (.cells #[.bool false, .int .i64 s1, .bool g1, .slice A1 n1 k1, .slice B1 m1 d1, .int .i64 s2, .bool g2, .slice A2 n2 k2, .slice B2 m2 d2] 48))
  have LG0_2 := Lib.hid (LG0_1.out.alloc (.cells #[.bool false, .int .i64 s1, .bool g1, .slice A1 n1 k1, .slice B1 m1 d1, .int .i64 s2, .bool g2, .slice A2 n2 k2, .slice B2 m2 d2] 48))
  have LG1_2 := Lib.hid (LG1_1.out.alloc (.cells #[.bool false, .int .i64 s1, .bool g1, .slice A1 n1 k1, .slice B1 m1 d1, .int .i64 s2, .bool g2, .slice A2 n2 k2, .slice B2 m2 d2] 48))
  have LG2_2 := Lib.hid (LG2_1.out.alloc (.cells #[.bool false, .int .i64 s1, .bool g1, .slice A1 n1 k1, .slice B1 m1 d1, .int .i64 s2, .bool g2, .slice A2 n2 k2, .slice B2 m2 d2] 48))
  have LG3_2 := Lib.hid (Blk.new w1 48 #[.bool false, .int .i64 s1, .bool g1, .slice A1 n1 k1, .slice B1 m1 d1, .int .i64 s2, .bool g2, .slice A2 n2 k2, .slice B2 m2 d2])
  clear LB1 LR1 LG0_1 LG1_1 LG2_1
  obtain ⟨V1, hV1⟩ : ∃ X, (w1.alloc (.cells #[.bool false, .int .i64 s1, .bool g1, .slice A1 n1 k1, .slice B1 m1 d1, .int .i64 s2, .bool g2, .slice A2 n2 k2, .slice B2 m2 d2] 48)) = X := ⟨_, rfl⟩
  rw [hV1] at LB2 LR2 LG0_2 LG1_2 LG2_2 LG3_2 ⊢
  clear hV1
  have q0_0 : _ = some (.int .u64 (b1 : Int) : Value) := LG0_2.out.cell 0
  have q0_1 : _ = some (.int .u64 (b2 : Int) : Value) := LG0_2.out.cell 1
  go_wp2_with fail
  refine (HBB.out _).mono ?_
  rintro e w2 ⟨g3, A3, n3, k3, B3, m3, d3, g4, A4, n4, k4, B4, m4, d4, rfl, h3, h4, hb2⟩
  have LB3 := Lib.hid (LB2.out.trans (hb2.mono LB2.out.size))
  have LR3 := Lib.hid (LR2.out.keep hb2)
  have LG0_3 := Lib.hid (LG0_2.out.keep hb2)
  have LG1_3 := Lib.hid (LG1_2.out.keep hb2)
  have LG2_3 := Lib.hid (LG2_2.out.keep hb2)
  have LG3_3 := Lib.hid (LG3_2.out.keep hb2)
  clear LB2 LR2 LG0_2 LG1_2 LG2_2 LG3_2
  clear hb2 h3 h4 q0_0 q0_1
  go_upto_region 3 with fail
  have hlt4 := LR3.out.lt
  have LB4 := Lib.hid (LB3.out.alloc LB3.out.size (.cells #[.bool true, .int .i64 0, .bool g3, .slice A3 n3 k3, .slice B3 m3 d3, .int .i64 0, .bool g4, .slice A4 n4 k4, .slice B4 m4 d4] 48))
  have LR4 := Lib.hid (LR3.out.alloc (.cells #[.bool true, .int .i64 0, .bool g3, .slice A3 n3 k3, .slice B3 m3 d3, .int .i64 0, .bool g4, .slice A4 n4 k4, .slice B4 m4 d4] 48))
  have LG0_4 := Lib.hid (LG0_3.out.alloc (.cells #[.bool true, .int .i64 0, .bool g3, .slice A3 n3 k3, .slice B3 m3 d3, .int .i64 0, .bool g4, .slice A4 n4 k4, .slice B4 m4 d4] 48))
  have LG1_4 := Lib.hid (LG1_3.out.alloc (.cells #[.bool true, .int .i64 0, .bool g3, .slice A3 n3 k3, .slice B3 m3 d3, .int .i64 0, .bool g4, .slice A4 n4 k4, .slice B4 m4 d4] 48))
  have LG2_4 := Lib.hid (LG2_3.out.alloc (.cells #[.bool true, .int .i64 0, .bool g3, .slice A3 n3 k3, .slice B3 m3 d3, .int .i64 0, .bool g4, .slice A4 n4 k4, .slice B4 m4 d4] 48))
  have LG3_4 := Lib.hid (LG3_3.out.alloc (.cells #[.bool true, .int .i64 0, .bool g3, .slice A3 n3 k3, .slice B3 m3 d3, .int .i64 0, .bool g4, .slice A4 n4 k4, .slice B4 m4 d4] 48))
  have LG4_4 := Lib.hid (Blk.new w2 48 #[.bool true, .int .i64 0, .bool g3, .slice A3 n3 k3, .slice B3 m3 d3, .int .i64 0, .bool g4, .slice A4 n4 k4, .slice B4 m4 d4])
  clear LB3 LR3 LG0_3 LG1_3 LG2_3 LG3_3
  obtain ⟨V2, hV2⟩ : ∃ X, (w2.alloc (.cells #[.bool true, .int .i64 0, .bool g3, .slice A3 n3 k3, .slice B3 m3 d3, .int .i64 0, .bool g4, .slice A4 n4 k4, .slice B4 m4 d4] 48)) = X := ⟨_, rfl⟩
  rw [hV2] at LB4 LR4 LG0_4 LG1_4 LG2_4 LG3_4 LG4_4 ⊢
  clear hV2
  have q3_0 : _ = some (.bool false : Value) := LG3_4.out.cell 0
  have q4_0 : _ = some (.bool true : Value) := LG4_4.out.cell 0
  go_wp2_with fail
  refine (HE.out _).mono ?_
  rintro e w3 ⟨rfl, hb3⟩
  have LB5 := Lib.hid (LB4.out.trans (hb3.mono LB4.out.size))
  have LR5 := Lib.hid (LR4.out.keep hb3)
  have LG0_5 := Lib.hid (LG0_4.out.keep hb3)
  have LG1_5 := Lib.hid (LG1_4.out.keep hb3)
  have LG2_5 := Lib.hid (LG2_4.out.keep hb3)
  have LG3_5 := Lib.hid (LG3_4.out.keep hb3)
  have LG4_5 := Lib.hid (LG4_4.out.keep hb3)
  clear LB4 LR4 LG0_4 LG1_4 LG2_4 LG3_4 LG4_4
  clear hb3 q3_0 q4_0
  have ha0 := LR5.out.someCell 0 (by decide)
  have hf0 := LR5.out.frozen 0
  have ha1 := LR5.out.someCell 1 (by decide)
  have hf1 := LR5.out.frozen 1
  have hk0 := LR5.out.setCell [.int .u64 9218868437227405312, .int .u64 18442240474082181120] rfl 0 (by decide)
  have hk1 := LR5.out.setCell [.int .u64 9218868437227405312, .int .u64 18442240474082181120] rfl 1 (by decide)
  have F := Lib.hid (below_sets (w0 := w) (r := (w.heap.size + 3)) (by omega) [.int .u64 9218868437227405312, .int .u64 18442240474082181120] 0 _ LB5.out)
  simp [sets] at hk0 hk1
  go_wp2
  refine bodyPost_ret (v := .agg #[.int .u64 9218868437227405312, .int .u64 18442240474082181120]) (by simp [results, Try.results7, go_sem, hk0, hk1]) rfl ?_
  exact ⟨rfl, F.out⟩

end Go.Proofs.Ythaojemejpbbgaa
