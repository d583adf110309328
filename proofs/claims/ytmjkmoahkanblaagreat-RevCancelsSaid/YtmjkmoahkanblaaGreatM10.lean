/-
Walks: package vergeref6, intervals as sets.
Walks: package vergeref6, sets: negatives, hulls.
-/
import Derived.Test.YtmjkmoahkanblaaGreatM09
set_option linter.unusedSimpArgs false
set_option linter.unusedVariables false

namespace Go.Proofs.YtmjkmoahkanblaaGreat
open Go.RowKit

theorem pat_ne_max {i : Int} (h0 : -(M : Int) ≤ i) (h1 : i < M) : ((pat i : Int) == 9218868437227405312) = false := by
  rw [beq_eq_false_iff_ne]
  intro h
  have := pat_inj h0 (by omega) (show -(M : Int) ≤ (M : Int) by rw [M_val]; omega) (Int.le_refl _) (by rw [pat_max]; omega)
  omega

set_option maxHeartbeats 3200000 in
theorem of_none (x y : Nat) (w : World) (hx : x < 18446744073709551616) (hy : y < 18446744073709551616) (h : snd x y = false) :
    Calls Tryz.prog 57 #[.agg #[.int .u64 (x : Int), .int .u64 (y : Int)]] w (NewSet w 1 true 0 0 0 0) := by
  have h1 : rd x y = ((M : Int), -(M : Int)) := by unfold rd; rw [h]; rfl
  have HR := Lib.hid fun W => read6 x y W hx hy
  rw [h1] at HR
  simp only [pat_max, pat_min] at HR
  have HE := Lib.hid empty6
  have HF := Lib.hid fun W => finite_nat 0 W (by omega)
  clear h h1
  have LB0 := Lib.hid (show Below w.heap.size w ((w.alloc (.cells #[.int .u64 (x : Int), .int .u64 (y : Int)] 24)).alloc (.cells #[.bool false, .int .i64 0, .bool false, .slice none 0 0, .slice none 0 0, .int .i64 0, .bool false, .slice none 0 0, .slice none 0 0] 69)) from ((below_alloc w _).alloc (by simp <;> omega) _))
  have LG0_0 := Lib.hid (((Blk.at (W := w) (g := w.heap.size) (by simp <;> omega) 24 #[.int .u64 (x : Int), .int .u64 (y : Int)]).alloc (.cells #[.bool false, .int .i64 0, .bool false, .slice none 0 0, .slice none 0 0, .int .i64 0, .bool false, .slice none 0 0, .slice none 0 0] 69)))
  have LR0 := Lib.hid (HasBlk.of (n := 9) (Blk.at (W := (w.alloc (.cells #[.int .u64 (x : Int), .int .u64 (y : Int)] 24))) (g := (w.heap.size + 1)) (by simp <;> omega) 69 #[.bool false, .int .i64 0, .bool false, .slice none 0 0, .slice none 0 0, .int .i64 0, .bool false, .slice none 0 0, .slice none 0 0]) rfl rfl)
  go_enter Tryz.func57, Tryz.ntmps57
  go_wp2_with fail
  refine (HR.out _).mono ?_
  rintro e w1 ⟨rfl, hb1⟩
  have LB1 := Lib.hid (LB0.out.trans (hb1.mono LB0.out.size))
  have LR1 := Lib.hid (LR0.out.keep hb1)
  have LG0_1 := Lib.hid (LG0_0.out.keep hb1)
  clear LB0 LR0 LG0_0
  have hlt2 := LR1.out.lt
  have LB2 := Lib.hid (LB1.out.alloc LB1.out.size (.cells #[.int .u64 9218868437227405312, .int .u64 18442240474082181120] 24))
  have LR2 := Lib.hid (LR1.out.alloc (.cells #[.int .u64 9218868437227405312, .int .u64 18442240474082181120] 24))
  have LG0_2 := Lib.hid (LG0_1.out.alloc (.cells #[.int .u64 9218868437227405312, .int .u64 18442240474082181120] 24))
  have LG1_2 := Lib.hid (Blk.new w1 24 #[.int .u64 9218868437227405312, .int .u64 18442240474082181120])
  clear LB1 LR1 LG0_1
  go_wp2_with fail
  refine wp_region_held_drew (S := fun W' => Blk W' w.heap.size 24 #[.int .u64 (x : Int), .int .u64 (y : Int)] ∧ Blk W' w1.heap.size 24 #[.int .u64 9218868437227405312, .int .u64 18442240474082181120] ∧ HasBlk W' (w.heap.size + 1) 69 9 ∧ Below w.heap.size w W') (by kernel_rfl) (by exact ⟨LG0_2.out.drew, LG1_2.out.drew, LR2.out.drew, LB2.out.drew⟩) (fun hHeld => ?_)
  refine wpAnyH_take (i := 0) (v := ?_) rfl (by kernel_rfl) (by kernel_rfl) (by kernel_rfl) (fun _ _ _ h => h) (Or.inl ⟨by rfl, ?_⟩) (by assumption) ?_
  rotate_left
  · (intro W2 hSw; (try dsimp only at hSw); have q0 : _ = some (.int .u64 9218868437227405312 : Value) := hSw.2.1.cell 0; have q1 : _ = some (.int .u64 18442240474082181120 : Value) := hSw.2.1.cell 1; go_simp; (try with_reducible rfl))
  try simp only [Act.put, List.getElem_toArray, List.getElem_cons_succ, List.getElem_cons_zero, List.setIfInBounds_toArray, List.set_cons_zero, List.set_cons_succ]
  refine wpAnyH_ready (rs := [1]) (by kernel_rfl) (by simp) ?_
  refine AllReadyH.cons rfl (fun KK hKK => ?_) AllReadyH.nil
  go_simp
  refine (HE.out _).mono ?_
  rintro e w2 ⟨rfl, hb2⟩
  go_wp2_with fail
  refine hKK.out _ _ (⟨hHeld.1.keep hb2, hHeld.2.1.keep hb2, hHeld.2.2.1.keep hb2, hHeld.2.2.2.trans (hb2.mono hHeld.2.2.2.size)⟩) (fun _ => ?_)
  clear hKK KK hHeld; rename_i hHeld
  try simp only [Act.put, List.getElem_toArray, List.getElem_cons_succ, List.getElem_cons_zero, List.setIfInBounds_toArray, List.set_cons_zero, List.set_cons_succ]
  refine wpAnyH_take (i := 2) (v := ?_) rfl (by kernel_rfl) (by kernel_rfl) (by kernel_rfl) (fun _ _ _ h => h) (Or.inl ⟨by rfl, ?_⟩) (by assumption) ?_
  rotate_left
  · (intro W2 hSw; go_simp; (try with_reducible rfl))
  try simp only [Act.put, List.getElem_toArray, List.getElem_cons_succ, List.getElem_cons_zero, List.setIfInBounds_toArray, List.set_cons_zero, List.set_cons_succ]
  refine wpAnyH_done (by kernel_rfl) ?_ _
  have LB3 := Lib.hid hHeld.2.2.2
  have LR3 := Lib.hid hHeld.2.2.1
  have LG0_3 := Lib.hid hHeld.1
  have LG1_3 := Lib.hid hHeld.2.1
  clear hHeld LB2 LR2 LG0_2 LG1_2
  go_wp2_with fail
  refine (HF.out _).mono ?_
  rintro e w3 ⟨g1, A1, n1, c1, B1, m1, d1, rfl, h1, hb1⟩
  have LB4 := Lib.hid (LB3.out.trans (hb1.mono LB3.out.size))
  have LR4 := Lib.hid (LR3.out.keep hb1)
  have LG0_4 := Lib.hid (LG0_3.out.keep hb1)
  have LG1_4 := Lib.hid (LG1_3.out.keep hb1)
  clear LB3 LR3 LG0_3 LG1_3
  go_wp2_with fail
  refine (HF.out _).mono ?_
  rintro e w4 ⟨g2, A2, n2, c2, B2, m2, d2, rfl, h2, hb2⟩
  have LB5 := Lib.hid (LB4.out.trans (hb2.mono LB4.out.size))
  have LR5 := Lib.hid (LR4.out.keep hb2)
  have LG0_5 := Lib.hid (LG0_4.out.keep hb2)
  have LG1_5 := Lib.hid (LG1_4.out.keep hb2)
  clear LB4 LR4 LG0_4 LG1_4
  have ha0 := LR5.out.someCell 0 (by decide)
  have hf0 := LR5.out.frozen 0
  have ha1 := LR5.out.someCell 1 (by decide)
  have hf1 := LR5.out.frozen 1
  have ha2 := LR5.out.someCell 2 (by decide)
  have hf2 := LR5.out.frozen 2
  have ha3 := LR5.out.someCell 3 (by decide)
  have hf3 := LR5.out.frozen 3
  have ha4 := LR5.out.someCell 4 (by decide)
  have hf4 := LR5.out.frozen 4
  have ha5 := LR5.out.someCell 5 (by decide)
  have hf5 := LR5.out.frozen 5
  have ha6 := LR5.out.someCell 6 (by decide)
  have hf6 := LR5.out.frozen 6
  have ha7 := LR5.out.someCell 7 (by decide)
  have hf7 := LR5.out.frozen 7
  have ha8 := LR5.out.someCell 8 (by decide)
  have hf8 := LR5.out.frozen 8
  have hk0 := LR5.out.setCell [.bool true, .int .i64 0, .bool g1, .slice A1 n1 c1, .slice B1 m1 d1, .int .i64 0, .bool g2, .slice A2 n2 c2, .slice B2 m2 d2] rfl 0 (by decide)
  have hk1 := LR5.out.setCell [.bool true, .int .i64 0, .bool g1, .slice A1 n1 c1, .slice B1 m1 d1, .int .i64 0, .bool g2, .slice A2 n2 c2, .slice B2 m2 d2] rfl 1 (by decide)
  have hk2 := LR5.out.setCell [.bool true, .int .i64 0, .bool g1, .slice A1 n1 c1, .slice B1 m1 d1, .int .i64 0, .bool g2, .slice A2 n2 c2, .slice B2 m2 d2] rfl 2 (by decide)
  have hk3 := LR5.out.setCell [.bool true, .int .i64 0, .bool g1, .slice A1 n1 c1, .slice B1 m1 d1, .int .i64 0, .bool g2, .slice A2 n2 c2, .slice B2 m2 d2] rfl 3 (by decide)
  have hk4 := LR5.out.setCell [.bool true, .int .i64 0, .bool g1, .slice A1 n1 c1, .slice B1 m1 d1, .int .i64 0, .bool g2, .slice A2 n2 c2, .slice B2 m2 d2] rfl 4 (by decide)
  have hk5 := LR5.out.setCell [.bool true, .int .i64 0, .bool g1, .slice A1 n1 c1, .slice B1 m1 d1, .int .i64 0, .bool g2, .slice A2 n2 c2, .slice B2 m2 d2] rfl 5 (by decide)
  have hk6 := LR5.out.setCell [.bool true, .int .i64 0, .bool g1, .slice A1 n1 c1, .slice B1 m1 d1, .int .i64 0, .bool g2, .slice A2 n2 c2, .slice B2 m2 d2] rfl 6 (by decide)
  have hk7 := LR5.out.setCell [.bool true, .int .i64 0, .bool g1, .slice A1 n1 c1, .slice B1 m1 d1, .int .i64 0, .bool g2, .slice A2 n2 c2, .slice B2 m2 d2] rfl 7 (by decide)
  have hk8 := LR5.out.setCell [.bool true, .int .i64 0, .bool g1, .slice A1 n1 c1, .slice B1 m1 d1, .int .i64 0, .bool g2, .slice A2 n2 c2, .slice B2 m2 d2] rfl 8 (by decide)
  have F := Lib.hid (below_sets (w0 := w) (r := (w.heap.size + 1)) (by omega) [.bool true, .int .i64 0, .bool g1, .slice A1 n1 c1, .slice B1 m1 d1, .int .i64 0, .bool g2, .slice A2 n2 c2, .slice B2 m2 d2] 0 _ LB5.out)
  simp [sets] at hk0 hk1 hk2 hk3 hk4 hk5 hk6 hk7 hk8
  have FR1 := Lib.hid (LR5.out.rat (h1.below hb2) [.bool true, .int .i64 0, .bool g1, .slice A1 n1 c1, .slice B1 m1 d1, .int .i64 0, .bool g2, .slice A2 n2 c2, .slice B2 m2 d2])
  have FR2 := Lib.hid (LR5.out.rat h2 [.bool true, .int .i64 0, .bool g1, .slice A1 n1 c1, .slice B1 m1 d1, .int .i64 0, .bool g2, .slice A2 n2 c2, .slice B2 m2 d2])
  clear hb1 hb2 h1 h2 LR5 LB5 LG0_5 LG1_5
  go_wp2
  refine bodyPost_ret (v := .agg #[.bool true, .int .i64 0, .bool g1, .slice A1 n1 c1, .slice B1 m1 d1, .int .i64 0, .bool g2, .slice A2 n2 c2, .slice B2 m2 d2]) (by simp [results, Tryz.results57, go_sem, hk0, hk1, hk2, hk3, hk4, hk5, hk6, hk7, hk8]) rfl ?_
  exact ⟨_, _, _, _, _, _, _, _, _, _, _, _, _, _, rfl, FR1.out, FR2.out, F.out⟩

set_option maxHeartbeats 3200000 in
theorem of_full (x y : Nat) (w : World) (hx : x < 18446744073709551616) (hy : y < 18446744073709551616) (h : snd x y = true) :
    Calls Tryz.prog 57 #[.agg #[.int .u64 (x : Int), .int .u64 (y : Int)]] w (NewSet w 34 false (es (idx x)) (ex (idx x)) (es (idx y)) (ex (idx y))) := by
  have h1 : rd x y = (idx x, idx y) := by unfold rd; rw [h]; rfl
  have hd := of_decide_eq_true h
  have hi := idx_bounds hd.1
  have hj := idx_bounds hd.2.1
  have HR := Lib.hid fun W => read6 x y W hx hy
  rw [h1] at HR
  have H1 := Lib.hid fun W => bound_raw (pat (idx x)) W (pat_lt hi.1 hi.2) (by rw [rung_pat hi.1 hi.2]; omega)
  have H2 := Lib.hid fun W => bound_raw (pat (idx y)) W (pat_lt hj.1 hj.2) (by rw [rung_pat hj.1 hj.2]; omega)
  rw [idx_pat hi.1 hi.2] at H1
  rw [idx_pat hj.1 hj.2] at H2
  have hp := pat_ne_max hi.1 hd.2.2.2.1
  dsimp only at HR
  obtain ⟨p, hpp⟩ : ∃ p, pat (idx x) = p := ⟨_, rfl⟩
  obtain ⟨q, hqq⟩ : ∃ q, pat (idx y) = q := ⟨_, rfl⟩
  obtain ⟨s1, e1⟩ : ∃ s, es (idx x) = s := ⟨_, rfl⟩
  obtain ⟨x1, e2⟩ : ∃ s, ex (idx x) = s := ⟨_, rfl⟩
  obtain ⟨s2, e3⟩ : ∃ s, es (idx y) = s := ⟨_, rfl⟩
  obtain ⟨x2, e4⟩ : ∃ s, ex (idx y) = s := ⟨_, rfl⟩
  rw [hpp] at HR H1 hp
  rw [hqq] at HR H2
  rw [e1, e2] at H1 ⊢
  rw [e3, e4] at H2 ⊢
  have HE := Lib.hid empty6
  clear h h1 hd hi hj hpp hqq e1 e2 e3 e4
  have LB0 := Lib.hid (show Below w.heap.size w ((w.alloc (.cells #[.int .u64 (x : Int), .int .u64 (y : Int)] 24)).alloc (.cells #[.bool false, .int .i64 0, .bool false, .slice none 0 0, .slice none 0 0, .int .i64 0, .bool false, .slice none 0 0, .slice none 0 0] 69)) from ((below_alloc w _).alloc (by simp <;> omega) _))
  have LG0_0 := Lib.hid (((Blk.at (W := w) (g := w.heap.size) (by simp <;> omega) 24 #[.int .u64 (x : Int), .int .u64 (y : Int)]).alloc (.cells #[.bool false, .int .i64 0, .bool false, .slice none 0 0, .slice none 0 0, .int .i64 0, .bool false, .slice none 0 0, .slice none 0 0] 69)))
  have LR0 := Lib.hid (HasBlk.of (n := 9) (Blk.at (W := (w.alloc (.cells #[.int .u64 (x : Int), .int .u64 (y : Int)] 24))) (g := (w.heap.size + 1)) (by simp <;> omega) 69 #[.bool false, .int .i64 0, .bool false, .slice none 0 0, .slice none 0 0, .int .i64 0, .bool false, .slice none 0 0, .slice none 0 0]) rfl rfl)
  go_enter Tryz.func57, Tryz.ntmps57
  go_wp2_with fail
  refine (HR.out _).mono ?_
  rintro e w1 ⟨rfl, hb1⟩
  have LB1 := Lib.hid (LB0.out.trans (hb1.mono LB0.out.size))
  have LR1 := Lib.hid (LR0.out.keep hb1)
  have LG0_1 := Lib.hid (LG0_0.out.keep hb1)
  clear LB0 LR0 LG0_0
  have hlt2 := LR1.out.lt
  have LB2 := Lib.hid (LB1.out.alloc LB1.out.size (.cells #[.int .u64 (p : Int), .int .u64 (q : Int)] 24))
  have LR2 := Lib.hid (LR1.out.alloc (.cells #[.int .u64 (p : Int), .int .u64 (q : Int)] 24))
  have LG0_2 := Lib.hid (LG0_1.out.alloc (.cells #[.int .u64 (p : Int), .int .u64 (q : Int)] 24))
  have LG1_2 := Lib.hid (Blk.new w1 24 #[.int .u64 (p : Int), .int .u64 (q : Int)])
  clear LB1 LR1 LG0_1
  go_wp2_with fail
  refine wp_region_held_drew (S := fun W' => Blk W' w.heap.size 24 #[.int .u64 (x : Int), .int .u64 (y : Int)] ∧ Blk W' w1.heap.size 24 #[.int .u64 (p : Int), .int .u64 (q : Int)] ∧ HasBlk W' (w.heap.size + 1) 69 9 ∧ Below w.heap.size w W') (by kernel_rfl) (by exact ⟨LG0_2.out.drew, LG1_2.out.drew, LR2.out.drew, LB2.out.drew⟩) (fun hHeld => ?_)
  refine wpAnyH_take (i := 0) (v := ?_) rfl (by kernel_rfl) (by kernel_rfl) (by kernel_rfl) (fun _ _ _ h => h) (Or.inl ⟨by rfl, ?_⟩) (by assumption) ?_
  rotate_left
  · (intro W2 hSw; (try dsimp only at hSw); have q0 : _ = some (.int .u64 (p : Int) : Value) := hSw.2.1.cell 0; have q1 : _ = some (.int .u64 (q : Int) : Value) := hSw.2.1.cell 1; go_simp; (try with_reducible rfl))
  try simp only [Act.put, List.getElem_toArray, List.getElem_cons_succ, List.getElem_cons_zero, List.setIfInBounds_toArray, List.set_cons_zero, List.set_cons_succ]
  refine wpAnyH_ready (rs := [1]) (by kernel_rfl) (by simp) ?_
  refine AllReadyH.cons rfl (fun KK hKK => ?_) AllReadyH.nil
  go_simp
  refine (HE.out _).mono ?_
  rintro e w2 ⟨rfl, hb2⟩
  go_wp2_with fail
  refine hKK.out _ _ (⟨hHeld.1.keep hb2, hHeld.2.1.keep hb2, hHeld.2.2.1.keep hb2, hHeld.2.2.2.trans (hb2.mono hHeld.2.2.2.size)⟩) (fun _ => ?_)
  clear hKK KK hHeld; rename_i hHeld
  try simp only [Act.put, List.getElem_toArray, List.getElem_cons_succ, List.getElem_cons_zero, List.setIfInBounds_toArray, List.set_cons_zero, List.set_cons_succ]
  refine wpAnyH_take (i := 2) (v := ?_) rfl (by kernel_rfl) (by kernel_rfl) (by kernel_rfl) (fun _ _ _ h => h) (Or.inl ⟨by rfl, ?_⟩) (by assumption) ?_
  rotate_left
  · (intro W2 hSw; go_simp; (try with_reducible rfl))
  try simp only [Act.put, List.getElem_toArray, List.getElem_cons_succ, List.getElem_cons_zero, List.setIfInBounds_toArray, List.set_cons_zero, List.set_cons_succ]
  refine wpAnyH_done (by kernel_rfl) ?_ _
  have LB3 := Lib.hid hHeld.2.2.2
  have LR3 := Lib.hid hHeld.2.2.1
  have LG0_3 := Lib.hid hHeld.1
  have LG1_3 := Lib.hid hHeld.2.1
  clear hHeld LB2 LR2 LG0_2 LG1_2
  go_wp2_with fail
  refine wp_region_held_drew (S := fun W' => Blk W' w.heap.size 24 #[.int .u64 (x : Int), .int .u64 (y : Int)] ∧ Blk W' w1.heap.size 24 #[.int .u64 (p : Int), .int .u64 (q : Int)] ∧ HasBlk W' (w.heap.size + 1) 69 9 ∧ Below w.heap.size w W') (by kernel_rfl) (by exact ⟨LG0_3.out.drew, LG1_3.out.drew, LR3.out.drew, LB3.out.drew⟩) (fun hHeld => ?_)
  refine wpAnyH_take (i := 0) (v := ?_) rfl (by kernel_rfl) (by kernel_rfl) (by kernel_rfl) (fun _ _ _ h => h) (Or.inl ⟨by rfl, ?_⟩) (by assumption) ?_
  rotate_left
  · (intro W2 hSw; go_simp; (try with_reducible rfl))
  try simp only [Act.put, List.getElem_toArray, List.getElem_cons_succ, List.getElem_cons_zero, List.setIfInBounds_toArray, List.set_cons_zero, List.set_cons_succ]
  refine wpAnyH_take (i := 1) (v := ?_) rfl (by kernel_rfl) (by kernel_rfl) (by kernel_rfl) (fun _ _ _ h => h) (Or.inl ⟨by rfl, ?_⟩) (by assumption) ?_
  rotate_left
  · (intro W2 hSw; (try dsimp only at hSw); have q0 : _ = some (.int .u64 (p : Int) : Value) := hSw.2.1.cell 0; have q1 : _ = some (.int .u64 (q : Int) : Value) := hSw.2.1.cell 1; go_simp; (try with_reducible rfl))
  try simp only [Act.put, List.getElem_toArray, List.getElem_cons_succ, List.getElem_cons_zero, List.setIfInBounds_toArray, List.set_cons_zero, List.set_cons_succ]
  refine wpAnyH_take (i := 3) (v := ?_) rfl (by kernel_rfl) (by kernel_rfl) (by kernel_rfl) (fun _ _ _ h => h) (Or.inl ⟨by rfl, ?_⟩) (by assumption) ?_
  rotate_left
  · (intro W2 hSw; go_simp; (try with_reducible rfl))
  try simp only [Act.put, List.getElem_toArray, List.getElem_cons_succ, List.getElem_cons_zero, List.setIfInBounds_toArray, List.set_cons_zero, List.set_cons_succ]
  refine wpAnyH_take (i := 4) (v := ?_) rfl (by kernel_rfl) (by kernel_rfl) (by kernel_rfl) (fun _ _ _ h => h) (Or.inl ⟨by rfl, ?_⟩) (by assumption) ?_
  rotate_left
  · (intro W2 hSw; (try dsimp only at hSw); have q0 : _ = some (.int .u64 (p : Int) : Value) := hSw.2.1.cell 0; have q1 : _ = some (.int .u64 (q : Int) : Value) := hSw.2.1.cell 1; go_simp; (try with_reducible rfl))
  try simp only [Act.put, List.getElem_toArray, List.getElem_cons_succ, List.getElem_cons_zero, List.setIfInBounds_toArray, List.set_cons_zero, List.set_cons_succ]
  refine wpAnyH_ready (rs := [2]) (by kernel_rfl) (by simp) ?_
  refine AllReadyH.cons rfl (fun KK hKK => ?_) AllReadyH.nil
  go_simp
  refine (H1.out _).mono ?_
  rintro e w3 ⟨g1, A1, n1, c1, B1, m1, d1, rfl, h1, hb1⟩
  go_wp2_with fail
  refine hKK.out _ _ (⟨hHeld.1.keep hb1, hHeld.2.1.keep hb1, hHeld.2.2.1.keep hb1, hHeld.2.2.2.trans (hb1.mono hHeld.2.2.2.size)⟩) (fun _ => ?_)
  clear hKK KK hHeld; rename_i hHeld
  try simp only [Act.put, List.getElem_toArray, List.getElem_cons_succ, List.getElem_cons_zero, List.setIfInBounds_toArray, List.set_cons_zero, List.set_cons_succ]
  refine wpAnyH_ready (rs := [5]) (by kernel_rfl) (by simp) ?_
  refine AllReadyH.cons rfl (fun KK hKK => ?_) AllReadyH.nil
  go_simp
  refine (H2.out _).mono ?_
  rintro e w4 ⟨g2, A2, n2, c2, B2, m2, d2, rfl, h2, hb2⟩
  go_wp2_with fail
  refine hKK.out _ _ (⟨hHeld.1.keep hb2, hHeld.2.1.keep hb2, hHeld.2.2.1.keep hb2, hHeld.2.2.2.trans (hb2.mono hHeld.2.2.2.size)⟩) (fun _ => ?_)
  clear hKK KK hHeld; rename_i hHeld
  try simp only [Act.put, List.getElem_toArray, List.getElem_cons_succ, List.getElem_cons_zero, List.setIfInBounds_toArray, List.set_cons_zero, List.set_cons_succ]
  refine wpAnyH_take (i := 6) (v := ?_) rfl (by kernel_rfl) (by kernel_rfl) (by kernel_rfl) (fun _ _ _ h => h) (Or.inl ⟨by rfl, ?_⟩) (by assumption) ?_
  rotate_left
  · (intro W2 hSw; go_simp; (try with_reducible rfl))
  try simp only [Act.put, List.getElem_toArray, List.getElem_cons_succ, List.getElem_cons_zero, List.setIfInBounds_toArray, List.set_cons_zero, List.set_cons_succ]
  refine wpAnyH_ready (rs := [7]) (by kernel_rfl) (by simp) ?_
  refine AllReadyH.cons rfl (fun KK hKK => ?_) AllReadyH.nil
  have ha0 := hHeld.2.2.1.someCell 0 (by decide); have hf0 := hHeld.2.2.1.frozen 0; have ha1 := hHeld.2.2.1.someCell 1 (by decide); have hf1 := hHeld.2.2.1.frozen 1; have ha2 := hHeld.2.2.1.someCell 2 (by decide); have hf2 := hHeld.2.2.1.frozen 2; have ha3 := hHeld.2.2.1.someCell 3 (by decide); have hf3 := hHeld.2.2.1.frozen 3; have ha4 := hHeld.2.2.1.someCell 4 (by decide); have hf4 := hHeld.2.2.1.frozen 4; have ha5 := hHeld.2.2.1.someCell 5 (by decide); have hf5 := hHeld.2.2.1.frozen 5; have ha6 := hHeld.2.2.1.someCell 6 (by decide); have hf6 := hHeld.2.2.1.frozen 6; have ha7 := hHeld.2.2.1.someCell 7 (by decide); have hf7 := hHeld.2.2.1.frozen 7; have ha8 := hHeld.2.2.1.someCell 8 (by decide); have hf8 := hHeld.2.2.1.frozen 8; have HK := Lib.hid (hHeld.2.2.1.setCell [.bool false, .int .i64 s1, .bool g1, .slice A1 n1 c1, .slice B1 m1 d1, .int .i64 s2, .bool g2, .slice A2 n2 c2, .slice B2 m2 d2] rfl); have F := Lib.hid (below_sets (w0 := w) (r := (w.heap.size + 1)) (by omega) [.bool false, .int .i64 s1, .bool g1, .slice A1 n1 c1, .slice B1 m1 d1, .int .i64 s2, .bool g2, .slice A2 n2 c2, .slice B2 m2 d2] 0 _ hHeld.2.2.2); have FR1 := Lib.hid (hHeld.2.2.1.rat (h1.below hb2) [.bool false, .int .i64 s1, .bool g1, .slice A1 n1 c1, .slice B1 m1 d1, .int .i64 s2, .bool g2, .slice A2 n2 c2, .slice B2 m2 d2]); have FR2 := Lib.hid (hHeld.2.2.1.rat h2 [.bool false, .int .i64 s1, .bool g1, .slice A1 n1 c1, .slice B1 m1 d1, .int .i64 s2, .bool g2, .slice A2 n2 c2, .slice B2 m2 d2])
  go_simp
  refine hKK.out _ _ (⟨hHeld.1.other (by omega) 0 [.bool false, .int .i64 s1, .bool g1, .slice A1 n1 c1, .slice B1 m1 d1, .int .i64 s2, .bool g2, .slice A2 n2 c2, .slice B2 m2 d2], hHeld.2.1.other (by omega) 0 [.bool false, .int .i64 s1, .bool g1, .slice A1 n1 c1, .slice B1 m1 d1, .int .i64 s2, .bool g2, .slice A2 n2 c2, .slice B2 m2 d2], hHeld.2.2.1.sets [.bool false, .int .i64 s1, .bool g1, .slice A1 n1 c1, .slice B1 m1 d1, .int .i64 s2, .bool g2, .slice A2 n2 c2, .slice B2 m2 d2] rfl rfl, below_sets (by omega) [.bool false, .int .i64 s1, .bool g1, .slice A1 n1 c1, .slice B1 m1 d1, .int .i64 s2, .bool g2, .slice A2 n2 c2, .slice B2 m2 d2] 0 _ hHeld.2.2.2⟩) (fun _ => ?_)
  clear hKK KK hHeld; rename_i hHeld
  try simp only [Act.put, List.getElem_toArray, List.getElem_cons_succ, List.getElem_cons_zero, List.setIfInBounds_toArray, List.set_cons_zero, List.set_cons_succ]
  refine wpAnyH_done (by kernel_rfl) ?_ _
  have hk0 := HK.out 0 (by decide)
  have hk1 := HK.out 1 (by decide)
  have hk2 := HK.out 2 (by decide)
  have hk3 := HK.out 3 (by decide)
  have hk4 := HK.out 4 (by decide)
  have hk5 := HK.out 5 (by decide)
  have hk6 := HK.out 6 (by decide)
  have hk7 := HK.out 7 (by decide)
  have hk8 := HK.out 8 (by decide)
  simp [sets] at hk0 hk1 hk2 hk3 hk4 hk5 hk6 hk7 hk8
  clear hHeld HK
  go_wp2
  refine bodyPost_ret (v := .agg #[.bool false, .int .i64 s1, .bool g1, .slice A1 n1 c1, .slice B1 m1 d1, .int .i64 s2, .bool g2, .slice A2 n2 c2, .slice B2 m2 d2]) (by simp [results, Tryz.results57, go_sem, hk0, hk1, hk2, hk3, hk4, hk5, hk6, hk7, hk8]) rfl ?_
  exact ⟨_, _, _, _, _, _, _, _, _, _, _, _, _, _, rfl, FR1.out, FR2.out, F.out⟩

end Go.Proofs.YtmjkmoahkanblaaGreat

namespace Go.Proofs.YtmjkmoahkanblaaGreat
open Go.RowKit

set_option maxHeartbeats 3200000 in
theorem minus_none (K : Nat) (s1 : Int) (g1 : Bool) (A1 : Option Addr) (n1 c1 : Nat) (B1 : Option Addr) (m1 d1 : Nat) (x1 : Rat) (s2 : Int) (g2 : Bool) (A2 : Option Addr) (n2 c2 : Nat) (B2 : Option Addr) (m2 d2 : Nat) (x2 : Rat) (w : World) (h1 : RatV w K g1 (.slice A1 n1 c1) (.slice B1 m1 d1) x1) (h2 : RatV w K g2 (.slice A2 n2 c2) (.slice B2 m2 d2) x2) :
    Calls Tryz.prog 58 #[.agg #[.bool true, .int .i64 s1, .bool g1, .slice A1 n1 c1, .slice B1 m1 d1, .int .i64 s2, .bool g2, .slice A2 n2 c2, .slice B2 m2 d2]] w (NewSet w K true s1 x1 s2 x2) := by
  have H1 := Lib.hid h1
  have H2 := Lib.hid h2
  clear h1 h2
  have LB0 := Lib.hid (show Below w.heap.size w ((w.alloc (.cells #[.bool true, .int .i64 s1, .bool g1, .slice A1 n1 c1, .slice B1 m1 d1, .int .i64 s2, .bool g2, .slice A2 n2 c2, .slice B2 m2 d2] 69)).alloc (.cells #[.bool false, .int .i64 0, .bool false, .slice none 0 0, .slice none 0 0, .int .i64 0, .bool false, .slice none 0 0, .slice none 0 0] 69)) from ((below_alloc w _).alloc (by simp <;> omega) _))
  have LG0_0 := Lib.hid (((Blk.at (W := w) (g := w.heap.size) (by simp <;> omega) 69 #[.bool true, .int .i64 s1, .bool g1, .slice A1 n1 c1, .slice B1 m1 d1, .int .i64 s2, .bool g2, .slice A2 n2 c2, .slice B2 m2 d2]).alloc (.cells #[.bool false, .int .i64 0, .bool false, .slice none 0 0, .slice none 0 0, .int .i64 0, .bool false, .slice none 0 0, .slice none 0 0] 69)))
  have LR0 := Lib.hid (HasBlk.of (n := 9) (Blk.at (W := (w.alloc (.cells #[.bool true, .int .i64 s1, .bool g1, .slice A1 n1 c1, .slice B1 m1 d1, .int .i64 s2, .bool g2, .slice A2 n2 c2, .slice B2 m2 d2] 69))) (g := (w.heap.size + 1)) (by simp <;> omega) 69 #[.bool false, .int .i64 0, .bool false, .slice none 0 0, .slice none 0 0, .int .i64 0, .bool false, .slice none 0 0, .slice none 0 0]) rfl rfl)
  have ba := LB0.out
  clear LB0 LG0_0 LR0 ba
  go_enter Tryz.func58, Tryz.ntmps58
  go_wp2
  refine bodyPost_ret (v := .agg #[.bool true, .int .i64 s1, .bool g1, .slice A1 n1 c1, .slice B1 m1 d1, .int .i64 s2, .bool g2, .slice A2 n2 c2, .slice B2 m2 d2]) (by simp [results, Tryz.results58, go_sem]) rfl ?_
  exact have b := ((below_alloc w _).alloc (by simp <;> omega) _); ⟨_, _, _, _, _, _, _, _, _, _, _, _, _, _, rfl, H1.out.below b, H2.out.below b, b⟩

set_option maxHeartbeats 3200000 in
theorem minus_some (K : Nat) (s1 : Int) (g1 : Bool) (A1 : Option Addr) (n1 c1 : Nat) (B1 : Option Addr) (m1 d1 : Nat) (x1 : Rat) (s2 : Int) (g2 : Bool) (A2 : Option Addr) (n2 c2 : Nat) (B2 : Option Addr) (m2 d2 : Nat) (x2 : Rat) (w : World) (h1 : RatV w K g1 (.slice A1 n1 c1) (.slice B1 m1 d1) x1) (h2 : RatV w K g2 (.slice A2 n2 c2) (.slice B2 m2 d2) x2) (hK : K ≤ 1073741824) (hs : -1 ≤ s1 ∧ s1 ≤ 1) (ht : -1 ≤ s2 ∧ s2 ≤ 1) :
    Calls Tryz.prog 58 #[.agg #[.bool false, .int .i64 s1, .bool g1, .slice A1 n1 c1, .slice B1 m1 d1, .int .i64 s2, .bool g2, .slice A2 n2 c2, .slice B2 m2 d2]] w (NewSet w K false (-s2) (-x2) (-s1) (-x1)) := by
  have T1 := Lib.hid fun W (hW : Below w.heap.size w W) => turned_any K s1 g1 A1 n1 c1 B1 m1 d1 x1 W (h1.below hW) hK hs
  have T2 := Lib.hid fun W (hW : Below w.heap.size w W) => turned_any K s2 g2 A2 n2 c2 B2 m2 d2 x2 W (h2.below hW) hK ht
  obtain ⟨s3, e3⟩ : ∃ s, -s2 = s := ⟨_, rfl⟩
  obtain ⟨s4, e4⟩ : ∃ s, -s1 = s := ⟨_, rfl⟩
  rw [e3] at T2 ⊢
  rw [e4] at T1 ⊢
  clear h1 h2 hs ht e3 e4
  have LB0 := Lib.hid (show Below w.heap.size w ((w.alloc (.cells #[.bool false, .int .i64 s1, .bool g1, .slice A1 n1 c1, .slice B1 m1 d1, .int .i64 s2, .bool g2, .slice A2 n2 c2, .slice B2 m2 d2] 69)).alloc (.cells #[.bool false, .int .i64 0, .bool false, .slice none 0 0, .slice none 0 0, .int .i64 0, .bool false, .slice none 0 0, .slice none 0 0] 69)) from ((below_alloc w _).alloc (by simp <;> omega) _))
  have LG0_0 := Lib.hid (((Blk.at (W := w) (g := w.heap.size) (by simp <;> omega) 69 #[.bool false, .int .i64 s1, .bool g1, .slice A1 n1 c1, .slice B1 m1 d1, .int .i64 s2, .bool g2, .slice A2 n2 c2, .slice B2 m2 d2]).alloc (.cells #[.bool false, .int .i64 0, .bool false, .slice none 0 0, .slice none 0 0, .int .i64 0, .bool false, .slice none 0 0, .slice none 0 0] 69)))
  have LR0 := Lib.hid (HasBlk.of (n := 9) (Blk.at (W := (w.alloc (.cells #[.bool false, .int .i64 s1, .bool g1, .slice A1 n1 c1, .slice B1 m1 d1, .int .i64 s2, .bool g2, .slice A2 n2 c2, .slice B2 m2 d2] 69))) (g := (w.heap.size + 1)) (by simp <;> omega) 69 #[.bool false, .int .i64 0, .bool false, .slice none 0 0, .slice none 0 0, .int .i64 0, .bool false, .slice none 0 0, .slice none 0 0]) rfl rfl)
  go_enter Tryz.func58, Tryz.ntmps58
  go_wp2_with fail
  refine wp_region_held_drew (S := fun W' => Blk W' w.heap.size 69 #[.bool false, .int .i64 s1, .bool g1, .slice A1 n1 c1, .slice B1 m1 d1, .int .i64 s2, .bool g2, .slice A2 n2 c2, .slice B2 m2 d2] ∧ HasBlk W' (w.heap.size + 1) 69 9 ∧ Below w.heap.size w W') (by kernel_rfl) (by exact ⟨LG0_0.out.drew, LR0.out.drew, LB0.out.drew⟩) (fun hHeld => ?_)
  refine wpAnyH_take (i := 0) (v := ?_) rfl (by kernel_rfl) (by kernel_rfl) (by kernel_rfl) (fun _ _ _ h => h) (Or.inl ⟨by rfl, ?_⟩) (by assumption) ?_
  rotate_left
  · (intro W2 hSw; go_simp; (try with_reducible rfl))
  try simp only [Act.put, List.getElem_toArray, List.getElem_cons_succ, List.getElem_cons_zero, List.setIfInBounds_toArray, List.set_cons_zero, List.set_cons_succ]
  refine wpAnyH_take (i := 1) (v := ?_) rfl (by kernel_rfl) (by kernel_rfl) (by kernel_rfl) (fun _ _ _ h => h) (Or.inl ⟨by rfl, ?_⟩) (by assumption) ?_
  rotate_left
  · (intro W2 hSw; (try dsimp only at hSw); have q0 : _ = some (.bool false : Value) := hSw.1.cell 0; have q1 : _ = some (.int .i64 s1 : Value) := hSw.1.cell 1; have q2 : _ = some (.bool g1 : Value) := hSw.1.cell 2; have q3 : _ = some (.slice A1 n1 c1 : Value) := hSw.1.cell 3; have q4 : _ = some (.slice B1 m1 d1 : Value) := hSw.1.cell 4; have q5 : _ = some (.int .i64 s2 : Value) := hSw.1.cell 5; have q6 : _ = some (.bool g2 : Value) := hSw.1.cell 6; have q7 : _ = some (.slice A2 n2 c2 : Value) := hSw.1.cell 7; have q8 : _ = some (.slice B2 m2 d2 : Value) := hSw.1.cell 8; go_simp; (try with_reducible rfl))
  try simp only [Act.put, List.getElem_toArray, List.getElem_cons_succ, List.getElem_cons_zero, List.setIfInBounds_toArray, List.set_cons_zero, List.set_cons_succ]
  refine wpAnyH_take (i := 3) (v := ?_) rfl (by kernel_rfl) (by kernel_rfl) (by kernel_rfl) (fun _ _ _ h => h) (Or.inl ⟨by rfl, ?_⟩) (by assumption) ?_
  rotate_left
  · (intro W2 hSw; go_simp; (try with_reducible rfl))
  try simp only [Act.put, List.getElem_toArray, List.getElem_cons_succ, List.getElem_cons_zero, List.setIfInBounds_toArray, List.set_cons_zero, List.set_cons_succ]
  refine wpAnyH_take (i := 4) (v := ?_) rfl (by kernel_rfl) (by kernel_rfl) (by kernel_rfl) (fun _ _ _ h => h) (Or.inl ⟨by rfl, ?_⟩) (by assumption) ?_
  rotate_left
  · (intro W2 hSw; (try dsimp only at hSw); have q0 : _ = some (.bool false : Value) := hSw.1.cell 0; have q1 : _ = some (.int .i64 s1 : Value) := hSw.1.cell 1; have q2 : _ = some (.bool g1 : Value) := hSw.1.cell 2; have q3 : _ = some (.slice A1 n1 c1 : Value) := hSw.1.cell 3; have q4 : _ = some (.slice B1 m1 d1 : Value) := hSw.1.cell 4; have q5 : _ = some (.int .i64 s2 : Value) := hSw.1.cell 5; have q6 : _ = some (.bool g2 : Value) := hSw.1.cell 6; have q7 : _ = some (.slice A2 n2 c2 : Value) := hSw.1.cell 7; have q8 : _ = some (.slice B2 m2 d2 : Value) := hSw.1.cell 8; go_simp; (try with_reducible rfl))
  try simp only [Act.put, List.getElem_toArray, List.getElem_cons_succ, List.getElem_cons_zero, List.setIfInBounds_toArray, List.set_cons_zero, List.set_cons_succ]
  refine wpAnyH_ready (rs := [2]) (by kernel_rfl) (by simp) ?_
  refine AllReadyH.cons rfl (fun KK hKK => ?_) AllReadyH.nil
  go_simp
  refine (T2.out _ ?_).mono ?_; exact hHeld.2.2
  rintro e w3 ⟨g3, A3, n3, c3, B3, m3, d3, rfl, h3, hb3⟩
  go_wp2_with fail
  refine hKK.out _ _ (⟨hHeld.1.keep hb3, hHeld.2.1.keep hb3, hHeld.2.2.trans (hb3.mono hHeld.2.2.size)⟩) (fun _ => ?_)
  clear hKK KK hHeld; rename_i hHeld
  try simp only [Act.put, List.getElem_toArray, List.getElem_cons_succ, List.getElem_cons_zero, List.setIfInBounds_toArray, List.set_cons_zero, List.set_cons_succ]
  refine wpAnyH_ready (rs := [5]) (by kernel_rfl) (by simp) ?_
  refine AllReadyH.cons rfl (fun KK hKK => ?_) AllReadyH.nil
  go_simp
  refine (T1.out _ ?_).mono ?_; exact hHeld.2.2
  rintro e w4 ⟨g4, A4, n4, c4, B4, m4, d4, rfl, h4, hb4⟩
  go_wp2_with fail
  refine hKK.out _ _ (⟨hHeld.1.keep hb4, hHeld.2.1.keep hb4, hHeld.2.2.trans (hb4.mono hHeld.2.2.size)⟩) (fun _ => ?_)
  clear hKK KK hHeld; rename_i hHeld
  try simp only [Act.put, List.getElem_toArray, List.getElem_cons_succ, List.getElem_cons_zero, List.setIfInBounds_toArray, List.set_cons_zero, List.set_cons_succ]
  refine wpAnyH_take (i := 6) (v := ?_) rfl (by kernel_rfl) (by kernel_rfl) (by kernel_rfl) (fun _ _ _ h => h) (Or.inl ⟨by rfl, ?_⟩) (by assumption) ?_
  rotate_left
  · (intro W2 hSw; go_simp; (try with_reducible rfl))
  try simp only [Act.put, List.getElem_toArray, List.getElem_cons_succ, List.getElem_cons_zero, List.setIfInBounds_toArray, List.set_cons_zero, List.set_cons_succ]
  refine wpAnyH_ready (rs := [7]) (by kernel_rfl) (by simp) ?_
  refine AllReadyH.cons rfl (fun KK hKK => ?_) AllReadyH.nil
  have ha0 := hHeld.2.1.someCell 0 (by decide); have hf0 := hHeld.2.1.frozen 0; have ha1 := hHeld.2.1.someCell 1 (by decide); have hf1 := hHeld.2.1.frozen 1; have ha2 := hHeld.2.1.someCell 2 (by decide); have hf2 := hHeld.2.1.frozen 2; have ha3 := hHeld.2.1.someCell 3 (by decide); have hf3 := hHeld.2.1.frozen 3; have ha4 := hHeld.2.1.someCell 4 (by decide); have hf4 := hHeld.2.1.frozen 4; have ha5 := hHeld.2.1.someCell 5 (by decide); have hf5 := hHeld.2.1.frozen 5; have ha6 := hHeld.2.1.someCell 6 (by decide); have hf6 := hHeld.2.1.frozen 6; have ha7 := hHeld.2.1.someCell 7 (by decide); have hf7 := hHeld.2.1.frozen 7; have ha8 := hHeld.2.1.someCell 8 (by decide); have hf8 := hHeld.2.1.frozen 8; have HK := Lib.hid (hHeld.2.1.setCell [.bool false, .int .i64 s3, .bool g3, .slice A3 n3 c3, .slice B3 m3 d3, .int .i64 s4, .bool g4, .slice A4 n4 c4, .slice B4 m4 d4] rfl); have F := Lib.hid (below_sets (w0 := w) (r := (w.heap.size + 1)) (by omega) [.bool false, .int .i64 s3, .bool g3, .slice A3 n3 c3, .slice B3 m3 d3, .int .i64 s4, .bool g4, .slice A4 n4 c4, .slice B4 m4 d4] 0 _ hHeld.2.2); have FR1 := Lib.hid (hHeld.2.1.rat (h3.below hb4) [.bool false, .int .i64 s3, .bool g3, .slice A3 n3 c3, .slice B3 m3 d3, .int .i64 s4, .bool g4, .slice A4 n4 c4, .slice B4 m4 d4]); have FR2 := Lib.hid (hHeld.2.1.rat h4 [.bool false, .int .i64 s3, .bool g3, .slice A3 n3 c3, .slice B3 m3 d3, .int .i64 s4, .bool g4, .slice A4 n4 c4, .slice B4 m4 d4])
  go_simp
  refine hKK.out _ _ (⟨hHeld.1.other (by omega) 0 [.bool false, .int .i64 s3, .bool g3, .slice A3 n3 c3, .slice B3 m3 d3, .int .i64 s4, .bool g4, .slice A4 n4 c4, .slice B4 m4 d4], hHeld.2.1.sets [.bool false, .int .i64 s3, .bool g3, .slice A3 n3 c3, .slice B3 m3 d3, .int .i64 s4, .bool g4, .slice A4 n4 c4, .slice B4 m4 d4] rfl rfl, below_sets (by omega) [.bool false, .int .i64 s3, .bool g3, .slice A3 n3 c3, .slice B3 m3 d3, .int .i64 s4, .bool g4, .slice A4 n4 c4, .slice B4 m4 d4] 0 _ hHeld.2.2⟩) (fun _ => ?_)
  clear hKK KK hHeld; rename_i hHeld
  try simp only [Act.put, List.getElem_toArray, List.getElem_cons_succ, List.getElem_cons_zero, List.setIfInBounds_toArray, List.set_cons_zero, List.set_cons_succ]
  refine wpAnyH_done (by kernel_rfl) ?_ _
  have hk0 := HK.out 0 (by decide)
  have hk1 := HK.out 1 (by decide)
  have hk2 := HK.out 2 (by decide)
  have hk3 := HK.out 3 (by decide)
  have hk4 := HK.out 4 (by decide)
  have hk5 := HK.out 5 (by decide)
  have hk6 := HK.out 6 (by decide)
  have hk7 := HK.out 7 (by decide)
  have hk8 := HK.out 8 (by decide)
  simp [sets] at hk0 hk1 hk2 hk3 hk4 hk5 hk6 hk7 hk8
  clear hHeld HK h3 hb3 h4 hb4
  clear LB0 LR0 LG0_0
  go_wp2
  refine bodyPost_ret (v := .agg #[.bool false, .int .i64 s3, .bool g3, .slice A3 n3 c3, .slice B3 m3 d3, .int .i64 s4, .bool g4, .slice A4 n4 c4, .slice B4 m4 d4]) (by simp [results, Tryz.results58, go_sem, hk0, hk1, hk2, hk3, hk4, hk5, hk6, hk7, hk8]) rfl ?_
  exact ⟨_, _, _, _, _, _, _, _, _, _, _, _, _, _, rfl, FR1.out, FR2.out, F.out⟩

set_option maxHeartbeats 3200000 in
theorem hull_left (K : Nat) (o : Bool) (s1 : Int) (g1 : Bool) (A1 : Option Addr) (n1 c1 : Nat) (B1 : Option Addr) (m1 d1 : Nat) (x1 : Rat) (s2 : Int) (g2 : Bool) (A2 : Option Addr) (n2 c2 : Nat) (B2 : Option Addr) (m2 d2 : Nat) (x2 : Rat) (s3 : Int) (g3 : Bool) (A3 : Option Addr) (n3 c3 : Nat) (B3 : Option Addr) (m3 d3 : Nat) (x3 : Rat) (s4 : Int) (g4 : Bool) (A4 : Option Addr) (n4 c4 : Nat) (B4 : Option Addr) (m4 d4 : Nat) (x4 : Rat) (w : World) (h1 : RatV w K g1 (.slice A1 n1 c1) (.slice B1 m1 d1) x1) (h2 : RatV w K g2 (.slice A2 n2 c2) (.slice B2 m2 d2) x2) (h3 : RatV w K g3 (.slice A3 n3 c3) (.slice B3 m3 d3) x3) (h4 : RatV w K g4 (.slice A4 n4 c4) (.slice B4 m4 d4) x4) :
    Calls Tryz.prog 122 #[.agg #[.bool true, .int .i64 s1, .bool g1, .slice A1 n1 c1, .slice B1 m1 d1, .int .i64 s2, .bool g2, .slice A2 n2 c2, .slice B2 m2 d2], .agg #[.bool o, .int .i64 s3, .bool g3, .slice A3 n3 c3, .slice B3 m3 d3, .int .i64 s4, .bool g4, .slice A4 n4 c4, .slice B4 m4 d4]] w (NewSet w K o s3 x3 s4 x4) := by
  have H1 := Lib.hid h3
  have H2 := Lib.hid h4
  clear h1 h2 h3 h4
  have LB0 := Lib.hid (show Below w.heap.size w (((w.alloc (.cells #[.bool true, .int .i64 s1, .bool g1, .slice A1 n1 c1, .slice B1 m1 d1, .int .i64 s2, .bool g2, .slice A2 n2 c2, .slice B2 m2 d2] 69)).alloc (.cells #[.bool o, .int .i64 s3, .bool g3, .slice A3 n3 c3, .slice B3 m3 d3, .int .i64 s4, .bool g4, .slice A4 n4 c4, .slice B4 m4 d4] 69)).alloc (.cells #[.bool false, .int .i64 0, .bool false, .slice none 0 0, .slice none 0 0, .int .i64 0, .bool false, .slice none 0 0, .slice none 0 0] 69)) from (((below_alloc w _).alloc (by simp <;> omega) _).alloc (by simp <;> omega) _))
  have LG0_0 := Lib.hid ((((Blk.at (W := w) (g := w.heap.size) (by simp <;> omega) 69 #[.bool true, .int .i64 s1, .bool g1, .slice A1 n1 c1, .slice B1 m1 d1, .int .i64 s2, .bool g2, .slice A2 n2 c2, .slice B2 m2 d2]).alloc (.cells #[.bool o, .int .i64 s3, .bool g3, .slice A3 n3 c3, .slice B3 m3 d3, .int .i64 s4, .bool g4, .slice A4 n4 c4, .slice B4 m4 d4] 69)).alloc (.cells #[.bool false, .int .i64 0, .bool false, .slice none 0 0, .slice none 0 0, .int .i64 0, .bool false, .slice none 0 0, .slice none 0 0] 69)))
  have LG1_0 := Lib.hid (((Blk.at (W := (w.alloc (.cells #[.bool true, .int .i64 s1, .bool g1, .slice A1 n1 c1, .slice B1 m1 d1, .int .i64 s2, .bool g2, .slice A2 n2 c2, .slice B2 m2 d2] 69))) (g := (w.heap.size + 1)) (by simp <;> omega) 69 #[.bool o, .int .i64 s3, .bool g3, .slice A3 n3 c3, .slice B3 m3 d3, .int .i64 s4, .bool g4, .slice A4 n4 c4, .slice B4 m4 d4]).alloc (.cells #[.bool false, .int .i64 0, .bool false, .slice none 0 0, .slice none 0 0, .int .i64 0, .bool false, .slice none 0 0, .slice none 0 0] 69)))
  have LR0 := Lib.hid (HasBlk.of (n := 9) (Blk.at (W := ((w.alloc (.cells #[.bool true, .int .i64 s1, .bool g1, .slice A1 n1 c1, .slice B1 m1 d1, .int .i64 s2, .bool g2, .slice A2 n2 c2, .slice B2 m2 d2] 69)).alloc (.cells #[.bool o, .int .i64 s3, .bool g3, .slice A3 n3 c3, .slice B3 m3 d3, .int .i64 s4, .bool g4, .slice A4 n4 c4, .slice B4 m4 d4] 69))) (g := (w.heap.size + 2)) (by simp <;> omega) 69 #[.bool false, .int .i64 0, .bool false, .slice none 0 0, .slice none 0 0, .int .i64 0, .bool false, .slice none 0 0, .slice none 0 0]) rfl rfl)
  clear LB0 LG0_0 LG1_0 LR0
  go_enter Tryz.func122, Tryz.ntmps122
  go_wp2
  refine bodyPost_ret (v := .agg #[.bool o, .int .i64 s3, .bool g3, .slice A3 n3 c3, .slice B3 m3 d3, .int .i64 s4, .bool g4, .slice A4 n4 c4, .slice B4 m4 d4]) (by simp [results, Tryz.results122, go_sem]) rfl ?_
  exact have b := (((below_alloc w _).alloc (by simp <;> omega) _).alloc (by simp <;> omega) _); ⟨_, _, _, _, _, _, _, _, _, _, _, _, _, _, rfl, H1.out.below b, H2.out.below b, b⟩

set_option maxHeartbeats 3200000 in
theorem hull_right (K : Nat) (s1 : Int) (g1 : Bool) (A1 : Option Addr) (n1 c1 : Nat) (B1 : Option Addr) (m1 d1 : Nat) (x1 : Rat) (s2 : Int) (g2 : Bool) (A2 : Option Addr) (n2 c2 : Nat) (B2 : Option Addr) (m2 d2 : Nat) (x2 : Rat) (s3 : Int) (g3 : Bool) (A3 : Option Addr) (n3 c3 : Nat) (B3 : Option Addr) (m3 d3 : Nat) (x3 : Rat) (s4 : Int) (g4 : Bool) (A4 : Option Addr) (n4 c4 : Nat) (B4 : Option Addr) (m4 d4 : Nat) (x4 : Rat) (w : World) (h1 : RatV w K g1 (.slice A1 n1 c1) (.slice B1 m1 d1) x1) (h2 : RatV w K g2 (.slice A2 n2 c2) (.slice B2 m2 d2) x2) (h3 : RatV w K g3 (.slice A3 n3 c3) (.slice B3 m3 d3) x3) (h4 : RatV w K g4 (.slice A4 n4 c4) (.slice B4 m4 d4) x4) :
    Calls Tryz.prog 122 #[.agg #[.bool false, .int .i64 s1, .bool g1, .slice A1 n1 c1, .slice B1 m1 d1, .int .i64 s2, .bool g2, .slice A2 n2 c2, .slice B2 m2 d2], .agg #[.bool true, .int .i64 s3, .bool g3, .slice A3 n3 c3, .slice B3 m3 d3, .int .i64 s4, .bool g4, .slice A4 n4 c4, .slice B4 m4 d4]] w (NewSet w K false s1 x1 s2 x2) := by
  have H1 := Lib.hid h1
  have H2 := Lib.hid h2
  clear h1 h2 h3 h4
  have LB0 := Lib.hid (show Below w.heap.size w (((w.alloc (.cells #[.bool false, .int .i64 s1, .bool g1, .slice A1 n1 c1, .slice B1 m1 d1, .int .i64 s2, .bool g2, .slice A2 n2 c2, .slice B2 m2 d2] 69)).alloc (.cells #[.bool true, .int .i64 s3, .bool g3, .slice A3 n3 c3, .slice B3 m3 d3, .int .i64 s4, .bool g4, .slice A4 n4 c4, .slice B4 m4 d4] 69)).alloc (.cells #[.bool false, .int .i64 0, .bool false, .slice none 0 0, .slice none 0 0, .int .i64 0, .bool false, .slice none 0 0, .slice none 0 0] 69)) from (((below_alloc w _).alloc (by simp <;> omega) _).alloc (by simp <;> omega) _))
  have LG0_0 := Lib.hid ((((Blk.at (W := w) (g := w.heap.size) (by simp <;> omega) 69 #[.bool false, .int .i64 s1, .bool g1, .slice A1 n1 c1, .slice B1 m1 d1, .int .i64 s2, .bool g2, .slice A2 n2 c2, .slice B2 m2 d2]).alloc (.cells #[.bool true, .int .i64 s3, .bool g3, .slice A3 n3 c3, .slice B3 m3 d3, .int .i64 s4, .bool g4, .slice A4 n4 c4, .slice B4 m4 d4] 69)).alloc (.cells #[.bool false, .int .i64 0, .bool false, .slice none 0 0, .slice none 0 0, .int .i64 0, .bool false, .slice none 0 0, .slice none 0 0] 69)))
  have LG1_0 := Lib.hid (((Blk.at (W := (w.alloc (.cells #[.bool false, .int .i64 s1, .bool g1, .slice A1 n1 c1, .slice B1 m1 d1, .int .i64 s2, .bool g2, .slice A2 n2 c2, .slice B2 m2 d2] 69))) (g := (w.heap.size + 1)) (by simp <;> omega) 69 #[.bool true, .int .i64 s3, .bool g3, .slice A3 n3 c3, .slice B3 m3 d3, .int .i64 s4, .bool g4, .slice A4 n4 c4, .slice B4 m4 d4]).alloc (.cells #[.bool false, .int .i64 0, .bool false, .slice none 0 0, .slice none 0 0, .int .i64 0, .bool false, .slice none 0 0, .slice none 0 0] 69)))
  have LR0 := Lib.hid (HasBlk.of (n := 9) (Blk.at (W := ((w.alloc (.cells #[.bool false, .int .i64 s1, .bool g1, .slice A1 n1 c1, .slice B1 m1 d1, .int .i64 s2, .bool g2, .slice A2 n2 c2, .slice B2 m2 d2] 69)).alloc (.cells #[.bool true, .int .i64 s3, .bool g3, .slice A3 n3 c3, .slice B3 m3 d3, .int .i64 s4, .bool g4, .slice A4 n4 c4, .slice B4 m4 d4] 69))) (g := (w.heap.size + 2)) (by simp <;> omega) 69 #[.bool false, .int .i64 0, .bool false, .slice none 0 0, .slice none 0 0, .int .i64 0, .bool false, .slice none 0 0, .slice none 0 0]) rfl rfl)
  clear LB0 LG0_0 LG1_0 LR0
  go_enter Tryz.func122, Tryz.ntmps122
  go_wp2
  refine bodyPost_ret (v := .agg #[.bool false, .int .i64 s1, .bool g1, .slice A1 n1 c1, .slice B1 m1 d1, .int .i64 s2, .bool g2, .slice A2 n2 c2, .slice B2 m2 d2]) (by simp [results, Tryz.results122, go_sem]) rfl ?_
  exact have b := (((below_alloc w _).alloc (by simp <;> omega) _).alloc (by simp <;> omega) _); ⟨_, _, _, _, _, _, _, _, _, _, _, _, _, _, rfl, H1.out.below b, H2.out.below b, b⟩

set_option maxHeartbeats 3200000 in
theorem hull_both (K : Nat) (s1 : Int) (g1 : Bool) (A1 : Option Addr) (n1 c1 : Nat) (B1 : Option Addr) (m1 d1 : Nat) (x1 : Rat) (s2 : Int) (g2 : Bool) (A2 : Option Addr) (n2 c2 : Nat) (B2 : Option Addr) (m2 d2 : Nat) (x2 : Rat) (s3 : Int) (g3 : Bool) (A3 : Option Addr) (n3 c3 : Nat) (B3 : Option Addr) (m3 d3 : Nat) (x3 : Rat) (s4 : Int) (g4 : Bool) (A4 : Option Addr) (n4 c4 : Nat) (B4 : Option Addr) (m4 d4 : Nat) (x4 : Rat) (w : World) (h1 : RatV w K g1 (.slice A1 n1 c1) (.slice B1 m1 d1) x1) (h2 : RatV w K g2 (.slice A2 n2 c2) (.slice B2 m2 d2) x2) (h3 : RatV w K g3 (.slice A3 n3 c3) (.slice B3 m3 d3) x3) (h4 : RatV w K g4 (.slice A4 n4 c4) (.slice B4 m4 d4) x4) (hK : K ≤ 1073741824) :
    Calls Tryz.prog 122 #[.agg #[.bool false, .int .i64 s1, .bool g1, .slice A1 n1 c1, .slice B1 m1 d1, .int .i64 s2, .bool g2, .slice A2 n2 c2, .slice B2 m2 d2], .agg #[.bool false, .int .i64 s3, .bool g3, .slice A3 n3 c3, .slice B3 m3 d3, .int .i64 s4, .bool g4, .slice A4 n4 c4, .slice B4 m4 d4]] w
      (NewSet w K false (if ec s3 x3 s1 x1 < 0 then s3 else s1) (if ec s3 x3 s1 x1 < 0 then x3 else x1) (if 0 < ec s4 x4 s2 x2 then s4 else s2) (if 0 < ec s4 x4 s2 x2 then x4 else x2)) := by
  have T1 := Lib.hid fun W (hW : Below w.heap.size w W) => lesser_any K s1 g1 A1 n1 c1 B1 m1 d1 x1 s3 g3 A3 n3 c3 B3 m3 d3 x3 W (h1.below hW) (h3.below hW) hK
  have T2 := Lib.hid fun W (hW : Below w.heap.size w W) => greater_any K s2 g2 A2 n2 c2 B2 m2 d2 x2 s4 g4 A4 n4 c4 B4 m4 d4 x4 W (h2.below hW) (h4.below hW) hK
  obtain ⟨s5, e1⟩ : ∃ s, (if ec s3 x3 s1 x1 < 0 then s3 else s1) = s := ⟨_, rfl⟩
  obtain ⟨x5, e2⟩ : ∃ s, (if ec s3 x3 s1 x1 < 0 then x3 else x1) = s := ⟨_, rfl⟩
  obtain ⟨s6, e3⟩ : ∃ s, (if 0 < ec s4 x4 s2 x2 then s4 else s2) = s := ⟨_, rfl⟩
  obtain ⟨x6, e4⟩ : ∃ s, (if 0 < ec s4 x4 s2 x2 then x4 else x2) = s := ⟨_, rfl⟩
  rw [e1, e2] at T1 ⊢
  rw [e3, e4] at T2 ⊢
  clear h1 h2 h3 h4 e1 e2 e3 e4
  have LB0 := Lib.hid (show Below w.heap.size w (((w.alloc (.cells #[.bool false, .int .i64 s1, .bool g1, .slice A1 n1 c1, .slice B1 m1 d1, .int .i64 s2, .bool g2, .slice A2 n2 c2, .slice B2 m2 d2] 69)).alloc (.cells #[.bool false, .int .i64 s3, .bool g3, .slice A3 n3 c3, .slice B3 m3 d3, .int .i64 s4, .bool g4, .slice A4 n4 c4, .slice B4 m4 d4] 69)).alloc (.cells #[.bool false, .int .i64 0, .bool false, .slice none 0 0, .slice none 0 0, .int .i64 0, .bool false, .slice none 0 0, .slice none 0 0] 69)) from (((below_alloc w _).alloc (by simp <;> omega) _).alloc (by simp <;> omega) _))
  have LG0_0 := Lib.hid ((((Blk.at (W := w) (g := w.heap.size) (by simp <;> omega) 69 #[.bool false, .int .i64 s1, .bool g1, .slice A1 n1 c1, .slice B1 m1 d1, .int .i64 s2, .bool g2, .slice A2 n2 c2, .slice B2 m2 d2]).alloc (.cells #[.bool false, .int .i64 s3, .bool g3, .slice A3 n3 c3, .slice B3 m3 d3, .int .i64 s4, .bool g4, .slice A4 n4 c4, .slice B4 m4 d4] 69)).alloc (.cells #[.bool false, .int .i64 0, .bool false, .slice none 0 0, .slice none 0 0, .int .i64 0, .bool false, .slice none 0 0, .slice none 0 0] 69)))
  have LG1_0 := Lib.hid (((Blk.at (W := (w.alloc (.cells #[.bool false, .int .i64 s1, .bool g1, .slice A1 n1 c1, .slice B1 m1 d1, .int .i64 s2, .bool g2, .slice A2 n2 c2, .slice B2 m2 d2] 69))) (g := (w.heap.size + 1)) (by simp <;> omega) 69 #[.bool false, .int .i64 s3, .bool g3, .slice A3 n3 c3, .slice B3 m3 d3, .int .i64 s4, .bool g4, .slice A4 n4 c4, .slice B4 m4 d4]).alloc (.cells #[.bool false, .int .i64 0, .bool false, .slice none 0 0, .slice none 0 0, .int .i64 0, .bool false, .slice none 0 0, .slice none 0 0] 69)))
  have LR0 := Lib.hid (HasBlk.of (n := 9) (Blk.at (W := ((w.alloc (.cells #[.bool false, .int .i64 s1, .bool g1, .slice A1 n1 c1, .slice B1 m1 d1, .int .i64 s2, .bool g2, .slice A2 n2 c2, .slice B2 m2 d2] 69)).alloc (.cells #[.bool false, .int .i64 s3, .bool g3, .slice A3 n3 c3, .slice B3 m3 d3, .int .i64 s4, .bool g4, .slice A4 n4 c4, .slice B4 m4 d4] 69))) (g := (w.heap.size + 2)) (by simp <;> omega) 69 #[.bool false, .int .i64 0, .bool false, .slice none 0 0, .slice none 0 0, .int .i64 0, .bool false, .slice none 0 0, .slice none 0 0]) rfl rfl)
  go_enter Tryz.func122, Tryz.ntmps122
  go_wp2_with fail
  refine wp_region_held_drew (S := fun W' => Blk W' w.heap.size 69 #[.bool false, .int .i64 s1, .bool g1, .slice A1 n1 c1, .slice B1 m1 d1, .int .i64 s2, .bool g2, .slice A2 n2 c2, .slice B2 m2 d2] ∧ Blk W' (w.heap.size + 1) 69 #[.bool false, .int .i64 s3, .bool g3, .slice A3 n3 c3, .slice B3 m3 d3, .int .i64 s4, .bool g4, .slice A4 n4 c4, .slice B4 m4 d4] ∧ HasBlk W' (w.heap.size + 2) 69 9 ∧ Below w.heap.size w W') (by kernel_rfl) (by exact ⟨LG0_0.out.drew, LG1_0.out.drew, LR0.out.drew, LB0.out.drew⟩) (fun hHeld => ?_)
  refine wpAnyH_take (i := 0) (v := ?_) rfl (by kernel_rfl) (by kernel_rfl) (by kernel_rfl) (fun _ _ _ h => h) (Or.inl ⟨by rfl, ?_⟩) (by assumption) ?_
  rotate_left
  · (intro W2 hSw; go_simp; (try with_reducible rfl))
  try simp only [Act.put, List.getElem_toArray, List.getElem_cons_succ, List.getElem_cons_zero, List.setIfInBounds_toArray, List.set_cons_zero, List.set_cons_succ]
  refine wpAnyH_take (i := 1) (v := ?_) rfl (by kernel_rfl) (by kernel_rfl) (by kernel_rfl) (fun _ _ _ h => h) (Or.inl ⟨by rfl, ?_⟩) (by assumption) ?_
  rotate_left
  · (intro W2 hSw; (try dsimp only at hSw); have q0 : _ = some (.bool false : Value) := hSw.1.cell 0; have q1 : _ = some (.int .i64 s1 : Value) := hSw.1.cell 1; have q2 : _ = some (.bool g1 : Value) := hSw.1.cell 2; have q3 : _ = some (.slice A1 n1 c1 : Value) := hSw.1.cell 3; have q4 : _ = some (.slice B1 m1 d1 : Value) := hSw.1.cell 4; have q5 : _ = some (.int .i64 s2 : Value) := hSw.1.cell 5; have q6 : _ = some (.bool g2 : Value) := hSw.1.cell 6; have q7 : _ = some (.slice A2 n2 c2 : Value) := hSw.1.cell 7; have q8 : _ = some (.slice B2 m2 d2 : Value) := hSw.1.cell 8; go_simp; (try with_reducible rfl))
  try simp only [Act.put, List.getElem_toArray, List.getElem_cons_succ, List.getElem_cons_zero, List.setIfInBounds_toArray, List.set_cons_zero, List.set_cons_succ]
  refine wpAnyH_take (i := 2) (v := ?_) rfl (by kernel_rfl) (by kernel_rfl) (by kernel_rfl) (fun _ _ _ h => h) (Or.inl ⟨by rfl, ?_⟩) (by assumption) ?_
  rotate_left
  · (intro W2 hSw; go_simp; (try with_reducible rfl))
  try simp only [Act.put, List.getElem_toArray, List.getElem_cons_succ, List.getElem_cons_zero, List.setIfInBounds_toArray, List.set_cons_zero, List.set_cons_succ]
  refine wpAnyH_take (i := 3) (v := ?_) rfl (by kernel_rfl) (by kernel_rfl) (by kernel_rfl) (fun _ _ _ h => h) (Or.inl ⟨by rfl, ?_⟩) (by assumption) ?_
  rotate_left
  · (intro W2 hSw; (try dsimp only at hSw); have q0 : _ = some (.bool false : Value) := hSw.2.1.cell 0; have q1 : _ = some (.int .i64 s3 : Value) := hSw.2.1.cell 1; have q2 : _ = some (.bool g3 : Value) := hSw.2.1.cell 2; have q3 : _ = some (.slice A3 n3 c3 : Value) := hSw.2.1.cell 3; have q4 : _ = some (.slice B3 m3 d3 : Value) := hSw.2.1.cell 4; have q5 : _ = some (.int .i64 s4 : Value) := hSw.2.1.cell 5; have q6 : _ = some (.bool g4 : Value) := hSw.2.1.cell 6; have q7 : _ = some (.slice A4 n4 c4 : Value) := hSw.2.1.cell 7; have q8 : _ = some (.slice B4 m4 d4 : Value) := hSw.2.1.cell 8; go_simp; (try with_reducible rfl))
  try simp only [Act.put, List.getElem_toArray, List.getElem_cons_succ, List.getElem_cons_zero, List.setIfInBounds_toArray, List.set_cons_zero, List.set_cons_succ]
  refine wpAnyH_take (i := 5) (v := ?_) rfl (by kernel_rfl) (by kernel_rfl) (by kernel_rfl) (fun _ _ _ h => h) (Or.inl ⟨by rfl, ?_⟩) (by assumption) ?_
  rotate_left
  · (intro W2 hSw; go_simp; (try with_reducible rfl))
  try simp only [Act.put, List.getElem_toArray, List.getElem_cons_succ, List.getElem_cons_zero, List.setIfInBounds_toArray, List.set_cons_zero, List.set_cons_succ]
  refine wpAnyH_take (i := 6) (v := ?_) rfl (by kernel_rfl) (by kernel_rfl) (by kernel_rfl) (fun _ _ _ h => h) (Or.inl ⟨by rfl, ?_⟩) (by assumption) ?_
  rotate_left
  · (intro W2 hSw; (try dsimp only at hSw); have q0 : _ = some (.bool false : Value) := hSw.1.cell 0; have q1 : _ = some (.int .i64 s1 : Value) := hSw.1.cell 1; have q2 : _ = some (.bool g1 : Value) := hSw.1.cell 2; have q3 : _ = some (.slice A1 n1 c1 : Value) := hSw.1.cell 3; have q4 : _ = some (.slice B1 m1 d1 : Value) := hSw.1.cell 4; have q5 : _ = some (.int .i64 s2 : Value) := hSw.1.cell 5; have q6 : _ = some (.bool g2 : Value) := hSw.1.cell 6; have q7 : _ = some (.slice A2 n2 c2 : Value) := hSw.1.cell 7; have q8 : _ = some (.slice B2 m2 d2 : Value) := hSw.1.cell 8; go_simp; (try with_reducible rfl))
  try simp only [Act.put, List.getElem_toArray, List.getElem_cons_succ, List.getElem_cons_zero, List.setIfInBounds_toArray, List.set_cons_zero, List.set_cons_succ]
  refine wpAnyH_take (i := 7) (v := ?_) rfl (by kernel_rfl) (by kernel_rfl) (by kernel_rfl) (fun _ _ _ h => h) (Or.inl ⟨by rfl, ?_⟩) (by assumption) ?_
  rotate_left
  · (intro W2 hSw; go_simp; (try with_reducible rfl))
  try simp only [Act.put, List.getElem_toArray, List.getElem_cons_succ, List.getElem_cons_zero, List.setIfInBounds_toArray, List.set_cons_zero, List.set_cons_succ]
  refine wpAnyH_take (i := 8) (v := ?_) rfl (by kernel_rfl) (by kernel_rfl) (by kernel_rfl) (fun _ _ _ h => h) (Or.inl ⟨by rfl, ?_⟩) (by assumption) ?_
  rotate_left
  · (intro W2 hSw; (try dsimp only at hSw); have q0 : _ = some (.bool false : Value) := hSw.2.1.cell 0; have q1 : _ = some (.int .i64 s3 : Value) := hSw.2.1.cell 1; have q2 : _ = some (.bool g3 : Value) := hSw.2.1.cell 2; have q3 : _ = some (.slice A3 n3 c3 : Value) := hSw.2.1.cell 3; have q4 : _ = some (.slice B3 m3 d3 : Value) := hSw.2.1.cell 4; have q5 : _ = some (.int .i64 s4 : Value) := hSw.2.1.cell 5; have q6 : _ = some (.bool g4 : Value) := hSw.2.1.cell 6; have q7 : _ = some (.slice A4 n4 c4 : Value) := hSw.2.1.cell 7; have q8 : _ = some (.slice B4 m4 d4 : Value) := hSw.2.1.cell 8; go_simp; (try with_reducible rfl))
  try simp only [Act.put, List.getElem_toArray, List.getElem_cons_succ, List.getElem_cons_zero, List.setIfInBounds_toArray, List.set_cons_zero, List.set_cons_succ]
  refine wpAnyH_ready (rs := [4]) (by kernel_rfl) (by simp) ?_
  refine AllReadyH.cons rfl (fun KK hKK => ?_) AllReadyH.nil
  go_simp
  refine (T1.out _ ?_).mono ?_; exact hHeld.2.2.2
  rintro e w5 ⟨g5, A5, n5, c5, B5, m5, d5, rfl, h5, hb5⟩
  go_wp2_with fail
  refine hKK.out _ _ (⟨hHeld.1.keep hb5, hHeld.2.1.keep hb5, hHeld.2.2.1.keep hb5, hHeld.2.2.2.trans (hb5.mono hHeld.2.2.2.size)⟩) (fun _ => ?_)
  clear hKK KK hHeld; rename_i hHeld
  try simp only [Act.put, List.getElem_toArray, List.getElem_cons_succ, List.getElem_cons_zero, List.setIfInBounds_toArray, List.set_cons_zero, List.set_cons_succ]
  refine wpAnyH_ready (rs := [9]) (by kernel_rfl) (by simp) ?_
  refine AllReadyH.cons rfl (fun KK hKK => ?_) AllReadyH.nil
  go_simp
  refine (T2.out _ ?_).mono ?_; exact hHeld.2.2.2
  rintro e w6 ⟨g6, A6, n6, c6, B6, m6, d6, rfl, h6, hb6⟩
  go_wp2_with fail
  refine hKK.out _ _ (⟨hHeld.1.keep hb6, hHeld.2.1.keep hb6, hHeld.2.2.1.keep hb6, hHeld.2.2.2.trans (hb6.mono hHeld.2.2.2.size)⟩) (fun _ => ?_)
  clear hKK KK hHeld; rename_i hHeld
  try simp only [Act.put, List.getElem_toArray, List.getElem_cons_succ, List.getElem_cons_zero, List.setIfInBounds_toArray, List.set_cons_zero, List.set_cons_succ]
  refine wpAnyH_take (i := 10) (v := ?_) rfl (by kernel_rfl) (by kernel_rfl) (by kernel_rfl) (fun _ _ _ h => h) (Or.inl ⟨by rfl, ?_⟩) (by assumption) ?_
  rotate_left
  · (intro W2 hSw; go_simp; (try with_reducible rfl))
  try simp only [Act.put, List.getElem_toArray, List.getElem_cons_succ, List.getElem_cons_zero, List.setIfInBounds_toArray, List.set_cons_zero, List.set_cons_succ]
  refine wpAnyH_ready (rs := [11]) (by kernel_rfl) (by simp) ?_
  refine AllReadyH.cons rfl (fun KK hKK => ?_) AllReadyH.nil
  have ha0 := hHeld.2.2.1.someCell 0 (by decide); have hf0 := hHeld.2.2.1.frozen 0; have ha1 := hHeld.2.2.1.someCell 1 (by decide); have hf1 := hHeld.2.2.1.frozen 1; have ha2 := hHeld.2.2.1.someCell 2 (by decide); have hf2 := hHeld.2.2.1.frozen 2; have ha3 := hHeld.2.2.1.someCell 3 (by decide); have hf3 := hHeld.2.2.1.frozen 3; have ha4 := hHeld.2.2.1.someCell 4 (by decide); have hf4 := hHeld.2.2.1.frozen 4; have ha5 := hHeld.2.2.1.someCell 5 (by decide); have hf5 := hHeld.2.2.1.frozen 5; have ha6 := hHeld.2.2.1.someCell 6 (by decide); have hf6 := hHeld.2.2.1.frozen 6; have ha7 := hHeld.2.2.1.someCell 7 (by decide); have hf7 := hHeld.2.2.1.frozen 7; have ha8 := hHeld.2.2.1.someCell 8 (by decide); have hf8 := hHeld.2.2.1.frozen 8; have HK := Lib.hid (hHeld.2.2.1.setCell [.bool false, .int .i64 s5, .bool g5, .slice A5 n5 c5, .slice B5 m5 d5, .int .i64 s6, .bool g6, .slice A6 n6 c6, .slice B6 m6 d6] rfl); have F := Lib.hid (below_sets (w0 := w) (r := (w.heap.size + 2)) (by omega) [.bool false, .int .i64 s5, .bool g5, .slice A5 n5 c5, .slice B5 m5 d5, .int .i64 s6, .bool g6, .slice A6 n6 c6, .slice B6 m6 d6] 0 _ hHeld.2.2.2); have FR1 := Lib.hid (hHeld.2.2.1.rat (h5.below hb6) [.bool false, .int .i64 s5, .bool g5, .slice A5 n5 c5, .slice B5 m5 d5, .int .i64 s6, .bool g6, .slice A6 n6 c6, .slice B6 m6 d6]); have FR2 := Lib.hid (hHeld.2.2.1.rat h6 [.bool false, .int .i64 s5, .bool g5, .slice A5 n5 c5, .slice B5 m5 d5, .int .i64 s6, .bool g6, .slice A6 n6 c6, .slice B6 m6 d6])
  go_simp
  refine hKK.out _ _ (⟨hHeld.1.other (by omega) 0 [.bool false, .int .i64 s5, .bool g5, .slice A5 n5 c5, .slice B5 m5 d5, .int .i64 s6, .bool g6, .slice A6 n6 c6, .slice B6 m6 d6], hHeld.2.1.other (by omega) 0 [.bool false, .int .i64 s5, .bool g5, .slice A5 n5 c5, .slice B5 m5 d5, .int .i64 s6, .bool g6, .slice A6 n6 c6, .slice B6 m6 d6], hHeld.2.2.1.sets [.bool false, .int .i64 s5, .bool g5, .slice A5 n5 c5, .slice B5 m5 d5, .int .i64 s6, .bool g6, .slice A6 n6 c6, .slice B6 m6 d6] rfl rfl, below_sets (by omega) [.bool false, .int .i64 s5, .bool g5, .slice A5 n5 c5, .slice B5 m5 d5, .int .i64 s6, .bool g6, .slice A6 n6 c6, .slice B6 m6 d6] 0 _ hHeld.2.2.2⟩) (fun _ => ?_)
  clear hKK KK hHeld; rename_i hHeld
  try simp only [Act.put, List.getElem_toArray, List.getElem_cons_succ, List.getElem_cons_zero, List.setIfInBounds_toArray, List.set_cons_zero, List.set_cons_succ]
  refine wpAnyH_done (by kernel_rfl) ?_ _
  have hk0 := HK.out 0 (by decide)
  have hk1 := HK.out 1 (by decide)
  have hk2 := HK.out 2 (by decide)
  have hk3 := HK.out 3 (by decide)
  have hk4 := HK.out 4 (by decide)
  have hk5 := HK.out 5 (by decide)
  have hk6 := HK.out 6 (by decide)
  have hk7 := HK.out 7 (by decide)
  have hk8 := HK.out 8 (by decide)
  simp [sets] at hk0 hk1 hk2 hk3 hk4 hk5 hk6 hk7 hk8
  clear hHeld HK h5 hb5 h6 hb6
  clear LB0 LR0 LG0_0 LG1_0
  go_wp2
  refine bodyPost_ret (v := .agg #[.bool false, .int .i64 s5, .bool g5, .slice A5 n5 c5, .slice B5 m5 d5, .int .i64 s6, .bool g6, .slice A6 n6 c6, .slice B6 m6 d6]) (by simp [results, Tryz.results122, go_sem, hk0, hk1, hk2, hk3, hk4, hk5, hk6, hk7, hk8]) rfl ?_
  exact ⟨_, _, _, _, _, _, _, _, _, _, _, _, _, _, rfl, FR1.out, FR2.out, F.out⟩

end Go.Proofs.YtmjkmoahkanblaaGreat
