/-
Walks: package vergeref6, intervals as sets.
Walks: package vergeref6, sets: negatives, hulls.
Walks: package vergeref10, bounds and pieces.
-/
import Derived.Test.YtmjkmoahkanblaaGreatM03
import Derived.Test.YtmjkmoahkanblaaGreatM05
set_option linter.unusedSimpArgs false
set_option linter.unusedVariables false
set_option maxHeartbeats 12800000

namespace Go.Proofs.YtmjkmoahkanblaaGreat
open Go.RowKit
theorem pat_ne_max {i : Int} (h0 : -(M : Int) ≤ i) (h1 : i < M) : ((pat i : Int) == 9218868437227405312) = false := by
  rw [beq_eq_false_iff_ne]
  intro h
  have := pat_inj h0 (by omega) (show -(M : Int) ≤ (M : Int) by rw [M_val]; omega) (Int.le_refl _) (by rw [pat_max]; omega)
  omega
theorem of_none (x y : Nat) (w : World) (hx : x < 18446744073709551616) (hy : y < 18446744073709551616) (h : snd x y = false) :
    Calls Tryz.prog 57 #[.agg #[.int .u64 (x : Int), .int .u64 (y : Int)]] w (NewSet w 1 true 0 0 0 0) := by
  have h1 : rd x y = ((M : Int), -(M : Int)) := by unfold rd; rw [h]; rfl
  have HR := Lib.hid fun W => read6 x y W hx hy
  rw [h1] at HR
  simp only [pat_max, pat_min] at HR
  have HE := Lib.hid empty6
  have HF := Lib.hid fun W => finite_nat 0 W (by omega)
  clear h h1
  obtain ⟨LB0, LG0_0, LR⟩ := bx2 w #[.int .u64 (x : Int), .int .u64 (y : Int)] 24 #[.bool false, .int .i64 0, .bool false, .slice none 0 0, .slice none 0 0, .int .i64 0, .bool false, .slice none 0 0, .slice none 0 0] 69
  have LR0 := Lib.hid (HasBlk.of (n := 9) LR.out rfl rfl)
  clear LR
  go_enter Tryz.func57, Tryz.ntmps57
  go_wp2_with fail
  refine (HR.out _).mono ?_
  rintro e w1 ⟨rfl, hb1⟩
  have LB1 := stB LB0 hb1 LB0.out.size
  have LR1 := stR LR0 hb1
  have LG0_1 := stG LG0_0 hb1
  clear LB0 LR0 LG0_0
  have hlt2 := LR1.out.lt
  have LB2 := Lib.hid (LB1.out.alloc LB1.out.size (.cells #[.int .u64 9218868437227405312, .int .u64 18442240474082181120] 24))
  have LR2 := Lib.hid (LR1.out.alloc (.cells #[.int .u64 9218868437227405312, .int .u64 18442240474082181120] 24))
  have LG0_2 := Lib.hid (LG0_1.out.alloc (.cells #[.int .u64 9218868437227405312, .int .u64 18442240474082181120] 24))
  have LG1_2 := Lib.hid (Blk.new w1 24 #[.int .u64 9218868437227405312, .int .u64 18442240474082181120])
  clear LB1 LR1 LG0_1
  go_wp2_with fail
  refine wp_region_held_drew (S := fun W' => Blk W' w.heap.size 24 #[.int .u64 (x : Int), .int .u64 (y : Int)] ∧ Blk W' w1.heap.size 24 #[.int .u64 9218868437227405312, .int .u64 18442240474082181120] ∧ HasBlk W' (w.heap.size + 1) 69 9 ∧ Below w.heap.size w W') (by kernel_rfl) (by exact ⟨LG0_2.out.drew, LG1_2.out.drew, LR2.out.drew, LB2.out.drew⟩) (fun hHeld => ?_)
  refine tk 0 ?_ (hv := by intro W2 hSw; obtain ⟨q0, q1⟩ := hSw.2.1.c2; go_simp; (try with_reducible rfl))
  try simp only [Act.put, lay]
  refine rdy 1 (fun KK hKK => ?_)
  go_simp
  refine (HE.out _).mono ?_
  rintro e w2 ⟨rfl, hb2⟩
  go_wp2_with fail
  refine hKK.out _ _ (⟨hHeld.1.keep hb2, hHeld.2.1.keep hb2, hHeld.2.2.1.keep hb2, hHeld.2.2.2.trans (hb2.mono hHeld.2.2.2.size)⟩) (fun _ => ?_)
  clear hKK KK hHeld; rename_i hHeld
  try simp only [Act.put, lay]
  refine tk 2 ?_
  try simp only [Act.put, lay]
  refine wpAnyH_done (by kernel_rfl) ?_ _
  have LB3 := Lib.hid hHeld.2.2.2
  have LR3 := Lib.hid hHeld.2.2.1
  have LG0_3 := Lib.hid hHeld.1
  have LG1_3 := Lib.hid hHeld.2.1
  clear hHeld LB2 LR2 LG0_2 LG1_2
  go_wp2_with fail
  refine (HF.out _).mono ?_
  rintro e w3 ⟨g1, A1, n1, c1, B1, m1, d1, rfl, h1, hb1⟩
  have LB4 := stB LB3 hb1 LB3.out.size
  have LR4 := stR LR3 hb1
  have LG0_4 := stG LG0_3 hb1
  have LG1_4 := stG LG1_3 hb1
  clear LB3 LR3 LG0_3 LG1_3
  go_wp2_with fail
  refine (HF.out _).mono ?_
  rintro e w4 ⟨g2, A2, n2, c2, B2, m2, d2, rfl, h2, hb2⟩
  have LB5 := stB LB4 hb2 LB4.out.size
  have LR5 := stR LR4 hb2
  have LG0_5 := stG LG0_4 hb2
  have LG1_5 := stG LG1_4 hb2
  clear LB4 LR4 LG0_4 LG1_4
  obtain ⟨ha0, hf0, ha1, hf1, ha2, hf2, ha3, hf3, ha4, hf4, ha5, hf5, ha6, hf6, ha7, hf7, ha8, hf8⟩ := LR5.out.sf9
  obtain ⟨hk0, hk1, hk2, hk3, hk4, hk5, hk6, hk7, hk8⟩ := LR5.out.sc9 (.bool true) (.int .i64 0) (.bool g1) (.slice A1 n1 c1) (.slice B1 m1 d1) (.int .i64 0) (.bool g2) (.slice A2 n2 c2) (.slice B2 m2 d2)
  have F := Lib.hid (below_sets (w0 := w) (r := (w.heap.size + 1)) (by omega) [.bool true, .int .i64 0, .bool g1, .slice A1 n1 c1, .slice B1 m1 d1, .int .i64 0, .bool g2, .slice A2 n2 c2, .slice B2 m2 d2] 0 _ LB5.out)
  simp [sets] at hk0 hk1 hk2 hk3 hk4 hk5 hk6 hk7 hk8
  have FR1 := Lib.hid (LR5.out.rat (h1.below hb2) [.bool true, .int .i64 0, .bool g1, .slice A1 n1 c1, .slice B1 m1 d1, .int .i64 0, .bool g2, .slice A2 n2 c2, .slice B2 m2 d2])
  have FR2 := Lib.hid (LR5.out.rat h2 [.bool true, .int .i64 0, .bool g1, .slice A1 n1 c1, .slice B1 m1 d1, .int .i64 0, .bool g2, .slice A2 n2 c2, .slice B2 m2 d2])
  clear hb1 hb2 h1 h2 LR5 LB5 LG0_5 LG1_5
  go_wp2
  refine bodyPost_ret (v := .agg #[.bool true, .int .i64 0, .bool g1, .slice A1 n1 c1, .slice B1 m1 d1, .int .i64 0, .bool g2, .slice A2 n2 c2, .slice B2 m2 d2]) (by simp [results, Tryz.results57, go_sem, hk0, hk1, hk2, hk3, hk4, hk5, hk6, hk7, hk8]) rfl ?_
  exact ⟨_, _, _, _, _, _, _, _, _, _, _, _, _, _, rfl, FR1.out, FR2.out, F.out⟩
theorem of_full (x y : Nat) (w : World) (hx : x < 18446744073709551616) (hy : y < 18446744073709551616) (h : snd x y = true) :
    Calls Tryz.prog 57 #[.agg #[.int .u64 (x : Int), .int .u64 (y : Int)]] w (NewSet w 34 false (es (idx x)) (ex (idx x)) (es (idx y)) (ex (idx y))) := by
  have h1 : rd x y = (idx x, idx y) := by unfold rd; rw [h]; rfl
  have hd := of_decide_eq_true h
  have hi := idx_bounds hd.1
  have hj := idx_bounds hd.2.1
  have HR := Lib.hid fun W => read6 x y W hx hy
  rw [h1] at HR
  have H1 := Lib.hid fun W => bound_raw (pat (idx x)) W (pat_lt hi.1 hi.2) (by rw [rung_pat hi.1 hi.2]; omega)
  have H2 := Lib.hid fun W => bound_raw (pat (idx y)) W (pat_lt hj.1 hj.2) (by rw [rung_pat hj.1 hj.2]; omega)
  rw [idx_pat hi.1 hi.2] at H1
  rw [idx_pat hj.1 hj.2] at H2
  have hp := pat_ne_max hi.1 hd.2.2.2.1
  dsimp only at HR
  obtain ⟨p, hpp⟩ : ∃ p, pat (idx x) = p := ⟨_, rfl⟩
  obtain ⟨q, hqq⟩ : ∃ q, pat (idx y) = q := ⟨_, rfl⟩
  obtain ⟨s1, e1⟩ : ∃ s, es (idx x) = s := ⟨_, rfl⟩
  obtain ⟨x1, e2⟩ : ∃ s, ex (idx x) = s := ⟨_, rfl⟩
  obtain ⟨s2, e3⟩ : ∃ s, es (idx y) = s := ⟨_, rfl⟩
  obtain ⟨x2, e4⟩ : ∃ s, ex (idx y) = s := ⟨_, rfl⟩
  rw [hpp] at HR H1 hp
  rw [hqq] at HR H2
  rw [e1, e2] at H1 ⊢
  rw [e3, e4] at H2 ⊢
  have HE := Lib.hid empty6
  clear h h1 hd hi hj hpp hqq e1 e2 e3 e4
  obtain ⟨LB0, LG0_0, LR⟩ := bx2 w #[.int .u64 (x : Int), .int .u64 (y : Int)] 24 #[.bool false, .int .i64 0, .bool false, .slice none 0 0, .slice none 0 0, .int .i64 0, .bool false, .slice none 0 0, .slice none 0 0] 69
  have LR0 := Lib.hid (HasBlk.of (n := 9) LR.out rfl rfl)
  clear LR
  go_enter Tryz.func57, Tryz.ntmps57
  go_wp2_with fail
  refine (HR.out _).mono ?_
  rintro e w1 ⟨rfl, hb1⟩
  have LB1 := stB LB0 hb1 LB0.out.size
  have LR1 := stR LR0 hb1
  have LG0_1 := stG LG0_0 hb1
  clear LB0 LR0 LG0_0
  have hlt2 := LR1.out.lt
  have LB2 := Lib.hid (LB1.out.alloc LB1.out.size (.cells #[.int .u64 (p : Int), .int .u64 (q : Int)] 24))
  have LR2 := Lib.hid (LR1.out.alloc (.cells #[.int .u64 (p : Int), .int .u64 (q : Int)] 24))
  have LG0_2 := Lib.hid (LG0_1.out.alloc (.cells #[.int .u64 (p : Int), .int .u64 (q : Int)] 24))
  have LG1_2 := Lib.hid (Blk.new w1 24 #[.int .u64 (p : Int), .int .u64 (q : Int)])
  clear LB1 LR1 LG0_1
  go_wp2_with fail
  refine wp_region_held_drew (S := fun W' => Blk W' w.heap.size 24 #[.int .u64 (x : Int), .int .u64 (y : Int)] ∧ Blk W' w1.heap.size 24 #[.int .u64 (p : Int), .int .u64 (q : Int)] ∧ HasBlk W' (w.heap.size + 1) 69 9 ∧ Below w.heap.size w W') (by kernel_rfl) (by exact ⟨LG0_2.out.drew, LG1_2.out.drew, LR2.out.drew, LB2.out.drew⟩) (fun hHeld => ?_)
  refine tk 0 ?_ (hv := by intro W2 hSw; obtain ⟨q0, q1⟩ := hSw.2.1.c2; go_simp; (try with_reducible rfl))
  try simp only [Act.put, lay]
  refine rdy 1 (fun KK hKK => ?_)
  go_simp
  refine (HE.out _).mono ?_
  rintro e w2 ⟨rfl, hb2⟩
  go_wp2_with fail
  refine hKK.out _ _ (⟨hHeld.1.keep hb2, hHeld.2.1.keep hb2, hHeld.2.2.1.keep hb2, hHeld.2.2.2.trans (hb2.mono hHeld.2.2.2.size)⟩) (fun _ => ?_)
  clear hKK KK hHeld; rename_i hHeld
  try simp only [Act.put, lay]
  refine tk 2 ?_
  try simp only [Act.put, lay]
  refine wpAnyH_done (by kernel_rfl) ?_ _
  have LB3 := Lib.hid hHeld.2.2.2
  have LR3 := Lib.hid hHeld.2.2.1
  have LG0_3 := Lib.hid hHeld.1
  have LG1_3 := Lib.hid hHeld.2.1
  clear hHeld LB2 LR2 LG0_2 LG1_2
  go_wp2_with fail
  refine wp_region_held_drew (S := fun W' => Blk W' w.heap.size 24 #[.int .u64 (x : Int), .int .u64 (y : Int)] ∧ Blk W' w1.heap.size 24 #[.int .u64 (p : Int), .int .u64 (q : Int)] ∧ HasBlk W' (w.heap.size + 1) 69 9 ∧ Below w.heap.size w W') (by kernel_rfl) (by exact ⟨LG0_3.out.drew, LG1_3.out.drew, LR3.out.drew, LB3.out.drew⟩) (fun hHeld => ?_)
  refine tk 0 ?_
  try simp only [Act.put, lay]
  refine tk 1 ?_ (hv := by intro W2 hSw; obtain ⟨q0, q1⟩ := hSw.2.1.c2; go_simp; (try with_reducible rfl))
  try simp only [Act.put, lay]
  refine tk 3 ?_
  try simp only [Act.put, lay]
  refine tk 4 ?_ (hv := by intro W2 hSw; obtain ⟨q0, q1⟩ := hSw.2.1.c2; go_simp; (try with_reducible rfl))
  try simp only [Act.put, lay]
  refine rdy 2 (fun KK hKK => ?_)
  go_simp
  refine (H1.out _).mono ?_
  rintro e w3 ⟨g1, A1, n1, c1, B1, m1, d1, rfl, h1, hb1⟩
  go_wp2_with fail
  refine hKK.out _ _ (⟨hHeld.1.keep hb1, hHeld.2.1.keep hb1, hHeld.2.2.1.keep hb1, hHeld.2.2.2.trans (hb1.mono hHeld.2.2.2.size)⟩) (fun _ => ?_)
  clear hKK KK hHeld; rename_i hHeld
  try simp only [Act.put, lay]
  refine rdy 5 (fun KK hKK => ?_)
  go_simp
  refine (H2.out _).mono ?_
  rintro e w4 ⟨g2, A2, n2, c2, B2, m2, d2, rfl, h2, hb2⟩
  go_wp2_with fail
  refine hKK.out _ _ (⟨hHeld.1.keep hb2, hHeld.2.1.keep hb2, hHeld.2.2.1.keep hb2, hHeld.2.2.2.trans (hb2.mono hHeld.2.2.2.size)⟩) (fun _ => ?_)
  clear hKK KK hHeld; rename_i hHeld
  try simp only [Act.put, lay]
  refine tk 6 ?_
  try simp only [Act.put, lay]
  refine rdy 7 (fun KK hKK => ?_)
  have ha0 := hHeld.2.2.1.someCell 0 (by decide); have hf0 := hHeld.2.2.1.frozen 0; have ha1 := hHeld.2.2.1.someCell 1 (by decide); have hf1 := hHeld.2.2.1.frozen 1; have ha2 := hHeld.2.2.1.someCell 2 (by decide); have hf2 := hHeld.2.2.1.frozen 2; have ha3 := hHeld.2.2.1.someCell 3 (by decide); have hf3 := hHeld.2.2.1.frozen 3; have ha4 := hHeld.2.2.1.someCell 4 (by decide); have hf4 := hHeld.2.2.1.frozen 4; have ha5 := hHeld.2.2.1.someCell 5 (by decide); have hf5 := hHeld.2.2.1.frozen 5; have ha6 := hHeld.2.2.1.someCell 6 (by decide); have hf6 := hHeld.2.2.1.frozen 6; have ha7 := hHeld.2.2.1.someCell 7 (by decide); have hf7 := hHeld.2.2.1.frozen 7; have ha8 := hHeld.2.2.1.someCell 8 (by decide); have hf8 := hHeld.2.2.1.frozen 8; have HK := Lib.hid (hHeld.2.2.1.setCell [.bool false, .int .i64 s1, .bool g1, .slice A1 n1 c1, .slice B1 m1 d1, .int .i64 s2, .bool g2, .slice A2 n2 c2, .slice B2 m2 d2] rfl); have F := Lib.hid (below_sets (w0 := w) (r := (w.heap.size + 1)) (by omega) [.bool false, .int .i64 s1, .bool g1, .slice A1 n1 c1, .slice B1 m1 d1, .int .i64 s2, .bool g2, .slice A2 n2 c2, .slice B2 m2 d2] 0 _ hHeld.2.2.2); have FR1 := Lib.hid (hHeld.2.2.1.rat (h1.below hb2) [.bool false, .int .i64 s1, .bool g1, .slice A1 n1 c1, .slice B1 m1 d1, .int .i64 s2, .bool g2, .slice A2 n2 c2, .slice B2 m2 d2]); have FR2 := Lib.hid (hHeld.2.2.1.rat h2 [.bool false, .int .i64 s1, .bool g1, .slice A1 n1 c1, .slice B1 m1 d1, .int .i64 s2, .bool g2, .slice A2 n2 c2, .slice B2 m2 d2])
  go_simp
  refine hKK.out _ _ (⟨hHeld.1.other (by omega) 0 [.bool false, .int .i64 s1, .bool g1, .slice A1 n1 c1, .slice B1 m1 d1, .int .i64 s2, .bool g2, .slice A2 n2 c2, .slice B2 m2 d2], hHeld.2.1.other (by omega) 0 [.bool false, .int .i64 s1, .bool g1, .slice A1 n1 c1, .slice B1 m1 d1, .int .i64 s2, .bool g2, .slice A2 n2 c2, .slice B2 m2 d2], hHeld.2.2.1.sets [.bool false, .int .i64 s1, .bool g1, .slice A1 n1 c1, .slice B1 m1 d1, .int .i64 s2, .bool g2, .slice A2 n2 c2, .slice B2 m2 d2] rfl rfl, below_sets (by omega) [.bool false, .int .i64 s1, .bool g1, .slice A1 n1 c1, .slice B1 m1 d1, .int .i64 s2, .bool g2, .slice A2 n2 c2, .slice B2 m2 d2] 0 _ hHeld.2.2.2⟩) (fun _ => ?_)
  clear hKK KK hHeld; rename_i hHeld
  try simp only [Act.put, lay]
  refine wpAnyH_done (by kernel_rfl) ?_ _
  have hk0 := HK.out 0 (by decide)
  have hk1 := HK.out 1 (by decide)
  have hk2 := HK.out 2 (by decide)
  have hk3 := HK.out 3 (by decide)
  have hk4 := HK.out 4 (by decide)
  have hk5 := HK.out 5 (by decide)
  have hk6 := HK.out 6 (by decide)
  have hk7 := HK.out 7 (by decide)
  have hk8 := HK.out 8 (by decide)
  simp [sets] at hk0 hk1 hk2 hk3 hk4 hk5 hk6 hk7 hk8
  clear hHeld HK
  go_wp2
  refine bodyPost_ret (v := .agg #[.bool false, .int .i64 s1, .bool g1, .slice A1 n1 c1, .slice B1 m1 d1, .int .i64 s2, .bool g2, .slice A2 n2 c2, .slice B2 m2 d2]) (by simp [results, Tryz.results57, go_sem, hk0, hk1, hk2, hk3, hk4, hk5, hk6, hk7, hk8]) rfl ?_
  exact ⟨_, _, _, _, _, _, _, _, _, _, _, _, _, _, rfl, FR1.out, FR2.out, F.out⟩
end Go.Proofs.YtmjkmoahkanblaaGreat

namespace Go.Proofs.YtmjkmoahkanblaaGreat
open Go.RowKit
theorem minus_none (K : Nat) (s1 : Int) (g1 : Bool) (A1 : Option Addr) (n1 c1 : Nat) (B1 : Option Addr) (m1 d1 : Nat) (x1 : Rat) (s2 : Int) (g2 : Bool) (A2 : Option Addr) (n2 c2 : Nat) (B2 : Option Addr) (m2 d2 : Nat) (x2 : Rat) (w : World) (h1 : RatV w K g1 (.slice A1 n1 c1) (.slice B1 m1 d1) x1) (h2 : RatV w K g2 (.slice A2 n2 c2) (.slice B2 m2 d2) x2) :
    Calls Tryz.prog 58 #[.agg #[.bool true, .int .i64 s1, .bool g1, .slice A1 n1 c1, .slice B1 m1 d1, .int .i64 s2, .bool g2, .slice A2 n2 c2, .slice B2 m2 d2]] w (NewSet w K true s1 x1 s2 x2) := by
  have H1 := Lib.hid h1
  have H2 := Lib.hid h2
  clear h1 h2
  obtain ⟨LB0, LG0_0, LR⟩ := bx2 w #[.bool true, .int .i64 s1, .bool g1, .slice A1 n1 c1, .slice B1 m1 d1, .int .i64 s2, .bool g2, .slice A2 n2 c2, .slice B2 m2 d2] 69 #[.bool false, .int .i64 0, .bool false, .slice none 0 0, .slice none 0 0, .int .i64 0, .bool false, .slice none 0 0, .slice none 0 0] 69
  have LR0 := Lib.hid (HasBlk.of (n := 9) LR.out rfl rfl)
  clear LR
  have ba := LB0.out
  clear LB0 LG0_0 LR0 ba
  go_enter Tryz.func58, Tryz.ntmps58
  go_wp2
  refine bodyPost_ret (v := .agg #[.bool true, .int .i64 s1, .bool g1, .slice A1 n1 c1, .slice B1 m1 d1, .int .i64 s2, .bool g2, .slice A2 n2 c2, .slice B2 m2 d2]) (by simp [results, Tryz.results58, go_sem]) rfl ?_
  exact have b := ((below_alloc w _).alloc (by simp <;> omega) _); ⟨_, _, _, _, _, _, _, _, _, _, _, _, _, _, rfl, H1.out.below b, H2.out.below b, b⟩
theorem minus_some (K : Nat) (s1 : Int) (g1 : Bool) (A1 : Option Addr) (n1 c1 : Nat) (B1 : Option Addr) (m1 d1 : Nat) (x1 : Rat) (s2 : Int) (g2 : Bool) (A2 : Option Addr) (n2 c2 : Nat) (B2 : Option Addr) (m2 d2 : Nat) (x2 : Rat) (w : World) (h1 : RatV w K g1 (.slice A1 n1 c1) (.slice B1 m1 d1) x1) (h2 : RatV w K g2 (.slice A2 n2 c2) (.slice B2 m2 d2) x2) (hK : K ≤ 1073741824) (hs : -1 ≤ s1 ∧ s1 ≤ 1) (ht : -1 ≤ s2 ∧ s2 ≤ 1) :
    Calls Tryz.prog 58 #[.agg #[.bool false, .int .i64 s1, .bool g1, .slice A1 n1 c1, .slice B1 m1 d1, .int .i64 s2, .bool g2, .slice A2 n2 c2, .slice B2 m2 d2]] w (NewSet w K false (-s2) (-x2) (-s1) (-x1)) := by
  have T1 := Lib.hid fun W (hW : Below w.heap.size w W) => turned_any K s1 g1 A1 n1 c1 B1 m1 d1 x1 W (h1.below hW) hK hs
  have T2 := Lib.hid fun W (hW : Below w.heap.size w W) => turned_any K s2 g2 A2 n2 c2 B2 m2 d2 x2 W (h2.below hW) hK ht
  obtain ⟨s3, e3⟩ : ∃ s, -s2 = s := ⟨_, rfl⟩
  obtain ⟨s4, e4⟩ : ∃ s, -s1 = s := ⟨_, rfl⟩
  rw [e3] at T2 ⊢
  rw [e4] at T1 ⊢
  clear h1 h2 hs ht e3 e4
  obtain ⟨LB0, LG0_0, LR⟩ := bx2 w #[.bool false, .int .i64 s1, .bool g1, .slice A1 n1 c1, .slice B1 m1 d1, .int .i64 s2, .bool g2, .slice A2 n2 c2, .slice B2 m2 d2] 69 #[.bool false, .int .i64 0, .bool false, .slice none 0 0, .slice none 0 0, .int .i64 0, .bool false, .slice none 0 0, .slice none 0 0] 69
  have LR0 := Lib.hid (HasBlk.of (n := 9) LR.out rfl rfl)
  clear LR
  go_enter Tryz.func58, Tryz.ntmps58
  go_wp2_with fail
  refine wp_region_held_drew (S := fun W' => Blk W' w.heap.size 69 #[.bool false, .int .i64 s1, .bool g1, .slice A1 n1 c1, .slice B1 m1 d1, .int .i64 s2, .bool g2, .slice A2 n2 c2, .slice B2 m2 d2] ∧ HasBlk W' (w.heap.size + 1) 69 9 ∧ Below w.heap.size w W') (by kernel_rfl) (by exact ⟨LG0_0.out.drew, LR0.out.drew, LB0.out.drew⟩) (fun hHeld => ?_)
  refine tk 0 ?_
  try simp only [Act.put, lay]
  refine tk 1 ?_ (hv := by intro W2 hSw; obtain ⟨q0, q1, q2, q3, q4, q5, q6, q7, q8⟩ := hSw.1.c9; go_simp; (try with_reducible rfl))
  try simp only [Act.put, lay]
  refine tk 3 ?_
  try simp only [Act.put, lay]
  refine tk 4 ?_ (hv := by intro W2 hSw; obtain ⟨q0, q1, q2, q3, q4, q5, q6, q7, q8⟩ := hSw.1.c9; go_simp; (try with_reducible rfl))
  try simp only [Act.put, lay]
  refine rdy 2 (fun KK hKK => ?_)
  go_simp
  refine (T2.out _ ?_).mono ?_; exact hHeld.2.2
  rintro e w3 ⟨g3, A3, n3, c3, B3, m3, d3, rfl, h3, hb3⟩
  go_wp2_with fail
  refine hKK.out _ _ (⟨hHeld.1.keep hb3, hHeld.2.1.keep hb3, hHeld.2.2.trans (hb3.mono hHeld.2.2.size)⟩) (fun _ => ?_)
  clear hKK KK hHeld; rename_i hHeld
  try simp only [Act.put, lay]
  refine rdy 5 (fun KK hKK => ?_)
  go_simp
  refine (T1.out _ ?_).mono ?_; exact hHeld.2.2
  rintro e w4 ⟨g4, A4, n4, c4, B4, m4, d4, rfl, h4, hb4⟩
  go_wp2_with fail
  refine hKK.out _ _ (⟨hHeld.1.keep hb4, hHeld.2.1.keep hb4, hHeld.2.2.trans (hb4.mono hHeld.2.2.size)⟩) (fun _ => ?_)
  clear hKK KK hHeld; rename_i hHeld
  try simp only [Act.put, lay]
  refine tk 6 ?_
  try simp only [Act.put, lay]
  refine rdy 7 (fun KK hKK => ?_)
  have ha0 := hHeld.2.1.someCell 0 (by decide); have hf0 := hHeld.2.1.frozen 0; have ha1 := hHeld.2.1.someCell 1 (by decide); have hf1 := hHeld.2.1.frozen 1; have ha2 := hHeld.2.1.someCell 2 (by decide); have hf2 := hHeld.2.1.frozen 2; have ha3 := hHeld.2.1.someCell 3 (by decide); have hf3 := hHeld.2.1.frozen 3; have ha4 := hHeld.2.1.someCell 4 (by decide); have hf4 := hHeld.2.1.frozen 4; have ha5 := hHeld.2.1.someCell 5 (by decide); have hf5 := hHeld.2.1.frozen 5; have ha6 := hHeld.2.1.someCell 6 (by decide); have hf6 := hHeld.2.1.frozen 6; have ha7 := hHeld.2.1.someCell 7 (by decide); have hf7 := hHeld.2.1.frozen 7; have ha8 := hHeld.2.1.someCell 8 (by decide); have hf8 := hHeld.2.1.frozen 8; have HK := Lib.hid (hHeld.2.1.setCell [.bool false, .int .i64 s3, .bool g3, .slice A3 n3 c3, .slice B3 m3 d3, .int .i64 s4, .bool g4, .slice A4 n4 c4, .slice B4 m4 d4] rfl); have F := Lib.hid (below_sets (w0 := w) (r := (w.heap.size + 1)) (by omega) [.bool false, .int .i64 s3, .bool g3, .slice A3 n3 c3, .slice B3 m3 d3, .int .i64 s4, .bool g4, .slice A4 n4 c4, .slice B4 m4 d4] 0 _ hHeld.2.2); have FR1 := Lib.hid (hHeld.2.1.rat (h3.below hb4) [.bool false, .int .i64 s3, .bool g3, .slice A3 n3 c3, .slice B3 m3 d3, .int .i64 s4, .bool g4, .slice A4 n4 c4, .slice B4 m4 d4]); have FR2 := Lib.hid (hHeld.2.1.rat h4 [.bool false, .int .i64 s3, .bool g3, .slice A3 n3 c3, .slice B3 m3 d3, .int .i64 s4, .bool g4, .slice A4 n4 c4, .slice B4 m4 d4])
  go_simp
  refine hKK.out _ _ (⟨hHeld.1.other (by omega) 0 [.bool false, .int .i64 s3, .bool g3, .slice A3 n3 c3, .slice B3 m3 d3, .int .i64 s4, .bool g4, .slice A4 n4 c4, .slice B4 m4 d4], hHeld.2.1.sets [.bool false, .int .i64 s3, .bool g3, .slice A3 n3 c3, .slice B3 m3 d3, .int .i64 s4, .bool g4, .slice A4 n4 c4, .slice B4 m4 d4] rfl rfl, below_sets (by omega) [.bool false, .int .i64 s3, .bool g3, .slice A3 n3 c3, .slice B3 m3 d3, .int .i64 s4, .bool g4, .slice A4 n4 c4, .slice B4 m4 d4] 0 _ hHeld.2.2⟩) (fun _ => ?_)
  clear hKK KK hHeld; rename_i hHeld
  try simp only [Act.put, lay]
  refine wpAnyH_done (by kernel_rfl) ?_ _
  have hk0 := HK.out 0 (by decide)
  have hk1 := HK.out 1 (by decide)
  have hk2 := HK.out 2 (by decide)
  have hk3 := HK.out 3 (by decide)
  have hk4 := HK.out 4 (by decide)
  have hk5 := HK.out 5 (by decide)
  have hk6 := HK.out 6 (by decide)
  have hk7 := HK.out 7 (by decide)
  have hk8 := HK.out 8 (by decide)
  simp [sets] at hk0 hk1 hk2 hk3 hk4 hk5 hk6 hk7 hk8
  clear hHeld HK h3 hb3 h4 hb4
  clear LB0 LR0 LG0_0
  go_wp2
  refine bodyPost_ret (v := .agg #[.bool false, .int .i64 s3, .bool g3, .slice A3 n3 c3, .slice B3 m3 d3, .int .i64 s4, .bool g4, .slice A4 n4 c4, .slice B4 m4 d4]) (by simp [results, Tryz.results58, go_sem, hk0, hk1, hk2, hk3, hk4, hk5, hk6, hk7, hk8]) rfl ?_
  exact ⟨_, _, _, _, _, _, _, _, _, _, _, _, _, _, rfl, FR1.out, FR2.out, F.out⟩
theorem hull_left (K : Nat) (o : Bool) (s1 : Int) (g1 : Bool) (A1 : Option Addr) (n1 c1 : Nat) (B1 : Option Addr) (m1 d1 : Nat) (x1 : Rat) (s2 : Int) (g2 : Bool) (A2 : Option Addr) (n2 c2 : Nat) (B2 : Option Addr) (m2 d2 : Nat) (x2 : Rat) (s3 : Int) (g3 : Bool) (A3 : Option Addr) (n3 c3 : Nat) (B3 : Option Addr) (m3 d3 : Nat) (x3 : Rat) (s4 : Int) (g4 : Bool) (A4 : Option Addr) (n4 c4 : Nat) (B4 : Option Addr) (m4 d4 : Nat) (x4 : Rat) (w : World) (h1 : RatV w K g1 (.slice A1 n1 c1) (.slice B1 m1 d1) x1) (h2 : RatV w K g2 (.slice A2 n2 c2) (.slice B2 m2 d2) x2) (h3 : RatV w K g3 (.slice A3 n3 c3) (.slice B3 m3 d3) x3) (h4 : RatV w K g4 (.slice A4 n4 c4) (.slice B4 m4 d4) x4) :
    Calls Tryz.prog 122 #[.agg #[.bool true, .int .i64 s1, .bool g1, .slice A1 n1 c1, .slice B1 m1 d1, .int .i64 s2, .bool g2, .slice A2 n2 c2, .slice B2 m2 d2], .agg #[.bool o, .int .i64 s3, .bool g3, .slice A3 n3 c3, .slice B3 m3 d3, .int .i64 s4, .bool g4, .slice A4 n4 c4, .slice B4 m4 d4]] w (NewSet w K o s3 x3 s4 x4) := by
  have H1 := Lib.hid h3
  have H2 := Lib.hid h4
  clear h1 h2 h3 h4
  obtain ⟨LB0, LG0_0, LG1_0, LR⟩ := bx3 w #[.bool true, .int .i64 s1, .bool g1, .slice A1 n1 c1, .slice B1 m1 d1, .int .i64 s2, .bool g2, .slice A2 n2 c2, .slice B2 m2 d2] 69 #[.bool o, .int .i64 s3, .bool g3, .slice A3 n3 c3, .slice B3 m3 d3, .int .i64 s4, .bool g4, .slice A4 n4 c4, .slice B4 m4 d4] 69 #[.bool false, .int .i64 0, .bool false, .slice none 0 0, .slice none 0 0, .int .i64 0, .bool false, .slice none 0 0, .slice none 0 0] 69
  have LR0 := Lib.hid (HasBlk.of (n := 9) LR.out rfl rfl)
  clear LR
  clear LB0 LG0_0 LG1_0 LR0
  go_enter Tryz.func122, Tryz.ntmps122
  go_wp2
  refine bodyPost_ret (v := .agg #[.bool o, .int .i64 s3, .bool g3, .slice A3 n3 c3, .slice B3 m3 d3, .int .i64 s4, .bool g4, .slice A4 n4 c4, .slice B4 m4 d4]) (by simp [results, Tryz.results122, go_sem]) rfl ?_
  exact have b := (((below_alloc w _).alloc (by simp <;> omega) _).alloc (by simp <;> omega) _); ⟨_, _, _, _, _, _, _, _, _, _, _, _, _, _, rfl, H1.out.below b, H2.out.below b, b⟩
theorem hull_right (K : Nat) (s1 : Int) (g1 : Bool) (A1 : Option Addr) (n1 c1 : Nat) (B1 : Option Addr) (m1 d1 : Nat) (x1 : Rat) (s2 : Int) (g2 : Bool) (A2 : Option Addr) (n2 c2 : Nat) (B2 : Option Addr) (m2 d2 : Nat) (x2 : Rat) (s3 : Int) (g3 : Bool) (A3 : Option Addr) (n3 c3 : Nat) (B3 : Option Addr) (m3 d3 : Nat) (x3 : Rat) (s4 : Int) (g4 : Bool) (A4 : Option Addr) (n4 c4 : Nat) (B4 : Option Addr) (m4 d4 : Nat) (x4 : Rat) (w : World) (h1 : RatV w K g1 (.slice A1 n1 c1) (.slice B1 m1 d1) x1) (h2 : RatV w K g2 (.slice A2 n2 c2) (.slice B2 m2 d2) x2) (h3 : RatV w K g3 (.slice A3 n3 c3) (.slice B3 m3 d3) x3) (h4 : RatV w K g4 (.slice A4 n4 c4) (.slice B4 m4 d4) x4) :
    Calls Tryz.prog 122 #[.agg #[.bool false, .int .i64 s1, .bool g1, .slice A1 n1 c1, .slice B1 m1 d1, .int .i64 s2, .bool g2, .slice A2 n2 c2, .slice B2 m2 d2], .agg #[.bool true, .int .i64 s3, .bool g3, .slice A3 n3 c3, .slice B3 m3 d3, .int .i64 s4, .bool g4, .slice A4 n4 c4, .slice B4 m4 d4]] w (NewSet w K false s1 x1 s2 x2) := by
  have H1 := Lib.hid h1
  have H2 := Lib.hid h2
  clear h1 h2 h3 h4
  obtain ⟨LB0, LG0_0, LG1_0, LR⟩ := bx3 w #[.bool false, .int .i64 s1, .bool g1, .slice A1 n1 c1, .slice B1 m1 d1, .int .i64 s2, .bool g2, .slice A2 n2 c2, .slice B2 m2 d2] 69 #[.bool true, .int .i64 s3, .bool g3, .slice A3 n3 c3, .slice B3 m3 d3, .int .i64 s4, .bool g4, .slice A4 n4 c4, .slice B4 m4 d4] 69 #[.bool false, .int .i64 0, .bool false, .slice none 0 0, .slice none 0 0, .int .i64 0, .bool false, .slice none 0 0, .slice none 0 0] 69
  have LR0 := Lib.hid (HasBlk.of (n := 9) LR.out rfl rfl)
  clear LR
  clear LB0 LG0_0 LG1_0 LR0
  go_enter Tryz.func122, Tryz.ntmps122
  go_wp2
  refine bodyPost_ret (v := .agg #[.bool false, .int .i64 s1, .bool g1, .slice A1 n1 c1, .slice B1 m1 d1, .int .i64 s2, .bool g2, .slice A2 n2 c2, .slice B2 m2 d2]) (by simp [results, Tryz.results122, go_sem]) rfl ?_
  exact have b := (((below_alloc w _).alloc (by simp <;> omega) _).alloc (by simp <;> omega) _); ⟨_, _, _, _, _, _, _, _, _, _, _, _, _, _, rfl, H1.out.below b, H2.out.below b, b⟩
theorem hull_both (K : Nat) (s1 : Int) (g1 : Bool) (A1 : Option Addr) (n1 c1 : Nat) (B1 : Option Addr) (m1 d1 : Nat) (x1 : Rat) (s2 : Int) (g2 : Bool) (A2 : Option Addr) (n2 c2 : Nat) (B2 : Option Addr) (m2 d2 : Nat) (x2 : Rat) (s3 : Int) (g3 : Bool) (A3 : Option Addr) (n3 c3 : Nat) (B3 : Option Addr) (m3 d3 : Nat) (x3 : Rat) (s4 : Int) (g4 : Bool) (A4 : Option Addr) (n4 c4 : Nat) (B4 : Option Addr) (m4 d4 : Nat) (x4 : Rat) (w : World) (h1 : RatV w K g1 (.slice A1 n1 c1) (.slice B1 m1 d1) x1) (h2 : RatV w K g2 (.slice A2 n2 c2) (.slice B2 m2 d2) x2) (h3 : RatV w K g3 (.slice A3 n3 c3) (.slice B3 m3 d3) x3) (h4 : RatV w K g4 (.slice A4 n4 c4) (.slice B4 m4 d4) x4) (hK : K ≤ 1073741824) :
    Calls Tryz.prog 122 #[.agg #[.bool false, .int .i64 s1, .bool g1, .slice A1 n1 c1, .slice B1 m1 d1, .int .i64 s2, .bool g2, .slice A2 n2 c2, .slice B2 m2 d2], .agg #[.bool false, .int .i64 s3, .bool g3, .slice A3 n3 c3, .slice B3 m3 d3, .int .i64 s4, .bool g4, .slice A4 n4 c4, .slice B4 m4 d4]] w
      (NewSet w K false (if ec s3 x3 s1 x1 < 0 then s3 else s1) (if ec s3 x3 s1 x1 < 0 then x3 else x1) (if 0 < ec s4 x4 s2 x2 then s4 else s2) (if 0 < ec s4 x4 s2 x2 then x4 else x2)) := by
  have T1 := Lib.hid fun W (hW : Below w.heap.size w W) => lesser_any K s1 g1 A1 n1 c1 B1 m1 d1 x1 s3 g3 A3 n3 c3 B3 m3 d3 x3 W (h1.below hW) (h3.below hW) hK
  have T2 := Lib.hid fun W (hW : Below w.heap.size w W) => greater_any K s2 g2 A2 n2 c2 B2 m2 d2 x2 s4 g4 A4 n4 c4 B4 m4 d4 x4 W (h2.below hW) (h4.below hW) hK
  obtain ⟨s5, e1⟩ : ∃ s, (if ec s3 x3 s1 x1 < 0 then s3 else s1) = s := ⟨_, rfl⟩
  obtain ⟨x5, e2⟩ : ∃ s, (if ec s3 x3 s1 x1 < 0 then x3 else x1) = s := ⟨_, rfl⟩
  obtain ⟨s6, e3⟩ : ∃ s, (if 0 < ec s4 x4 s2 x2 then s4 else s2) = s := ⟨_, rfl⟩
  obtain ⟨x6, e4⟩ : ∃ s, (if 0 < ec s4 x4 s2 x2 then x4 else x2) = s := ⟨_, rfl⟩
  rw [e1, e2] at T1 ⊢
  rw [e3, e4] at T2 ⊢
  clear h1 h2 h3 h4 e1 e2 e3 e4
  obtain ⟨LB0, LG0_0, LG1_0, LR⟩ := bx3 w #[.bool false, .int .i64 s1, .bool g1, .slice A1 n1 c1, .slice B1 m1 d1, .int .i64 s2, .bool g2, .slice A2 n2 c2, .slice B2 m2 d2] 69 #[.bool false, .int .i64 s3, .bool g3, .slice A3 n3 c3, .slice B3 m3 d3, .int .i64 s4, .bool g4, .slice A4 n4 c4, .slice B4 m4 d4] 69 #[.bool false, .int .i64 0, .bool false, .slice none 0 0, .slice none 0 0, .int .i64 0, .bool false, .slice none 0 0, .slice none 0 0] 69
  have LR0 := Lib.hid (HasBlk.of (n := 9) LR.out rfl rfl)
  clear LR
  go_enter Tryz.func122, Tryz.ntmps122
  go_wp2_with fail
  refine wp_region_held_drew (S := fun W' => Blk W' w.heap.size 69 #[.bool false, .int .i64 s1, .bool g1, .slice A1 n1 c1, .slice B1 m1 d1, .int .i64 s2, .bool g2, .slice A2 n2 c2, .slice B2 m2 d2] ∧ Blk W' (w.heap.size + 1) 69 #[.bool false, .int .i64 s3, .bool g3, .slice A3 n3 c3, .slice B3 m3 d3, .int .i64 s4, .bool g4, .slice A4 n4 c4, .slice B4 m4 d4] ∧ HasBlk W' (w.heap.size + 2) 69 9 ∧ Below w.heap.size w W') (by kernel_rfl) (by exact ⟨LG0_0.out.drew, LG1_0.out.drew, LR0.out.drew, LB0.out.drew⟩) (fun hHeld => ?_)
  refine tk 0 ?_
  try simp only [Act.put, lay]
  refine tk 1 ?_ (hv := by intro W2 hSw; obtain ⟨q0, q1, q2, q3, q4, q5, q6, q7, q8⟩ := hSw.1.c9; go_simp; (try with_reducible rfl))
  try simp only [Act.put, lay]
  refine tk 2 ?_
  try simp only [Act.put, lay]
  refine tk 3 ?_ (hv := by intro W2 hSw; obtain ⟨q0, q1, q2, q3, q4, q5, q6, q7, q8⟩ := hSw.2.1.c9; go_simp; (try with_reducible rfl))
  try simp only [Act.put, lay]
  refine tk 5 ?_
  try simp only [Act.put, lay]
  refine tk 6 ?_ (hv := by intro W2 hSw; obtain ⟨q0, q1, q2, q3, q4, q5, q6, q7, q8⟩ := hSw.1.c9; go_simp; (try with_reducible rfl))
  try simp only [Act.put, lay]
  refine tk 7 ?_
  try simp only [Act.put, lay]
  refine tk 8 ?_ (hv := by intro W2 hSw; obtain ⟨q0, q1, q2, q3, q4, q5, q6, q7, q8⟩ := hSw.2.1.c9; go_simp; (try with_reducible rfl))
  try simp only [Act.put, lay]
  refine rdy 4 (fun KK hKK => ?_)
  go_simp
  refine (T1.out _ ?_).mono ?_; exact hHeld.2.2.2
  rintro e w5 ⟨g5, A5, n5, c5, B5, m5, d5, rfl, h5, hb5⟩
  go_wp2_with fail
  refine hKK.out _ _ (⟨hHeld.1.keep hb5, hHeld.2.1.keep hb5, hHeld.2.2.1.keep hb5, hHeld.2.2.2.trans (hb5.mono hHeld.2.2.2.size)⟩) (fun _ => ?_)
  clear hKK KK hHeld; rename_i hHeld
  try simp only [Act.put, lay]
  refine rdy 9 (fun KK hKK => ?_)
  go_simp
  refine (T2.out _ ?_).mono ?_; exact hHeld.2.2.2
  rintro e w6 ⟨g6, A6, n6, c6, B6, m6, d6, rfl, h6, hb6⟩
  go_wp2_with fail
  refine hKK.out _ _ (⟨hHeld.1.keep hb6, hHeld.2.1.keep hb6, hHeld.2.2.1.keep hb6, hHeld.2.2.2.trans (hb6.mono hHeld.2.2.2.size)⟩) (fun _ => ?_)
  clear hKK KK hHeld; rename_i hHeld
  try simp only [Act.put, lay]
  refine tk 10 ?_
  try simp only [Act.put, lay]
  refine rdy 11 (fun KK hKK => ?_)
  have ha0 := hHeld.2.2.1.someCell 0 (by decide); have hf0 := hHeld.2.2.1.frozen 0; have ha1 := hHeld.2.2.1.someCell 1 (by decide); have hf1 := hHeld.2.2.1.frozen 1; have ha2 := hHeld.2.2.1.someCell 2 (by decide); have hf2 := hHeld.2.2.1.frozen 2; have ha3 := hHeld.2.2.1.someCell 3 (by decide); have hf3 := hHeld.2.2.1.frozen 3; have ha4 := hHeld.2.2.1.someCell 4 (by decide); have hf4 := hHeld.2.2.1.frozen 4; have ha5 := hHeld.2.2.1.someCell 5 (by decide); have hf5 := hHeld.2.2.1.frozen 5; have ha6 := hHeld.2.2.1.someCell 6 (by decide); have hf6 := hHeld.2.2.1.frozen 6; have ha7 := hHeld.2.2.1.someCell 7 (by decide); have hf7 := hHeld.2.2.1.frozen 7; have ha8 := hHeld.2.2.1.someCell 8 (by decide); have hf8 := hHeld.2.2.1.frozen 8; have HK := Lib.hid (hHeld.2.2.1.setCell [.bool false, .int .i64 s5, .bool g5, .slice A5 n5 c5, .slice B5 m5 d5, .int .i64 s6, .bool g6, .slice A6 n6 c6, .slice B6 m6 d6] rfl); have F := Lib.hid (below_sets (w0 := w) (r := (w.heap.size + 2)) (by omega) [.bool false, .int .i64 s5, .bool g5, .slice A5 n5 c5, .slice B5 m5 d5, .int .i64 s6, .bool g6, .slice A6 n6 c6, .slice B6 m6 d6] 0 _ hHeld.2.2.2); have FR1 := Lib.hid (hHeld.2.2.1.rat (h5.below hb6) [.bool false, .int .i64 s5, .bool g5, .slice A5 n5 c5, .slice B5 m5 d5, .int .i64 s6, .bool g6, .slice A6 n6 c6, .slice B6 m6 d6]); have FR2 := Lib.hid (hHeld.2.2.1.rat h6 [.bool false, .int .i64 s5, .bool g5, .slice A5 n5 c5, .slice B5 m5 d5, .int .i64 s6, .bool g6, .slice A6 n6 c6, .slice B6 m6 d6])
  go_simp
  refine hKK.out _ _ (⟨hHeld.1.other (by omega) 0 [.bool false, .int .i64 s5, .bool g5, .slice A5 n5 c5, .slice B5 m5 d5, .int .i64 s6, .bool g6, .slice A6 n6 c6, .slice B6 m6 d6], hHeld.2.1.other (by omega) 0 [.bool false, .int .i64 s5, .bool g5, .slice A5 n5 c5, .slice B5 m5 d5, .int .i64 s6, .bool g6, .slice A6 n6 c6, .slice B6 m6 d6], hHeld.2.2.1.sets [.bool false, .int .i64 s5, .bool g5, .slice A5 n5 c5, .slice B5 m5 d5, .int .i64 s6, .bool g6, .slice A6 n6 c6, .slice B6 m6 d6] rfl rfl, below_sets (by omega) [.bool false, .int .i64 s5, .bool g5, .slice A5 n5 c5, .slice B5 m5 d5, .int .i64 s6, .bool g6, .slice A6 n6 c6, .slice B6 m6 d6] 0 _ hHeld.2.2.2⟩) (fun _ => ?_)
  clear hKK KK hHeld; rename_i hHeld
  try simp only [Act.put, lay]
  refine wpAnyH_done (by kernel_rfl) ?_ _
  have hk0 := HK.out 0 (by decide)
  have hk1 := HK.out 1 (by decide)
  have hk2 := HK.out 2 (by decide)
  have hk3 := HK.out 3 (by decide)
  have hk4 := HK.out 4 (by decide)
  have hk5 := HK.out 5 (by decide)
  have hk6 := HK.out 6 (by decide)
  have hk7 := HK.out 7 (by decide)
  have hk8 := HK.out 8 (by decide)
  simp [sets] at hk0 hk1 hk2 hk3 hk4 hk5 hk6 hk7 hk8
  clear hHeld HK h5 hb5 h6 hb6
  clear LB0 LR0 LG0_0 LG1_0
  go_wp2
  refine bodyPost_ret (v := .agg #[.bool false, .int .i64 s5, .bool g5, .slice A5 n5 c5, .slice B5 m5 d5, .int .i64 s6, .bool g6, .slice A6 n6 c6, .slice B6 m6 d6]) (by simp [results, Tryz.results122, go_sem, hk0, hk1, hk2, hk3, hk4, hk5, hk6, hk7, hk8]) rfl ?_
  exact ⟨_, _, _, _, _, _, _, _, _, _, _, _, _, _, rfl, FR1.out, FR2.out, F.out⟩
end Go.Proofs.YtmjkmoahkanblaaGreat

namespace Go.Proofs.YtmjkmoahkanblaaGreat
open Go.RowKit
def NewBd (w : World) (K : Nat) (s : Int) (x : Rat) (N : Int) (op : Bool) (e : Ending) (w' : World) : Prop :=
  ∃ neg A n c B m d, e = .returned (.agg #[.int .i64 s, .bool neg, .slice A n c, .slice B m d, .int .i64 N, .bool op]) ∧ RatV w' K neg (.slice A n c) (.slice B m d) x ∧ Below w.heap.size w w'
def NewPiece (w : World) (K : Nat) (none : Bool) (s : Int) (x : Rat) (N : Int) (o : Bool) (s' : Int) (x' : Rat) (N' : Int) (o' : Bool) (e : Ending) (w' : World) : Prop :=
  ∃ neg A n c B m d neg' A' n' c' B' m' d', e = .returned (.agg #[.bool none, .int .i64 s, .bool neg, .slice A n c, .slice B m d, .int .i64 N, .bool o, .int .i64 s', .bool neg', .slice A' n' c', .slice B' m' d', .int .i64 N', .bool o']) ∧
    RatV w' K neg (.slice A n c) (.slice B m d) x ∧ RatV w' K neg' (.slice A' n' c') (.slice B' m' d') x' ∧ Below w.heap.size w w'
theorem whole_nat (v : Nat) (op : Bool) (w : World) (hv : v < 4294967296) :
    Calls Tryz.prog 115 #[.int .i64 (v : Int), .bool op] w (NewBd w 1 0 (v : Rat) 1 op) := by
  have HS := Lib.hid fun W => (int_nat v W (by omega)).mono fun _ _ h => h.s
  obtain ⟨LB0, LR⟩ := bx1 w #[.int .i64 0, .bool false, .slice none 0 0, .slice none 0 0, .int .i64 0, .bool false] 62
  have LR0 := Lib.hid (HasBlk.of (n := 6) LR.out rfl rfl)
  clear LR
  go_enter Tryz.func115, Tryz.ntmps115
  go_wp2_with fail
  refine (HS.out _).mono ?_
  rintro e w1 ⟨g1, A1, n1, c1, B1, m1, d1, rfl, h1, hb1⟩
  have LB1 := stB LB0 hb1 LB0.out.size
  have LR1 := stR LR0 hb1
  clear LB0 LR0
  obtain ⟨ha0, hf0, ha1, hf1, ha2, hf2, ha3, hf3, ha4, hf4, ha5, hf5⟩ := LR1.out.sf6
  obtain ⟨hk0, hk1, hk2, hk3, hk4, hk5⟩ := LR1.out.sc6 (.int .i64 0) (.bool g1) (.slice A1 n1 c1) (.slice B1 m1 d1) (.int .i64 1) (.bool op)
  have F := Lib.hid (below_sets (w0 := w) (r := w.heap.size) (by omega) [.int .i64 0, .bool g1, .slice A1 n1 c1, .slice B1 m1 d1, .int .i64 1, .bool op] 0 _ LB1.out)
  simp [sets] at hk0 hk1 hk2 hk3 hk4 hk5
  have FR1 := Lib.hid (LR1.out.rat (h1) [.int .i64 0, .bool g1, .slice A1 n1 c1, .slice B1 m1 d1, .int .i64 1, .bool op])
  clear hb1 h1
  go_wp2
  refine bodyPost_ret (v := .agg #[.int .i64 0, .bool g1, .slice A1 n1 c1, .slice B1 m1 d1, .int .i64 1, .bool op]) (by simp [results, Tryz.results115, go_sem, hk0, hk1, hk2, hk3, hk4, hk5]) rfl ?_
  exact ⟨_, _, _, _, _, _, _, rfl, FR1.out, F.out⟩
theorem far_any (s : Int) (w : World) :
    Calls Tryz.prog 96 #[.int .i64 s] w (NewBd w 1 s 0 1 true) := by
  have HS := Lib.hid (show ∀ W, Calls Tryz.prog 149 #[.int .i64 0] W (NewRatS W 1 0) from fun W => (int_nat 0 W (by omega)).mono fun _ _ h => h.s)
  obtain ⟨LB0, LR⟩ := bx1 w #[.int .i64 0, .bool false, .slice none 0 0, .slice none 0 0, .int .i64 0, .bool false] 62
  have LR0 := Lib.hid (HasBlk.of (n := 6) LR.out rfl rfl)
  clear LR
  go_enter Tryz.func96, Tryz.ntmps96
  go_wp2_with fail
  refine (HS.out _).mono ?_
  rintro e w1 ⟨g1, A1, n1, c1, B1, m1, d1, rfl, h1, hb1⟩
  have LB1 := stB LB0 hb1 LB0.out.size
  have LR1 := stR LR0 hb1
  clear LB0 LR0
  obtain ⟨ha0, hf0, ha1, hf1, ha2, hf2, ha3, hf3, ha4, hf4, ha5, hf5⟩ := LR1.out.sf6
  obtain ⟨hk0, hk1, hk2, hk3, hk4, hk5⟩ := LR1.out.sc6 (.int .i64 s) (.bool g1) (.slice A1 n1 c1) (.slice B1 m1 d1) (.int .i64 1) (.bool true)
  have F := Lib.hid (below_sets (w0 := w) (r := w.heap.size) (by omega) [.int .i64 s, .bool g1, .slice A1 n1 c1, .slice B1 m1 d1, .int .i64 1, .bool true] 0 _ LB1.out)
  simp [sets] at hk0 hk1 hk2 hk3 hk4 hk5
  have FR1 := Lib.hid (LR1.out.rat (h1) [.int .i64 s, .bool g1, .slice A1 n1 c1, .slice B1 m1 d1, .int .i64 1, .bool true])
  clear hb1 h1
  go_wp2
  refine bodyPost_ret (v := .agg #[.int .i64 s, .bool g1, .slice A1 n1 c1, .slice B1 m1 d1, .int .i64 1, .bool true]) (by simp [results, Tryz.results96, go_sem, hk0, hk1, hk2, hk3, hk4, hk5]) rfl ?_
  exact ⟨_, _, _, _, _, _, _, rfl, FR1.out, F.out⟩
theorem nothing_any (w : World) :
    Calls Tryz.prog 123 #[] w (NewPiece w 1 true 0 0 1 false 0 0 1 false) := by
  have HS := Lib.hid (show ∀ W, Calls Tryz.prog 115 #[.int .i64 0, .bool false] W (NewBd W 1 0 0 1 false) from fun W => whole_nat 0 false W (by omega))
  obtain ⟨LB0, LR⟩ := bx1 w #[.bool false, .int .i64 0, .bool false, .slice none 0 0, .slice none 0 0, .int .i64 0, .bool false, .int .i64 0, .bool false, .slice none 0 0, .slice none 0 0, .int .i64 0, .bool false] 64
  have LR0 := Lib.hid (HasBlk.of (n := 13) LR.out rfl rfl)
  clear LR
  go_enter Tryz.func123, Tryz.ntmps123
  go_wp2_with fail
  refine (HS.out _).mono ?_
  rintro e w1 ⟨g1, A1, n1, c1, B1, m1, d1, rfl, h1, hb1⟩
  have LB1 := stB LB0 hb1 LB0.out.size
  have LR1 := stR LR0 hb1
  clear LB0 LR0
  go_wp2_with fail
  refine (HS.out _).mono ?_
  rintro e w2 ⟨g2, A2, n2, c2, B2, m2, d2, rfl, h2, hb2⟩
  have LB2 := stB LB1 hb2 LB1.out.size
  have LR2 := stR LR1 hb2
  clear LB1 LR1
  obtain ⟨ha0, hf0, ha1, hf1, ha2, hf2, ha3, hf3, ha4, hf4, ha5, hf5, ha6, hf6, ha7, hf7, ha8, hf8, ha9, hf9, ha10, hf10, ha11, hf11, ha12, hf12⟩ := LR2.out.sf13
  obtain ⟨hk0, hk1, hk2, hk3, hk4, hk5, hk6, hk7, hk8, hk9, hk10, hk11, hk12⟩ := LR2.out.sc13 (.bool true) (.int .i64 0) (.bool g1) (.slice A1 n1 c1) (.slice B1 m1 d1) (.int .i64 1) (.bool false) (.int .i64 0) (.bool g2) (.slice A2 n2 c2) (.slice B2 m2 d2) (.int .i64 1) (.bool false)
  have F := Lib.hid (below_sets (w0 := w) (r := w.heap.size) (by omega) [.bool true, .int .i64 0, .bool g1, .slice A1 n1 c1, .slice B1 m1 d1, .int .i64 1, .bool false, .int .i64 0, .bool g2, .slice A2 n2 c2, .slice B2 m2 d2, .int .i64 1, .bool false] 0 _ LB2.out)
  simp [sets] at hk0 hk1 hk2 hk3 hk4 hk5 hk6 hk7 hk8 hk9 hk10 hk11 hk12
  have FR1 := Lib.hid (LR2.out.rat (h1.below hb2) [.bool true, .int .i64 0, .bool g1, .slice A1 n1 c1, .slice B1 m1 d1, .int .i64 1, .bool false, .int .i64 0, .bool g2, .slice A2 n2 c2, .slice B2 m2 d2, .int .i64 1, .bool false])
  have FR2 := Lib.hid (LR2.out.rat (h2) [.bool true, .int .i64 0, .bool g1, .slice A1 n1 c1, .slice B1 m1 d1, .int .i64 1, .bool false, .int .i64 0, .bool g2, .slice A2 n2 c2, .slice B2 m2 d2, .int .i64 1, .bool false])
  clear hb1 h1 hb2 h2
  go_wp2
  refine bodyPost_ret (v := .agg #[.bool true, .int .i64 0, .bool g1, .slice A1 n1 c1, .slice B1 m1 d1, .int .i64 1, .bool false, .int .i64 0, .bool g2, .slice A2 n2 c2, .slice B2 m2 d2, .int .i64 1, .bool false]) (by simp [results, Tryz.results123, go_sem, hk0, hk1, hk2, hk3, hk4, hk5, hk6, hk7, hk8, hk9, hk10, hk11, hk12]) rfl ?_
  exact ⟨_, _, _, _, _, _, _, _, _, _, _, _, _, _, rfl, FR1.out, FR2.out, F.out⟩
theorem bound_end (K : Nat) (s1 : Int) (g1 : Bool) (A1 : Option Addr) (n1 c1 : Nat) (B1 : Option Addr) (m1 d1 : Nat) (x1 : Rat) (w : World) (h1 : RatV w K g1 (.slice A1 n1 c1) (.slice B1 m1 d1) x1) (hK : 1 ≤ K) (hx : s1 ≠ 0 → x1 = 0) :
    Calls Tryz.prog 124 #[.agg #[.int .i64 s1, .bool g1, .slice A1 n1 c1, .slice B1 m1 d1]] w (NewBd w K s1 x1 1 (decide (s1 ≠ 0))) := by
  by_cases h : s1 = 0
  · subst h
    rw [decide_eq_false (show ¬ ((0 : Int) ≠ 0) from fun h => h rfl)]
    have H1 := Lib.hid h1
    clear h1 hx
    obtain ⟨LB0, LG0_0, LR⟩ := bx2 w #[.int .i64 0, .bool g1, .slice A1 n1 c1, .slice B1 m1 d1] 67 #[.int .i64 0, .bool false, .slice none 0 0, .slice none 0 0, .int .i64 0, .bool false] 62
    have LR0 := Lib.hid (HasBlk.of (n := 6) LR.out rfl rfl)
    clear LR
    clear LB0 LG0_0 LR0
    go_enter Tryz.func124, Tryz.ntmps124
    go_wp2
    refine bodyPost_ret (v := .agg #[.int .i64 0, .bool g1, .slice A1 n1 c1, .slice B1 m1 d1, .int .i64 1, .bool false]) (by simp [results, Tryz.results124, go_sem]) rfl ?_
    exact have b := ((below_alloc w _).alloc (by simp <;> omega) _); ⟨_, _, _, _, _, _, _, rfl, H1.out.below b, b⟩
  · rw [decide_eq_true h, hx h]
    have hq : (s1 == 0) = false := by simp; omega
    have HS := Lib.hid fun W => far_any s1 W
    have HK := Lib.hid hK
    clear h1 hx h hK
    obtain ⟨LB0, LG0_0, LR⟩ := bx2 w #[.int .i64 s1, .bool g1, .slice A1 n1 c1, .slice B1 m1 d1] 67 #[.int .i64 0, .bool false, .slice none 0 0, .slice none 0 0, .int .i64 0, .bool false] 62
    have LR0 := Lib.hid (HasBlk.of (n := 6) LR.out rfl rfl)
    clear LR
    go_enter Tryz.func124, Tryz.ntmps124
    go_wp2_with fail
    refine (HS.out _).mono ?_
    rintro e w1 ⟨g2, A2, n2, c2, B2, m2, d2, rfl, h2, hb1⟩
    have LB1 := stB LB0 hb1 LB0.out.size
    have LR1 := stR LR0 hb1
    have LG0_1 := stG LG0_0 hb1
    clear LB0 LR0 LG0_0
    obtain ⟨ha0, hf0, ha1, hf1, ha2, hf2, ha3, hf3, ha4, hf4, ha5, hf5⟩ := LR1.out.sf6
    obtain ⟨hk0, hk1, hk2, hk3, hk4, hk5⟩ := LR1.out.sc6 (.int .i64 s1) (.bool g2) (.slice A2 n2 c2) (.slice B2 m2 d2) (.int .i64 1) (.bool true)
    have F := Lib.hid (below_sets (w0 := w) (r := (w.heap.size + 1)) (by omega) [.int .i64 s1, .bool g2, .slice A2 n2 c2, .slice B2 m2 d2, .int .i64 1, .bool true] 0 _ LB1.out)
    simp [sets] at hk0 hk1 hk2 hk3 hk4 hk5
    have FR1 := Lib.hid (LR1.out.rat (h2.mono HK.out) [.int .i64 s1, .bool g2, .slice A2 n2 c2, .slice B2 m2 d2, .int .i64 1, .bool true])
    clear hb1 h2
    go_wp2
    refine bodyPost_ret (v := .agg #[.int .i64 s1, .bool g2, .slice A2 n2 c2, .slice B2 m2 d2, .int .i64 1, .bool true]) (by simp [results, Tryz.results124, go_sem, hk0, hk1, hk2, hk3, hk4, hk5]) rfl ?_
    exact ⟨_, _, _, _, _, _, _, rfl, FR1.out, F.out⟩
theorem piece_none (K : Nat) (s1 : Int) (g1 : Bool) (A1 : Option Addr) (n1 c1 : Nat) (B1 : Option Addr) (m1 d1 : Nat) (x1 : Rat) (s2 : Int) (g2 : Bool) (A2 : Option Addr) (n2 c2 : Nat) (B2 : Option Addr) (m2 d2 : Nat) (x2 : Rat) (w : World) :
    Calls Tryz.prog 55 #[.agg #[.bool true, .int .i64 s1, .bool g1, .slice A1 n1 c1, .slice B1 m1 d1, .int .i64 s2, .bool g2, .slice A2 n2 c2, .slice B2 m2 d2]] w (NewPiece w 1 true 0 0 1 false 0 0 1 false) := by
  have HS := Lib.hid fun W => nothing_any W
  obtain ⟨LB0, LG0_0, LR⟩ := bx2 w #[.bool true, .int .i64 s1, .bool g1, .slice A1 n1 c1, .slice B1 m1 d1, .int .i64 s2, .bool g2, .slice A2 n2 c2, .slice B2 m2 d2] 69 #[.bool false, .int .i64 0, .bool false, .slice none 0 0, .slice none 0 0, .int .i64 0, .bool false, .int .i64 0, .bool false, .slice none 0 0, .slice none 0 0, .int .i64 0, .bool false] 64
  have LR0 := Lib.hid (HasBlk.of (n := 13) LR.out rfl rfl)
  clear LR
  go_enter Tryz.func55, Tryz.ntmps55
  go_wp2_with fail
  refine (HS.out _).mono ?_
  rintro e w1 ⟨g3, A3, n3, c3, B3, m3, d3, g4, A4, n4, c4, B4, m4, d4, rfl, h3, h4, hb1⟩
  have LB1 := stB LB0 hb1 LB0.out.size
  have LR1 := stR LR0 hb1
  have LG0_1 := stG LG0_0 hb1
  clear LB0 LR0 LG0_0
  obtain ⟨ha0, hf0, ha1, hf1, ha2, hf2, ha3, hf3, ha4, hf4, ha5, hf5, ha6, hf6, ha7, hf7, ha8, hf8, ha9, hf9, ha10, hf10, ha11, hf11, ha12, hf12⟩ := LR1.out.sf13
  obtain ⟨hk0, hk1, hk2, hk3, hk4, hk5, hk6, hk7, hk8, hk9, hk10, hk11, hk12⟩ := LR1.out.sc13 (.bool true) (.int .i64 0) (.bool g3) (.slice A3 n3 c3) (.slice B3 m3 d3) (.int .i64 1) (.bool false) (.int .i64 0) (.bool g4) (.slice A4 n4 c4) (.slice B4 m4 d4) (.int .i64 1) (.bool false)
  have F := Lib.hid (below_sets (w0 := w) (r := (w.heap.size + 1)) (by omega) [.bool true, .int .i64 0, .bool g3, .slice A3 n3 c3, .slice B3 m3 d3, .int .i64 1, .bool false, .int .i64 0, .bool g4, .slice A4 n4 c4, .slice B4 m4 d4, .int .i64 1, .bool false] 0 _ LB1.out)
  simp [sets] at hk0 hk1 hk2 hk3 hk4 hk5 hk6 hk7 hk8 hk9 hk10 hk11 hk12
  have FR1 := Lib.hid (LR1.out.rat (h3) [.bool true, .int .i64 0, .bool g3, .slice A3 n3 c3, .slice B3 m3 d3, .int .i64 1, .bool false, .int .i64 0, .bool g4, .slice A4 n4 c4, .slice B4 m4 d4, .int .i64 1, .bool false])
  have FR2 := Lib.hid (LR1.out.rat (h4) [.bool true, .int .i64 0, .bool g3, .slice A3 n3 c3, .slice B3 m3 d3, .int .i64 1, .bool false, .int .i64 0, .bool g4, .slice A4 n4 c4, .slice B4 m4 d4, .int .i64 1, .bool false])
  clear hb1 h3 h4
  go_wp2
  refine bodyPost_ret (v := .agg #[.bool true, .int .i64 0, .bool g3, .slice A3 n3 c3, .slice B3 m3 d3, .int .i64 1, .bool false, .int .i64 0, .bool g4, .slice A4 n4 c4, .slice B4 m4 d4, .int .i64 1, .bool false]) (by simp [results, Tryz.results55, go_sem, hk0, hk1, hk2, hk3, hk4, hk5, hk6, hk7, hk8, hk9, hk10, hk11, hk12]) rfl ?_
  exact ⟨_, _, _, _, _, _, _, _, _, _, _, _, _, _, rfl, FR1.out, FR2.out, F.out⟩
theorem piece_some (K : Nat) (s1 : Int) (g1 : Bool) (A1 : Option Addr) (n1 c1 : Nat) (B1 : Option Addr) (m1 d1 : Nat) (x1 : Rat) (s2 : Int) (g2 : Bool) (A2 : Option Addr) (n2 c2 : Nat) (B2 : Option Addr) (m2 d2 : Nat) (x2 : Rat) (w : World) (h1 : RatV w K g1 (.slice A1 n1 c1) (.slice B1 m1 d1) x1) (h2 : RatV w K g2 (.slice A2 n2 c2) (.slice B2 m2 d2) x2) (hK : 1 ≤ K) (hx : s1 ≠ 0 → x1 = 0) (hy : s2 ≠ 0 → x2 = 0) :
    Calls Tryz.prog 55 #[.agg #[.bool false, .int .i64 s1, .bool g1, .slice A1 n1 c1, .slice B1 m1 d1, .int .i64 s2, .bool g2, .slice A2 n2 c2, .slice B2 m2 d2]] w (NewPiece w K false s1 x1 1 (decide (s1 ≠ 0)) s2 x2 1 (decide (s2 ≠ 0))) := by
  have T1 := Lib.hid fun W (hW : Below w.heap.size w W) => bound_end K s1 g1 A1 n1 c1 B1 m1 d1 x1 W (h1.below hW) hK hx
  have T2 := Lib.hid fun W (hW : Below w.heap.size w W) => bound_end K s2 g2 A2 n2 c2 B2 m2 d2 x2 W (h2.below hW) hK hy
  obtain ⟨o3, e1⟩ : ∃ s, decide (s1 ≠ 0) = s := ⟨_, rfl⟩
  obtain ⟨o4, e2⟩ : ∃ s, decide (s2 ≠ 0) = s := ⟨_, rfl⟩
  rw [e1] at T1 ⊢
  rw [e2] at T2 ⊢
  clear h1 h2 e1 e2 hx hy
  obtain ⟨LB0, LG0_0, LR⟩ := bx2 w #[.bool false, .int .i64 s1, .bool g1, .slice A1 n1 c1, .slice B1 m1 d1, .int .i64 s2, .bool g2, .slice A2 n2 c2, .slice B2 m2 d2] 69 #[.bool false, .int .i64 0, .bool false, .slice none 0 0, .slice none 0 0, .int .i64 0, .bool false, .int .i64 0, .bool false, .slice none 0 0, .slice none 0 0, .int .i64 0, .bool false] 64
  have LR0 := Lib.hid (HasBlk.of (n := 13) LR.out rfl rfl)
  clear LR
  go_enter Tryz.func55, Tryz.ntmps55
  go_wp2_with fail
  refine wp_region_held_drew (S := fun W' => Blk W' w.heap.size 69 #[.bool false, .int .i64 s1, .bool g1, .slice A1 n1 c1, .slice B1 m1 d1, .int .i64 s2, .bool g2, .slice A2 n2 c2, .slice B2 m2 d2] ∧ HasBlk W' (w.heap.size + 1) 64 13 ∧ Below w.heap.size w W') (by kernel_rfl) (by exact ⟨LG0_0.out.drew, LR0.out.drew, LB0.out.drew⟩) (fun hHeld => ?_)
  refine tk 0 ?_
  try simp only [Act.put, lay]
  refine tk 1 ?_ (hv := by intro W2 hSw; obtain ⟨q0, q1, q2, q3, q4, q5, q6, q7, q8⟩ := hSw.1.c9; go_simp; (try with_reducible rfl))
  try simp only [Act.put, lay]
  refine tk 3 ?_
  try simp only [Act.put, lay]
  refine tk 4 ?_ (hv := by intro W2 hSw; obtain ⟨q0, q1, q2, q3, q4, q5, q6, q7, q8⟩ := hSw.1.c9; go_simp; (try with_reducible rfl))
  try simp only [Act.put, lay]
  refine rdy 2 (fun KK hKK => ?_)
  go_simp
  refine (T1.out _ ?_).mono ?_; exact hHeld.2.2
  rintro e w3 ⟨g3, A3, n3, c3, B3, m3, d3, rfl, h3, hb3⟩
  go_wp2_with fail
  refine hKK.out _ _ (⟨hHeld.1.keep hb3, hHeld.2.1.keep hb3, hHeld.2.2.trans (hb3.mono hHeld.2.2.size)⟩) (fun _ => ?_)
  clear hKK KK hHeld; rename_i hHeld
  try simp only [Act.put, lay]
  refine rdy 5 (fun KK hKK => ?_)
  go_simp
  refine (T2.out _ ?_).mono ?_; exact hHeld.2.2
  rintro e w4 ⟨g4, A4, n4, c4, B4, m4, d4, rfl, h4, hb4⟩
  go_wp2_with fail
  refine hKK.out _ _ (⟨hHeld.1.keep hb4, hHeld.2.1.keep hb4, hHeld.2.2.trans (hb4.mono hHeld.2.2.size)⟩) (fun _ => ?_)
  clear hKK KK hHeld; rename_i hHeld
  try simp only [Act.put, lay]
  refine tk 6 ?_
  try simp only [Act.put, lay]
  refine rdy 7 (fun KK hKK => ?_)
  have ha0 := hHeld.2.1.someCell 0 (by decide); have hf0 := hHeld.2.1.frozen 0; have ha1 := hHeld.2.1.someCell 1 (by decide); have hf1 := hHeld.2.1.frozen 1; have ha2 := hHeld.2.1.someCell 2 (by decide); have hf2 := hHeld.2.1.frozen 2; have ha3 := hHeld.2.1.someCell 3 (by decide); have hf3 := hHeld.2.1.frozen 3; have ha4 := hHeld.2.1.someCell 4 (by decide); have hf4 := hHeld.2.1.frozen 4; have ha5 := hHeld.2.1.someCell 5 (by decide); have hf5 := hHeld.2.1.frozen 5; have ha6 := hHeld.2.1.someCell 6 (by decide); have hf6 := hHeld.2.1.frozen 6; have ha7 := hHeld.2.1.someCell 7 (by decide); have hf7 := hHeld.2.1.frozen 7; have ha8 := hHeld.2.1.someCell 8 (by decide); have hf8 := hHeld.2.1.frozen 8; have ha9 := hHeld.2.1.someCell 9 (by decide); have hf9 := hHeld.2.1.frozen 9; have ha10 := hHeld.2.1.someCell 10 (by decide); have hf10 := hHeld.2.1.frozen 10; have ha11 := hHeld.2.1.someCell 11 (by decide); have hf11 := hHeld.2.1.frozen 11; have ha12 := hHeld.2.1.someCell 12 (by decide); have hf12 := hHeld.2.1.frozen 12; have HK := Lib.hid (hHeld.2.1.setCell [.bool false, .int .i64 s1, .bool g3, .slice A3 n3 c3, .slice B3 m3 d3, .int .i64 1, .bool o3, .int .i64 s2, .bool g4, .slice A4 n4 c4, .slice B4 m4 d4, .int .i64 1, .bool o4] rfl); have F := Lib.hid (below_sets (w0 := w) (r := (w.heap.size + 1)) (by omega) [.bool false, .int .i64 s1, .bool g3, .slice A3 n3 c3, .slice B3 m3 d3, .int .i64 1, .bool o3, .int .i64 s2, .bool g4, .slice A4 n4 c4, .slice B4 m4 d4, .int .i64 1, .bool o4] 0 _ hHeld.2.2); have FR1 := Lib.hid (hHeld.2.1.rat (h3.below hb4) [.bool false, .int .i64 s1, .bool g3, .slice A3 n3 c3, .slice B3 m3 d3, .int .i64 1, .bool o3, .int .i64 s2, .bool g4, .slice A4 n4 c4, .slice B4 m4 d4, .int .i64 1, .bool o4]); have FR2 := Lib.hid (hHeld.2.1.rat h4 [.bool false, .int .i64 s1, .bool g3, .slice A3 n3 c3, .slice B3 m3 d3, .int .i64 1, .bool o3, .int .i64 s2, .bool g4, .slice A4 n4 c4, .slice B4 m4 d4, .int .i64 1, .bool o4])
  go_simp
  refine hKK.out _ _ (⟨hHeld.1.other (by omega) 0 [.bool false, .int .i64 s1, .bool g3, .slice A3 n3 c3, .slice B3 m3 d3, .int .i64 1, .bool o3, .int .i64 s2, .bool g4, .slice A4 n4 c4, .slice B4 m4 d4, .int .i64 1, .bool o4], hHeld.2.1.sets [.bool false, .int .i64 s1, .bool g3, .slice A3 n3 c3, .slice B3 m3 d3, .int .i64 1, .bool o3, .int .i64 s2, .bool g4, .slice A4 n4 c4, .slice B4 m4 d4, .int .i64 1, .bool o4] rfl rfl, below_sets (by omega) [.bool false, .int .i64 s1, .bool g3, .slice A3 n3 c3, .slice B3 m3 d3, .int .i64 1, .bool o3, .int .i64 s2, .bool g4, .slice A4 n4 c4, .slice B4 m4 d4, .int .i64 1, .bool o4] 0 _ hHeld.2.2⟩) (fun _ => ?_)
  clear hKK KK hHeld; rename_i hHeld
  try simp only [Act.put, lay]
  refine wpAnyH_done (by kernel_rfl) ?_ _
  have hk0 := HK.out 0 (by decide)
  have hk1 := HK.out 1 (by decide)
  have hk2 := HK.out 2 (by decide)
  have hk3 := HK.out 3 (by decide)
  have hk4 := HK.out 4 (by decide)
  have hk5 := HK.out 5 (by decide)
  have hk6 := HK.out 6 (by decide)
  have hk7 := HK.out 7 (by decide)
  have hk8 := HK.out 8 (by decide)
  have hk9 := HK.out 9 (by decide)
  have hk10 := HK.out 10 (by decide)
  have hk11 := HK.out 11 (by decide)
  have hk12 := HK.out 12 (by decide)
  simp [sets] at hk0 hk1 hk2 hk3 hk4 hk5 hk6 hk7 hk8 hk9 hk10 hk11 hk12
  clear hHeld HK h3 hb3 h4 hb4
  clear LB0 LR0 LG0_0
  go_wp2
  refine bodyPost_ret (v := .agg #[.bool false, .int .i64 s1, .bool g3, .slice A3 n3 c3, .slice B3 m3 d3, .int .i64 1, .bool o3, .int .i64 s2, .bool g4, .slice A4 n4 c4, .slice B4 m4 d4, .int .i64 1, .bool o4]) (by simp [results, Tryz.results55, go_sem, hk0, hk1, hk2, hk3, hk4, hk5, hk6, hk7, hk8, hk9, hk10, hk11, hk12]) rfl ?_
  exact ⟨_, _, _, _, _, _, _, _, _, _, _, _, _, _, rfl, FR1.out, FR2.out, F.out⟩
end Go.Proofs.YtmjkmoahkanblaaGreat
