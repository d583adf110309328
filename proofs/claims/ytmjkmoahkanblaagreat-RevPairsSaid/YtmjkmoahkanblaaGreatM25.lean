/-
Walks: package vergeref10, bounds and pieces.
Walks: package vergeref2, RMul, RQuo; package vergeref6, Sign; package vergeref10, ratio.
-/
import Derived.Test.YtmjkmoahkanblaaGreatM04
import Derived.Test.YtmjkmoahkanblaaGreatM11
import Derived.Test.YtmjkmoahkanblaaGreatM18
set_option linter.unusedSimpArgs false
set_option linter.unusedVariables false
set_option maxHeartbeats 12800000

namespace Go.Proofs.YtmjkmoahkanblaaGreat
open Go.RowKit
def NewBd (w : World) (K : Nat) (s : Int) (x : Rat) (N : Int) (op : Bool) (e : Ending) (w' : World) : Prop :=
  ∃ neg A n c B m d, e = .returned (.agg #[.int .i64 s, .bool neg, .slice A n c, .slice B m d, .int .i64 N, .bool op]) ∧ RatV w' K neg (.slice A n c) (.slice B m d) x ∧ Below w.heap.size w w'
def NewPiece (w : World) (K : Nat) (none : Bool) (s : Int) (x : Rat) (N : Int) (o : Bool) (s' : Int) (x' : Rat) (N' : Int) (o' : Bool) (e : Ending) (w' : World) : Prop :=
  ∃ neg A n c B m d neg' A' n' c' B' m' d', e = .returned (.agg #[.bool none, .int .i64 s, .bool neg, .slice A n c, .slice B m d, .int .i64 N, .bool o, .int .i64 s', .bool neg', .slice A' n' c', .slice B' m' d', .int .i64 N', .bool o']) ∧
    RatV w' K neg (.slice A n c) (.slice B m d) x ∧ RatV w' K neg' (.slice A' n' c') (.slice B' m' d') x' ∧ Below w.heap.size w w'
theorem whole_nat (v : Nat) (op : Bool) (w : World) (hv : v < 4294967296) :
    Calls Tryz.prog 115 #[.int .i64 (v : Int), .bool op] w (NewBd w 1 0 (v : Rat) 1 op) := by
  have HS := Lib.hid fun W => (int_nat v W (by omega)).mono fun _ _ h => h.s
  obtain ⟨LB0, LR⟩ := bx1 w #[.int .i64 0, .bool false, .slice none 0 0, .slice none 0 0, .int .i64 0, .bool false] 62
  have LR0 := Lib.hid (HasBlk.of (n := 6) LR.out rfl rfl)
  clear LR
  go_enter Tryz.func115, Tryz.ntmps115
  go_wp2_with fail
  refine (HS.out _).mono ?_
  rintro e w1 ⟨g1, A1, n1, c1, B1, m1, d1, rfl, h1, hb1⟩
  have LB1 := stB LB0 hb1 LB0.out.size
  have LR1 := stR LR0 hb1
  clear LB0 LR0
  obtain ⟨ha0, hf0, ha1, hf1, ha2, hf2, ha3, hf3, ha4, hf4, ha5, hf5⟩ := LR1.out.sf6
  obtain ⟨hk0, hk1, hk2, hk3, hk4, hk5⟩ := LR1.out.sc6 (.int .i64 0) (.bool g1) (.slice A1 n1 c1) (.slice B1 m1 d1) (.int .i64 1) (.bool op)
  have F := Lib.hid (below_sets (w0 := w) (r := w.heap.size) (by omega) [.int .i64 0, .bool g1, .slice A1 n1 c1, .slice B1 m1 d1, .int .i64 1, .bool op] 0 _ LB1.out)
  simp [sets] at hk0 hk1 hk2 hk3 hk4 hk5
  have FR1 := Lib.hid (LR1.out.rat (h1) [.int .i64 0, .bool g1, .slice A1 n1 c1, .slice B1 m1 d1, .int .i64 1, .bool op])
  clear hb1 h1
  go_wp2
  refine bodyPost_ret (v := .agg #[.int .i64 0, .bool g1, .slice A1 n1 c1, .slice B1 m1 d1, .int .i64 1, .bool op]) (by simp [results, Tryz.results115, go_sem, hk0, hk1, hk2, hk3, hk4, hk5]) rfl ?_
  exact ⟨_, _, _, _, _, _, _, rfl, FR1.out, F.out⟩
theorem far_any (s : Int) (w : World) :
    Calls Tryz.prog 96 #[.int .i64 s] w (NewBd w 1 s 0 1 true) := by
  have HS := Lib.hid (show ∀ W, Calls Tryz.prog 149 #[.int .i64 0] W (NewRatS W 1 0) from fun W => (int_nat 0 W (by omega)).mono fun _ _ h => h.s)
  obtain ⟨LB0, LR⟩ := bx1 w #[.int .i64 0, .bool false, .slice none 0 0, .slice none 0 0, .int .i64 0, .bool false] 62
  have LR0 := Lib.hid (HasBlk.of (n := 6) LR.out rfl rfl)
  clear LR
  go_enter Tryz.func96, Tryz.ntmps96
  go_wp2_with fail
  refine (HS.out _).mono ?_
  rintro e w1 ⟨g1, A1, n1, c1, B1, m1, d1, rfl, h1, hb1⟩
  have LB1 := stB LB0 hb1 LB0.out.size
  have LR1 := stR LR0 hb1
  clear LB0 LR0
  obtain ⟨ha0, hf0, ha1, hf1, ha2, hf2, ha3, hf3, ha4, hf4, ha5, hf5⟩ := LR1.out.sf6
  obtain ⟨hk0, hk1, hk2, hk3, hk4, hk5⟩ := LR1.out.sc6 (.int .i64 s) (.bool g1) (.slice A1 n1 c1) (.slice B1 m1 d1) (.int .i64 1) (.bool true)
  have F := Lib.hid (below_sets (w0 := w) (r := w.heap.size) (by omega) [.int .i64 s, .bool g1, .slice A1 n1 c1, .slice B1 m1 d1, .int .i64 1, .bool true] 0 _ LB1.out)
  simp [sets] at hk0 hk1 hk2 hk3 hk4 hk5
  have FR1 := Lib.hid (LR1.out.rat (h1) [.int .i64 s, .bool g1, .slice A1 n1 c1, .slice B1 m1 d1, .int .i64 1, .bool true])
  clear hb1 h1
  go_wp2
  refine bodyPost_ret (v := .agg #[.int .i64 s, .bool g1, .slice A1 n1 c1, .slice B1 m1 d1, .int .i64 1, .bool true]) (by simp [results, Tryz.results96, go_sem, hk0, hk1, hk2, hk3, hk4, hk5]) rfl ?_
  exact ⟨_, _, _, _, _, _, _, rfl, FR1.out, F.out⟩
theorem nothing_any (w : World) :
    Calls Tryz.prog 123 #[] w (NewPiece w 1 true 0 0 1 false 0 0 1 false) := by
  have HS := Lib.hid (show ∀ W, Calls Tryz.prog 115 #[.int .i64 0, .bool false] W (NewBd W 1 0 0 1 false) from fun W => whole_nat 0 false W (by omega))
  obtain ⟨LB0, LR⟩ := bx1 w #[.bool false, .int .i64 0, .bool false, .slice none 0 0, .slice none 0 0, .int .i64 0, .bool false, .int .i64 0, .bool false, .slice none 0 0, .slice none 0 0, .int .i64 0, .bool false] 64
  have LR0 := Lib.hid (HasBlk.of (n := 13) LR.out rfl rfl)
  clear LR
  go_enter Tryz.func123, Tryz.ntmps123
  go_wp2_with fail
  refine (HS.out _).mono ?_
  rintro e w1 ⟨g1, A1, n1, c1, B1, m1, d1, rfl, h1, hb1⟩
  have LB1 := stB LB0 hb1 LB0.out.size
  have LR1 := stR LR0 hb1
  clear LB0 LR0
  go_wp2_with fail
  refine (HS.out _).mono ?_
  rintro e w2 ⟨g2, A2, n2, c2, B2, m2, d2, rfl, h2, hb2⟩
  have LB2 := stB LB1 hb2 LB1.out.size
  have LR2 := stR LR1 hb2
  clear LB1 LR1
  obtain ⟨ha0, hf0, ha1, hf1, ha2, hf2, ha3, hf3, ha4, hf4, ha5, hf5, ha6, hf6, ha7, hf7, ha8, hf8, ha9, hf9, ha10, hf10, ha11, hf11, ha12, hf12⟩ := LR2.out.sf13
  obtain ⟨hk0, hk1, hk2, hk3, hk4, hk5, hk6, hk7, hk8, hk9, hk10, hk11, hk12⟩ := LR2.out.sc13 (.bool true) (.int .i64 0) (.bool g1) (.slice A1 n1 c1) (.slice B1 m1 d1) (.int .i64 1) (.bool false) (.int .i64 0) (.bool g2) (.slice A2 n2 c2) (.slice B2 m2 d2) (.int .i64 1) (.bool false)
  have F := Lib.hid (below_sets (w0 := w) (r := w.heap.size) (by omega) [.bool true, .int .i64 0, .bool g1, .slice A1 n1 c1, .slice B1 m1 d1, .int .i64 1, .bool false, .int .i64 0, .bool g2, .slice A2 n2 c2, .slice B2 m2 d2, .int .i64 1, .bool false] 0 _ LB2.out)
  simp [sets] at hk0 hk1 hk2 hk3 hk4 hk5 hk6 hk7 hk8 hk9 hk10 hk11 hk12
  have FR1 := Lib.hid (LR2.out.rat (h1.below hb2) [.bool true, .int .i64 0, .bool g1, .slice A1 n1 c1, .slice B1 m1 d1, .int .i64 1, .bool false, .int .i64 0, .bool g2, .slice A2 n2 c2, .slice B2 m2 d2, .int .i64 1, .bool false])
  have FR2 := Lib.hid (LR2.out.rat (h2) [.bool true, .int .i64 0, .bool g1, .slice A1 n1 c1, .slice B1 m1 d1, .int .i64 1, .bool false, .int .i64 0, .bool g2, .slice A2 n2 c2, .slice B2 m2 d2, .int .i64 1, .bool false])
  clear hb1 h1 hb2 h2
  go_wp2
  refine bodyPost_ret (v := .agg #[.bool true, .int .i64 0, .bool g1, .slice A1 n1 c1, .slice B1 m1 d1, .int .i64 1, .bool false, .int .i64 0, .bool g2, .slice A2 n2 c2, .slice B2 m2 d2, .int .i64 1, .bool false]) (by simp [results, Tryz.results123, go_sem, hk0, hk1, hk2, hk3, hk4, hk5, hk6, hk7, hk8, hk9, hk10, hk11, hk12]) rfl ?_
  exact ⟨_, _, _, _, _, _, _, _, _, _, _, _, _, _, rfl, FR1.out, FR2.out, F.out⟩
theorem bound_end (K : Nat) (s1 : Int) (g1 : Bool) (A1 : Option Addr) (n1 c1 : Nat) (B1 : Option Addr) (m1 d1 : Nat) (x1 : Rat) (w : World) (h1 : RatV w K g1 (.slice A1 n1 c1) (.slice B1 m1 d1) x1) (hK : 1 ≤ K) (hx : s1 ≠ 0 → x1 = 0) :
    Calls Tryz.prog 124 #[.agg #[.int .i64 s1, .bool g1, .slice A1 n1 c1, .slice B1 m1 d1]] w (NewBd w K s1 x1 1 (decide (s1 ≠ 0))) := by
  by_cases h : s1 = 0
  · subst h
    rw [decide_eq_false (show ¬ ((0 : Int) ≠ 0) from fun h => h rfl)]
    have H1 := Lib.hid h1
    clear h1 hx
    obtain ⟨LB0, LG0_0, LR⟩ := bx2 w #[.int .i64 0, .bool g1, .slice A1 n1 c1, .slice B1 m1 d1] 67 #[.int .i64 0, .bool false, .slice none 0 0, .slice none 0 0, .int .i64 0, .bool false] 62
    have LR0 := Lib.hid (HasBlk.of (n := 6) LR.out rfl rfl)
    clear LR
    clear LB0 LG0_0 LR0
    go_enter Tryz.func124, Tryz.ntmps124
    go_wp2
    refine bodyPost_ret (v := .agg #[.int .i64 0, .bool g1, .slice A1 n1 c1, .slice B1 m1 d1, .int .i64 1, .bool false]) (by simp [results, Tryz.results124, go_sem]) rfl ?_
    exact have b := ((below_alloc w _).alloc (by simp <;> omega) _); ⟨_, _, _, _, _, _, _, rfl, H1.out.below b, b⟩
  · rw [decide_eq_true h, hx h]
    have hq : (s1 == 0) = false := by simp; omega
    have HS := Lib.hid fun W => far_any s1 W
    have HK := Lib.hid hK
    clear h1 hx h hK
    obtain ⟨LB0, LG0_0, LR⟩ := bx2 w #[.int .i64 s1, .bool g1, .slice A1 n1 c1, .slice B1 m1 d1] 67 #[.int .i64 0, .bool false, .slice none 0 0, .slice none 0 0, .int .i64 0, .bool false] 62
    have LR0 := Lib.hid (HasBlk.of (n := 6) LR.out rfl rfl)
    clear LR
    go_enter Tryz.func124, Tryz.ntmps124
    go_wp2_with fail
    refine (HS.out _).mono ?_
    rintro e w1 ⟨g2, A2, n2, c2, B2, m2, d2, rfl, h2, hb1⟩
    have LB1 := stB LB0 hb1 LB0.out.size
    have LR1 := stR LR0 hb1
    have LG0_1 := stG LG0_0 hb1
    clear LB0 LR0 LG0_0
    obtain ⟨ha0, hf0, ha1, hf1, ha2, hf2, ha3, hf3, ha4, hf4, ha5, hf5⟩ := LR1.out.sf6
    obtain ⟨hk0, hk1, hk2, hk3, hk4, hk5⟩ := LR1.out.sc6 (.int .i64 s1) (.bool g2) (.slice A2 n2 c2) (.slice B2 m2 d2) (.int .i64 1) (.bool true)
    have F := Lib.hid (below_sets (w0 := w) (r := (w.heap.size + 1)) (by omega) [.int .i64 s1, .bool g2, .slice A2 n2 c2, .slice B2 m2 d2, .int .i64 1, .bool true] 0 _ LB1.out)
    simp [sets] at hk0 hk1 hk2 hk3 hk4 hk5
    have FR1 := Lib.hid (LR1.out.rat (h2.mono HK.out) [.int .i64 s1, .bool g2, .slice A2 n2 c2, .slice B2 m2 d2, .int .i64 1, .bool true])
    clear hb1 h2
    go_wp2
    refine bodyPost_ret (v := .agg #[.int .i64 s1, .bool g2, .slice A2 n2 c2, .slice B2 m2 d2, .int .i64 1, .bool true]) (by simp [results, Tryz.results124, go_sem, hk0, hk1, hk2, hk3, hk4, hk5]) rfl ?_
    exact ⟨_, _, _, _, _, _, _, rfl, FR1.out, F.out⟩
theorem piece_some (K : Nat) (s1 : Int) (g1 : Bool) (A1 : Option Addr) (n1 c1 : Nat) (B1 : Option Addr) (m1 d1 : Nat) (x1 : Rat) (s2 : Int) (g2 : Bool) (A2 : Option Addr) (n2 c2 : Nat) (B2 : Option Addr) (m2 d2 : Nat) (x2 : Rat) (w : World) (h1 : RatV w K g1 (.slice A1 n1 c1) (.slice B1 m1 d1) x1) (h2 : RatV w K g2 (.slice A2 n2 c2) (.slice B2 m2 d2) x2) (hK : 1 ≤ K) (hx : s1 ≠ 0 → x1 = 0) (hy : s2 ≠ 0 → x2 = 0) :
    Calls Tryz.prog 55 #[.agg #[.bool false, .int .i64 s1, .bool g1, .slice A1 n1 c1, .slice B1 m1 d1, .int .i64 s2, .bool g2, .slice A2 n2 c2, .slice B2 m2 d2]] w (NewPiece w K false s1 x1 1 (decide (s1 ≠ 0)) s2 x2 1 (decide (s2 ≠ 0))) := by
  have T1 := Lib.hid fun W (hW : Below w.heap.size w W) => bound_end K s1 g1 A1 n1 c1 B1 m1 d1 x1 W (h1.below hW) hK hx
  have T2 := Lib.hid fun W (hW : Below w.heap.size w W) => bound_end K s2 g2 A2 n2 c2 B2 m2 d2 x2 W (h2.below hW) hK hy
  obtain ⟨o3, e1⟩ : ∃ s, decide (s1 ≠ 0) = s := ⟨_, rfl⟩
  obtain ⟨o4, e2⟩ : ∃ s, decide (s2 ≠ 0) = s := ⟨_, rfl⟩
  rw [e1] at T1 ⊢
  rw [e2] at T2 ⊢
  clear h1 h2 e1 e2 hx hy
  obtain ⟨LB0, LG0_0, LR⟩ := bx2 w #[.bool false, .int .i64 s1, .bool g1, .slice A1 n1 c1, .slice B1 m1 d1, .int .i64 s2, .bool g2, .slice A2 n2 c2, .slice B2 m2 d2] 69 #[.bool false, .int .i64 0, .bool false, .slice none 0 0, .slice none 0 0, .int .i64 0, .bool false, .int .i64 0, .bool false, .slice none 0 0, .slice none 0 0, .int .i64 0, .bool false] 64
  have LR0 := Lib.hid (HasBlk.of (n := 13) LR.out rfl rfl)
  clear LR
  go_enter Tryz.func55, Tryz.ntmps55
  go_wp2_with fail
  refine wp_region_held_drew (S := fun W' => Blk W' w.heap.size 69 #[.bool false, .int .i64 s1, .bool g1, .slice A1 n1 c1, .slice B1 m1 d1, .int .i64 s2, .bool g2, .slice A2 n2 c2, .slice B2 m2 d2] ∧ HasBlk W' (w.heap.size + 1) 64 13 ∧ Below w.heap.size w W') (by kernel_rfl) (by exact ⟨LG0_0.out.drew, LR0.out.drew, LB0.out.drew⟩) (fun hHeld => ?_)
  refine tk 0 ?_
  try simp only [Act.put, lay]
  refine tk 1 ?_ (hv := by intro W2 hSw; obtain ⟨q0, q1, q2, q3, q4, q5, q6, q7, q8⟩ := hSw.1.c9; go_simp; (try with_reducible rfl))
  try simp only [Act.put, lay]
  refine tk 3 ?_
  try simp only [Act.put, lay]
  refine tk 4 ?_ (hv := by intro W2 hSw; obtain ⟨q0, q1, q2, q3, q4, q5, q6, q7, q8⟩ := hSw.1.c9; go_simp; (try with_reducible rfl))
  try simp only [Act.put, lay]
  refine rdy 2 (fun KK hKK => ?_)
  go_simp
  refine (T1.out _ ?_).mono ?_; exact hHeld.2.2
  rintro e w3 ⟨g3, A3, n3, c3, B3, m3, d3, rfl, h3, hb3⟩
  go_wp2_with fail
  refine hKK.out _ _ (⟨hHeld.1.keep hb3, hHeld.2.1.keep hb3, hHeld.2.2.trans (hb3.mono hHeld.2.2.size)⟩) (fun _ => ?_)
  clear hKK KK hHeld; rename_i hHeld
  try simp only [Act.put, lay]
  refine rdy 5 (fun KK hKK => ?_)
  go_simp
  refine (T2.out _ ?_).mono ?_; exact hHeld.2.2
  rintro e w4 ⟨g4, A4, n4, c4, B4, m4, d4, rfl, h4, hb4⟩
  go_wp2_with fail
  refine hKK.out _ _ (⟨hHeld.1.keep hb4, hHeld.2.1.keep hb4, hHeld.2.2.trans (hb4.mono hHeld.2.2.size)⟩) (fun _ => ?_)
  clear hKK KK hHeld; rename_i hHeld
  try simp only [Act.put, lay]
  refine tk 6 ?_
  try simp only [Act.put, lay]
  refine rdy 7 (fun KK hKK => ?_)
  have ha0 := hHeld.2.1.someCell 0 (by decide); have hf0 := hHeld.2.1.frozen 0; have ha1 := hHeld.2.1.someCell 1 (by decide); have hf1 := hHeld.2.1.frozen 1; have ha2 := hHeld.2.1.someCell 2 (by decide); have hf2 := hHeld.2.1.frozen 2; have ha3 := hHeld.2.1.someCell 3 (by decide); have hf3 := hHeld.2.1.frozen 3; have ha4 := hHeld.2.1.someCell 4 (by decide); have hf4 := hHeld.2.1.frozen 4; have ha5 := hHeld.2.1.someCell 5 (by decide); have hf5 := hHeld.2.1.frozen 5; have ha6 := hHeld.2.1.someCell 6 (by decide); have hf6 := hHeld.2.1.frozen 6; have ha7 := hHeld.2.1.someCell 7 (by decide); have hf7 := hHeld.2.1.frozen 7; have ha8 := hHeld.2.1.someCell 8 (by decide); have hf8 := hHeld.2.1.frozen 8; have ha9 := hHeld.2.1.someCell 9 (by decide); have hf9 := hHeld.2.1.frozen 9; have ha10 := hHeld.2.1.someCell 10 (by decide); have hf10 := hHeld.2.1.frozen 10; have ha11 := hHeld.2.1.someCell 11 (by decide); have hf11 := hHeld.2.1.frozen 11; have ha12 := hHeld.2.1.someCell 12 (by decide); have hf12 := hHeld.2.1.frozen 12; have HK := Lib.hid (hHeld.2.1.setCell [.bool false, .int .i64 s1, .bool g3, .slice A3 n3 c3, .slice B3 m3 d3, .int .i64 1, .bool o3, .int .i64 s2, .bool g4, .slice A4 n4 c4, .slice B4 m4 d4, .int .i64 1, .bool o4] rfl); have F := Lib.hid (below_sets (w0 := w) (r := (w.heap.size + 1)) (by omega) [.bool false, .int .i64 s1, .bool g3, .slice A3 n3 c3, .slice B3 m3 d3, .int .i64 1, .bool o3, .int .i64 s2, .bool g4, .slice A4 n4 c4, .slice B4 m4 d4, .int .i64 1, .bool o4] 0 _ hHeld.2.2); have FR1 := Lib.hid (hHeld.2.1.rat (h3.below hb4) [.bool false, .int .i64 s1, .bool g3, .slice A3 n3 c3, .slice B3 m3 d3, .int .i64 1, .bool o3, .int .i64 s2, .bool g4, .slice A4 n4 c4, .slice B4 m4 d4, .int .i64 1, .bool o4]); have FR2 := Lib.hid (hHeld.2.1.rat h4 [.bool false, .int .i64 s1, .bool g3, .slice A3 n3 c3, .slice B3 m3 d3, .int .i64 1, .bool o3, .int .i64 s2, .bool g4, .slice A4 n4 c4, .slice B4 m4 d4, .int .i64 1, .bool o4])
  go_simp
  refine hKK.out _ _ (⟨hHeld.1.other (by omega) 0 [.bool false, .int .i64 s1, .bool g3, .slice A3 n3 c3, .slice B3 m3 d3, .int .i64 1, .bool o3, .int .i64 s2, .bool g4, .slice A4 n4 c4, .slice B4 m4 d4, .int .i64 1, .bool o4], hHeld.2.1.sets [.bool false, .int .i64 s1, .bool g3, .slice A3 n3 c3, .slice B3 m3 d3, .int .i64 1, .bool o3, .int .i64 s2, .bool g4, .slice A4 n4 c4, .slice B4 m4 d4, .int .i64 1, .bool o4] rfl rfl, below_sets (by omega) [.bool false, .int .i64 s1, .bool g3, .slice A3 n3 c3, .slice B3 m3 d3, .int .i64 1, .bool o3, .int .i64 s2, .bool g4, .slice A4 n4 c4, .slice B4 m4 d4, .int .i64 1, .bool o4] 0 _ hHeld.2.2⟩) (fun _ => ?_)
  clear hKK KK hHeld; rename_i hHeld
  try simp only [Act.put, lay]
  refine wpAnyH_done (by kernel_rfl) ?_ _
  have hk0 := HK.out 0 (by decide)
  have hk1 := HK.out 1 (by decide)
  have hk2 := HK.out 2 (by decide)
  have hk3 := HK.out 3 (by decide)
  have hk4 := HK.out 4 (by decide)
  have hk5 := HK.out 5 (by decide)
  have hk6 := HK.out 6 (by decide)
  have hk7 := HK.out 7 (by decide)
  have hk8 := HK.out 8 (by decide)
  have hk9 := HK.out 9 (by decide)
  have hk10 := HK.out 10 (by decide)
  have hk11 := HK.out 11 (by decide)
  have hk12 := HK.out 12 (by decide)
  simp [sets] at hk0 hk1 hk2 hk3 hk4 hk5 hk6 hk7 hk8 hk9 hk10 hk11 hk12
  clear hHeld HK h3 hb3 h4 hb4
  clear LB0 LR0 LG0_0
  go_wp2
  refine bodyPost_ret (v := .agg #[.bool false, .int .i64 s1, .bool g3, .slice A3 n3 c3, .slice B3 m3 d3, .int .i64 1, .bool o3, .int .i64 s2, .bool g4, .slice A4 n4 c4, .slice B4 m4 d4, .int .i64 1, .bool o4]) (by simp [results, Tryz.results55, go_sem, hk0, hk1, hk2, hk3, hk4, hk5, hk6, hk7, hk8, hk9, hk10, hk11, hk12]) rfl ?_
  exact ⟨_, _, _, _, _, _, _, _, _, _, _, _, _, _, rfl, FR1.out, FR2.out, F.out⟩
end Go.Proofs.YtmjkmoahkanblaaGreat

namespace Go.Proofs.YtmjkmoahkanblaaGreat
open Go.RowKit
theorem times_q (A B : Option Addr) (n c m d a b : Nat) (w : World) (hx : U32s w A n c (digs a)) (hy : U32s w B m d (digs b)) (hs1 : n ≤ 8589934592) (hs2 : m ≤ 8589934592) :
    Calls Tryz.prog 143 #[.slice A n c, .slice B m d] w (NewU32 w (digs (a * b))) := by
  have h := times_any A B n c m d _ _ w hx hy hs1 hs2
  rw [num_digs, num_digs] at h; exact h
theorem pow_mm {K : Nat} (a b : Nat) (ha : a < 2^(32 * K)) (hb : b < 2^(32 * K)) : a * b < 2^(32 * (2 * K)) := by
  have h : 2^(32 * (2 * K)) = 2^(32 * K) * 2^(32 * K) := by rw [← Nat.pow_add]; congr 1; omega
  rw [h]
  exact Nat.mul_lt_mul'' ha hb
theorem rv_mul (g1 g2 : Bool) (p1 q1 p2 q2 : Nat) : rv g1 p1 q1 * rv g2 p2 q2 = rv (g1 != g2) (p1 * p2) (q1 * q2) := by
  unfold rv
  cases g1 <;> cases g2 <;> simp [Rat.div_def, Rat.natCast_mul, Rat.inv_mul_rev] <;> grind
theorem rv_ne (g : Bool) {p q : Nat} (hp : 0 < p) (hq : 0 < q) : rv g p q ≠ 0 := by
  have h1 := mt (rv_le_false (p := p) (p' := 0) hq (q' := 1) (by omega)).1 (by omega)
  rw [rv_zero] at h1
  cases g
  · grind
  · rw [rv_true]; grind
theorem rv_quo (g1 g2 : Bool) (p1 q1 p2 q2 : Nat) (h1 : 0 < q1) (h2 : 0 < q2) (h3 : 0 < p2) : rv g1 p1 q1 / rv g2 p2 q2 = rv (g1 != g2) (p1 * q2) (q1 * p2) := by
  refine div_eq (rv_ne g2 h3 h2) ?_
  rw [rv_mul, show ((g1 != g2) != g2) = g1 from by cases g1 <;> cases g2 <;> rfl]
  exact rv_eq h1 (Nat.mul_pos (Nat.mul_pos h1 h3) h2) (by ac_rfl)
theorem rquo_walk (K : Nat) (g1 g2 : Bool) (p1 q1 p2 q2 : Nat) (A1 : Option Addr) (n1 c1 : Nat) (B1 : Option Addr) (m1 d1 : Nat) (A2 : Option Addr) (n2 c2 : Nat) (B2 : Option Addr) (m2 d2 : Nat) (w : World) (u1 : U32s w A1 n1 c1 (digs p1)) (v1 : U32s w B1 m1 d1 (digs q1)) (u2 : U32s w A2 n2 c2 (digs p2)) (v2 : U32s w B2 m2 d2 (digs q2)) (l1 : n1 ≤ 8589934592) (l2 : m1 ≤ 8589934592) (l3 : n2 ≤ 8589934592) (l4 : m2 ≤ 8589934592) (hD : 0 < q1 * p2) (k1 : p1 * q2 < 2^(32 * K)) (k2 : q1 * p2 < 2^(32 * K)) (hK : 1 ≤ K) (hK2 : K ≤ 1073741824) :
    Calls Tryz.prog 209 #[.agg #[.bool g1, .slice A1 n1 c1, .slice B1 m1 d1], .agg #[.bool g2, .slice A2 n2 c2, .slice B2 m2 d2]] w (NewRat w K (rv (g1 != g2) (p1 * q2) (q1 * p2))) := by
  have T1 := Lib.hid fun W (hW : Below w.heap.size w W) => times_q A1 B2 n1 c1 m2 d2 p1 q2 W (u1.below hW) (v2.below hW) l1 l4
  have T2 := Lib.hid fun W (hW : Below w.heap.size w W) => times_q B1 A2 m1 d1 n2 c2 q1 p2 W (v1.below hW) (u2.below hW) l2 l3
  obtain ⟨X, eX⟩ : ∃ x, p1 * q2 = x := ⟨_, rfl⟩
  obtain ⟨D, eD⟩ : ∃ x, q1 * p2 = x := ⟨_, rfl⟩
  rw [eX] at T1 k1 ⊢
  rw [eD] at T2 k2 hD ⊢
  have T3 := Lib.hid fun g W (A : Option Addr) (n c : Nat) (B : Option Addr) (m d : Nat) (hx : U32s W A n c (digs X)) (hy : U32s W B m d (digs D)) => frac_plain g A B n c m d K X D W hx hy hD k1 k2 hK hK2
  clear u1 v1 u2 v2 l1 l2 l3 l4 hD k1 k2 hK hK2 eX eD
  obtain ⟨LB0, LG0_0, LG1_0, LR⟩ := bx3 w #[.bool g1, .slice A1 n1 c1, .slice B1 m1 d1] 60 #[.bool g2, .slice A2 n2 c2, .slice B2 m2 d2] 60 #[.bool false, .slice none 0 0, .slice none 0 0] 60
  have LR0 := Lib.hid (HasBlk.of (n := 3) LR.out rfl rfl)
  clear LR
  go_enter Tryz.func209, Tryz.ntmps209
  go_wp2_with fail
  refine wp_region_held_drew (S := fun W' => Blk W' w.heap.size 60 #[.bool g1, .slice A1 n1 c1, .slice B1 m1 d1] ∧ Blk W' (w.heap.size + 1) 60 #[.bool g2, .slice A2 n2 c2, .slice B2 m2 d2] ∧ HasBlk W' (w.heap.size + 2) 60 3 ∧ Below w.heap.size w W') (by kernel_rfl) (by exact ⟨LG0_0.out.drew, LG1_0.out.drew, LR0.out.drew, LB0.out.drew⟩) (fun hHeld => ?_)
  refine tk 0 ?_
  try simp only [Act.put, lay]
  refine tk 1 ?_ (hv := by intro W2 hSw; obtain ⟨q0, q1, q2⟩ := hSw.1.c3; go_simp; (try with_reducible rfl))
  try simp only [Act.put, lay]
  refine tk 2 ?_
  try simp only [Act.put, lay]
  refine tk 3 ?_ (hv := by intro W2 hSw; obtain ⟨q0, q1, q2⟩ := hSw.2.1.c3; go_simp; (try with_reducible rfl))
  try simp only [Act.put, lay]
  refine tk 4 ?_
  try simp only [Act.put, lay]
  refine tk 5 ?_
  try simp only [Act.put, lay]
  refine tk 6 ?_ (hv := by intro W2 hSw; obtain ⟨q0, q1, q2⟩ := hSw.1.c3; go_simp; (try with_reducible rfl))
  try simp only [Act.put, lay]
  refine tk 7 ?_
  try simp only [Act.put, lay]
  refine tk 8 ?_ (hv := by intro W2 hSw; obtain ⟨q0, q1, q2⟩ := hSw.2.1.c3; go_simp; (try with_reducible rfl))
  try simp only [Act.put, lay]
  refine tk 10 ?_
  try simp only [Act.put, lay]
  refine tk 11 ?_ (hv := by intro W2 hSw; obtain ⟨q0, q1, q2⟩ := hSw.1.c3; go_simp; (try with_reducible rfl))
  try simp only [Act.put, lay]
  refine tk 12 ?_
  try simp only [Act.put, lay]
  refine tk 13 ?_ (hv := by intro W2 hSw; obtain ⟨q0, q1, q2⟩ := hSw.2.1.c3; go_simp; (try with_reducible rfl))
  try simp only [Act.put, lay]
  refine rdy 9 (fun KK hKK => ?_)
  go_simp
  refine (T1.out _ hHeld.2.2.2).mono ?_
  rintro e w1 ⟨AX, nX, cX, rfl, hX, hbA⟩
  go_wp2_with fail
  refine hKK.out _ _ (⟨hHeld.1.keep hbA, hHeld.2.1.keep hbA, hHeld.2.2.1.keep hbA, hHeld.2.2.2.trans (hbA.mono hHeld.2.2.2.size)⟩) (fun _ => ?_)
  clear hKK KK hHeld; rename_i hHeld
  try simp only [Act.put, lay]
  refine rdy 14 (fun KK hKK => ?_)
  go_simp
  refine (T2.out _ hHeld.2.2.2).mono ?_
  rintro e w2 ⟨AY, nY, cY, rfl, hY, hbB⟩
  go_wp2_with fail
  refine hKK.out _ _ (⟨hHeld.1.keep hbB, hHeld.2.1.keep hbB, hHeld.2.2.1.keep hbB, hHeld.2.2.2.trans (hbB.mono hHeld.2.2.2.size)⟩) (fun _ => ?_)
  clear hKK KK hHeld; rename_i hHeld
  try simp only [Act.put, lay]
  refine rdy 15 (fun KK hKK => ?_)
  go_simp
  refine (T3.out _ _ _ _ _ _ _ _ (hX.below hbB) hY).mono ?_
  rintro e w3 ⟨gz, vn, vd, rfl, hR, hbC⟩; obtain ⟨AZ, nZ, cZ, BZ, mZ, dZ, rfl, rfl⟩ := hR.shape
  go_wp2_with fail
  refine hKK.out _ _ (⟨hHeld.1.keep hbC, hHeld.2.1.keep hbC, hHeld.2.2.1.keep hbC, hHeld.2.2.2.trans (hbC.mono hHeld.2.2.2.size)⟩) (fun _ => ?_)
  clear hKK KK hHeld; rename_i hHeld
  try simp only [Act.put, lay]
  refine rdy 16 (fun KK hKK => ?_)
  have ha0 := hHeld.2.2.1.someCell 0 (by decide); have hf0 := hHeld.2.2.1.frozen 0; have ha1 := hHeld.2.2.1.someCell 1 (by decide); have hf1 := hHeld.2.2.1.frozen 1; have ha2 := hHeld.2.2.1.someCell 2 (by decide); have hf2 := hHeld.2.2.1.frozen 2; have HK := Lib.hid (hHeld.2.2.1.setCell [.bool gz, .slice AZ nZ cZ, .slice BZ mZ dZ] rfl); have F := Lib.hid (below_sets (w0 := w) (r := (w.heap.size + 2)) (by omega) [.bool gz, .slice AZ nZ cZ, .slice BZ mZ dZ] 0 _ hHeld.2.2.2); have FR := Lib.hid (hHeld.2.2.1.rat hR [.bool gz, .slice AZ nZ cZ, .slice BZ mZ dZ])
  go_simp
  refine hKK.out _ _ (⟨hHeld.1.other (by omega) 0 [.bool gz, .slice AZ nZ cZ, .slice BZ mZ dZ], hHeld.2.1.other (by omega) 0 [.bool gz, .slice AZ nZ cZ, .slice BZ mZ dZ], hHeld.2.2.1.sets [.bool gz, .slice AZ nZ cZ, .slice BZ mZ dZ] rfl rfl, below_sets (by omega) [.bool gz, .slice AZ nZ cZ, .slice BZ mZ dZ] 0 _ hHeld.2.2.2⟩) (fun _ => ?_)
  clear hKK KK hHeld; rename_i hHeld
  try simp only [Act.put, lay]
  refine wpAnyH_done (by kernel_rfl) ?_ _
  have hk0 := HK.out 0 (by decide)
  have hk1 := HK.out 1 (by decide)
  have hk2 := HK.out 2 (by decide)
  simp [sets] at hk0 hk1 hk2
  clear hHeld HK hX hbA hY hbB hR hbC
  clear LB0 LR0 LG0_0 LG1_0
  go_wp2
  refine bodyPost_ret (v := .agg #[.bool gz, .slice AZ nZ cZ, .slice BZ mZ dZ]) (by simp [results, Tryz.results209, go_sem, hk0, hk1, hk2]) rfl ?_
  exact ⟨_, _, _, rfl, FR.out, F.out⟩
theorem rquo_v (K : Nat) (g1 : Bool) (vn1 vd1 : Value) (x1 : Rat) (g2 : Bool) (vn2 vd2 : Value) (x2 : Rat) (w : World) (h1 : RatV w K g1 vn1 vd1 x1) (h2 : RatV w K g2 vn2 vd2 x2) (hK0 : 1 ≤ K) (hK : K ≤ 1048576) (hx : x2 ≠ 0) :
    Calls Tryz.prog 209 #[.agg #[.bool g1, vn1, vd1], .agg #[.bool g2, vn2, vd2]] w (NewRat w (2 * K) (x1 / x2)) := by
  obtain ⟨p1, q1, A1, n1, c1, B1, m1, d1, rfl, rfl, u1, v1, hq1, -, k1, k2, rfl⟩ := h1
  obtain ⟨p2, q2, A2, n2, c2, B2, m2, d2, rfl, rfl, u2, v2, hq2, -, k3, k4, rfl⟩ := h2
  have l1 := u1.len_le k1
  have l2 := v1.len_le k2
  have l3 := u2.len_le k3
  have l4 := v2.len_le k4
  have hp2 : 0 < p2 := by
    rcases Nat.eq_zero_or_pos p2 with h | h
    · exact absurd (by rw [h, rv_zero]) hx
    · exact h
  rw [rv_quo _ _ _ _ _ _ hq1 hq2 hp2]
  exact rquo_walk (2 * K) g1 g2 p1 q1 p2 q2 A1 n1 c1 B1 m1 d1 A2 n2 c2 B2 m2 d2 w u1 v1 u2 v2 (by omega) (by omega) (by omega) (by omega) (Nat.mul_pos hq1 hp2) (pow_mm _ _ k1 k4) (pow_mm _ _ k2 k3) (by omega) (by omega)
theorem sign6_any (K : Nat) (s1 : Int) (g1 : Bool) (A1 : Option Addr) (n1 c1 : Nat) (B1 : Option Addr) (m1 d1 : Nat) (x1 : Rat) (w : World) (h1 : RatV w K g1 (.slice A1 n1 c1) (.slice B1 m1 d1) x1) (hK : K ≤ 1073741824) :
    Calls Tryz.prog 86 #[.agg #[.int .i64 s1, .bool g1, .slice A1 n1 c1, .slice B1 m1 d1]] w fun e w' => e = .returned (.int .i64 (esx s1 x1)) ∧ Below w.heap.size w w' := by
  have HS := Lib.hid fun W (hW : Below w.heap.size w W) => rsign_any K g1 (.slice A1 n1 c1) (.slice B1 m1 d1) x1 W (h1.below hW) hK
  unfold esx
  clear h1 hK
  obtain ⟨LB0, LG0_0⟩ := bx1 w #[.int .i64 s1, .bool g1, .slice A1 n1 c1, .slice B1 m1 d1] 67
  by_cases hs : s1 = 0
  · subst hs
    simp only [ne_eq, not_true_eq_false, if_false]
    obtain ⟨r, hr⟩ : ∃ r, rsg x1 = r := ⟨_, rfl⟩
    rw [hr] at HS ⊢
    clear hr
    go_enter Tryz.func86, Tryz.ntmps86
    obtain ⟨q0_0, q0_1, q0_2, q0_3⟩ := LG0_0.out.c4
    go_wp2_with fail
    refine (HS.out _ LB0.out).mono ?_
    rintro e w1 ⟨rfl, hb1⟩
    have F := Lib.hid (LB0.out.trans (hb1.mono LB0.out.size))
    clear hb1
    go_wp2
    go_ret
    exact ⟨rfl, F.out⟩
  · rw [if_pos hs]
    have hz : (s1 == 0) = false := by simpa using hs
    have hz2 : (s1 != 0) = true := by simp [hs]
    clear hs HS
    have F := Lib.hid LB0.out
    go_enter Tryz.func86, Tryz.ntmps86
    obtain ⟨q0_0, q0_1, q0_2, q0_3⟩ := LG0_0.out.c4
    go_wp2
    go_ret
    exact ⟨rfl, F.out⟩
theorem ratio_nought (K : Nat) (s1 : Int) (g1 : Bool) (A1 : Option Addr) (n1 c1 : Nat) (B1 : Option Addr) (m1 d1 : Nat) (x1 : Rat) (s2 : Int) (g2 : Bool) (A2 : Option Addr) (n2 c2 : Nat) (B2 : Option Addr) (m2 d2 : Nat) (x2 : Rat) (w : World) (h1 : RatV w K g1 (.slice A1 n1 c1) (.slice B1 m1 d1) x1) (h2 : RatV w K g2 (.slice A2 n2 c2) (.slice B2 m2 d2) x2) (hK0 : 1 ≤ K) (hK : K ≤ 1048576) (hs : esx s1 x1 = 0) :
    Calls Tryz.prog 147 #[.agg #[.int .i64 s1, .bool g1, .slice A1 n1 c1, .slice B1 m1 d1], .agg #[.int .i64 s2, .bool g2, .slice A2 n2 c2, .slice B2 m2 d2]] w (NewBd w 1 0 0 1 false) := by
  have HS := Lib.hid fun W (hW : Below w.heap.size w W) => sign6_any K s1 g1 A1 n1 c1 B1 m1 d1 x1 W (h1.below hW) (by omega)
  rw [hs] at HS
  have HW := Lib.hid fun W => whole_nat 0 false W (by omega)
  clear h1 h2 hs hK0 hK
  obtain ⟨LB0, LG0_0, LG1_0, LR⟩ := bx3 w #[.int .i64 s1, .bool g1, .slice A1 n1 c1, .slice B1 m1 d1] 67 #[.int .i64 s2, .bool g2, .slice A2 n2 c2, .slice B2 m2 d2] 67 #[.int .i64 0, .bool false, .slice none 0 0, .slice none 0 0, .int .i64 0, .bool false] 62
  have LR0 := Lib.hid (HasBlk.of (n := 6) LR.out rfl rfl)
  clear LR
  go_enter Tryz.func147, Tryz.ntmps147
  obtain ⟨q0_0, q0_1, q0_2, q0_3⟩ := LG0_0.out.c4
  go_wp2_with fail
  refine (HS.out _ LB0.out).mono ?_
  rintro e w1 ⟨rfl, hb1⟩
  have LB1 := stB LB0 hb1 LB0.out.size
  have LR1 := stR LR0 hb1
  have LG0_1 := stG LG0_0 hb1
  have LG1_1 := stG LG1_0 hb1
  clear LB0 LR0 LG0_0 LG1_0
  clear hb1 HS q0_0 q0_1 q0_2 q0_3
  go_wp2_with fail
  refine (HW.out _).mono ?_
  rintro e w2 ⟨gz, AZ, nZ, cZ, BZ, mZ, dZ, rfl, hR, hb2⟩
  have LB2 := stB LB1 hb2 LB1.out.size
  have LR2 := stR LR1 hb2
  have LG0_2 := stG LG0_1 hb2
  have LG1_2 := stG LG1_1 hb2
  clear LB1 LR1 LG0_1 LG1_1
  clear HW
  have FR := Lib.hid (LR2.out.rat hR [.int .i64 0, .bool gz, .slice AZ nZ cZ, .slice BZ mZ dZ, .int .i64 1, .bool false])
  clear hR hb2
  obtain ⟨ha0, hf0, ha1, hf1, ha2, hf2, ha3, hf3, ha4, hf4, ha5, hf5⟩ := LR2.out.sf6
  obtain ⟨hk0, hk1, hk2, hk3, hk4, hk5⟩ := LR2.out.sc6 (.int .i64 0) (.bool gz) (.slice AZ nZ cZ) (.slice BZ mZ dZ) (.int .i64 1) (.bool false)
  have F := Lib.hid (below_sets (w0 := w) (r := (w.heap.size + 2)) (by omega) [.int .i64 0, .bool gz, .slice AZ nZ cZ, .slice BZ mZ dZ, .int .i64 1, .bool false] 0 _ LB2.out)
  simp [sets] at hk0 hk1 hk2 hk3 hk4 hk5
  go_wp2
  refine bodyPost_ret (v := .agg #[.int .i64 0, .bool gz, .slice AZ nZ cZ, .slice BZ mZ dZ, .int .i64 1, .bool false]) (by simp [results, Tryz.results147, go_sem, hk0, hk1, hk2, hk3, hk4, hk5]) rfl ?_
  exact ⟨_, _, _, _, _, _, _, rfl, FR.out, F.out⟩
theorem ratio_inf (K : Nat) (s1 : Int) (g1 : Bool) (A1 : Option Addr) (n1 c1 : Nat) (B1 : Option Addr) (m1 d1 : Nat) (x1 : Rat) (s2 : Int) (g2 : Bool) (A2 : Option Addr) (n2 c2 : Nat) (B2 : Option Addr) (m2 d2 : Nat) (x2 : Rat) (w : World) (h1 : RatV w K g1 (.slice A1 n1 c1) (.slice B1 m1 d1) x1) (h2 : RatV w K g2 (.slice A2 n2 c2) (.slice B2 m2 d2) x2) (hK0 : 1 ≤ K) (hK : K ≤ 1048576) (hs : esx s1 x1 ≠ 0) (ht : s2 ≠ 0) :
    Calls Tryz.prog 147 #[.agg #[.int .i64 s1, .bool g1, .slice A1 n1 c1, .slice B1 m1 d1], .agg #[.int .i64 s2, .bool g2, .slice A2 n2 c2, .slice B2 m2 d2]] w (NewBd w 1 0 0 1 true) := by
  have HS := Lib.hid fun W (hW : Below w.heap.size w W) => sign6_any K s1 g1 A1 n1 c1 B1 m1 d1 x1 W (h1.below hW) (by omega)
  obtain ⟨sg, hsg⟩ : ∃ z, esx s1 x1 = z := ⟨_, rfl⟩
  rw [hsg] at HS hs
  have hz : (sg == 0) = false := by simpa using hs
  have HW := Lib.hid fun W => whole_nat 0 true W (by omega)
  have hz2 : (s2 == 0) = false := by simpa using ht
  have hz3 : (s2 != 0) = true := by simp [ht]
  clear h1 h2 hs hsg ht hK0 hK
  obtain ⟨LB0, LG0_0, LG1_0, LR⟩ := bx3 w #[.int .i64 s1, .bool g1, .slice A1 n1 c1, .slice B1 m1 d1] 67 #[.int .i64 s2, .bool g2, .slice A2 n2 c2, .slice B2 m2 d2] 67 #[.int .i64 0, .bool false, .slice none 0 0, .slice none 0 0, .int .i64 0, .bool false] 62
  have LR0 := Lib.hid (HasBlk.of (n := 6) LR.out rfl rfl)
  clear LR
  go_enter Tryz.func147, Tryz.ntmps147
  obtain ⟨q0_0, q0_1, q0_2, q0_3⟩ := LG0_0.out.c4
  go_wp2_with fail
  refine (HS.out _ LB0.out).mono ?_
  rintro e w1 ⟨rfl, hb1⟩
  have LB1 := stB LB0 hb1 LB0.out.size
  have LR1 := stR LR0 hb1
  have LG0_1 := stG LG0_0 hb1
  have LG1_1 := stG LG1_0 hb1
  clear LB0 LR0 LG0_0 LG1_0
  clear hb1 HS q0_0 q0_1 q0_2 q0_3
  obtain ⟨q1_0, q1_1, q1_2, q1_3⟩ := LG1_1.out.c4
  go_wp2_with fail
  refine (HW.out _).mono ?_
  rintro e w2 ⟨gz, AZ, nZ, cZ, BZ, mZ, dZ, rfl, hR, hb2⟩
  have LB2 := stB LB1 hb2 LB1.out.size
  have LR2 := stR LR1 hb2
  have LG0_2 := stG LG0_1 hb2
  have LG1_2 := stG LG1_1 hb2
  clear LB1 LR1 LG0_1 LG1_1
  clear HW q1_0 q1_1 q1_2 q1_3
  have FR := Lib.hid (LR2.out.rat hR [.int .i64 0, .bool gz, .slice AZ nZ cZ, .slice BZ mZ dZ, .int .i64 1, .bool true])
  clear hR hb2
  obtain ⟨ha0, hf0, ha1, hf1, ha2, hf2, ha3, hf3, ha4, hf4, ha5, hf5⟩ := LR2.out.sf6
  obtain ⟨hk0, hk1, hk2, hk3, hk4, hk5⟩ := LR2.out.sc6 (.int .i64 0) (.bool gz) (.slice AZ nZ cZ) (.slice BZ mZ dZ) (.int .i64 1) (.bool true)
  have F := Lib.hid (below_sets (w0 := w) (r := (w.heap.size + 2)) (by omega) [.int .i64 0, .bool gz, .slice AZ nZ cZ, .slice BZ mZ dZ, .int .i64 1, .bool true] 0 _ LB2.out)
  simp [sets] at hk0 hk1 hk2 hk3 hk4 hk5
  go_wp2
  refine bodyPost_ret (v := .agg #[.int .i64 0, .bool gz, .slice AZ nZ cZ, .slice BZ mZ dZ, .int .i64 1, .bool true]) (by simp [results, Tryz.results147, go_sem, hk0, hk1, hk2, hk3, hk4, hk5]) rfl ?_
  exact ⟨_, _, _, _, _, _, _, rfl, FR.out, F.out⟩
theorem ratio_far (K : Nat) (s1 : Int) (g1 : Bool) (A1 : Option Addr) (n1 c1 : Nat) (B1 : Option Addr) (m1 d1 : Nat) (x1 : Rat) (s2 : Int) (g2 : Bool) (A2 : Option Addr) (n2 c2 : Nat) (B2 : Option Addr) (m2 d2 : Nat) (x2 : Rat) (w : World) (h1 : RatV w K g1 (.slice A1 n1 c1) (.slice B1 m1 d1) x1) (h2 : RatV w K g2 (.slice A2 n2 c2) (.slice B2 m2 d2) x2) (hK0 : 1 ≤ K) (hK : K ≤ 1048576) (hs : esx s1 x1 ≠ 0) (h0 : s2 = 0) (ht : s1 ≠ 0) :
    Calls Tryz.prog 147 #[.agg #[.int .i64 s1, .bool g1, .slice A1 n1 c1, .slice B1 m1 d1], .agg #[.int .i64 s2, .bool g2, .slice A2 n2 c2, .slice B2 m2 d2]] w (NewBd w 1 (esx s1 x1) 0 1 true) := by
  have HS := Lib.hid fun W (hW : Below w.heap.size w W) => sign6_any K s1 g1 A1 n1 c1 B1 m1 d1 x1 W (h1.below hW) (by omega)
  obtain ⟨sg, hsg⟩ : ∃ z, esx s1 x1 = z := ⟨_, rfl⟩
  rw [hsg] at HS hs
  have hz : (sg == 0) = false := by simpa using hs
  have HW := Lib.hid fun W => far_any sg W
  have hz3 : (s1 == 0) = false := by simpa using ht
  have hz4 : (s1 != 0) = true := by simp [ht]
  rw [hsg]
  subst h0
  clear h1 h2 hs hsg ht hK0 hK
  obtain ⟨LB0, LG0_0, LG1_0, LR⟩ := bx3 w #[.int .i64 s1, .bool g1, .slice A1 n1 c1, .slice B1 m1 d1] 67 #[.int .i64 0, .bool g2, .slice A2 n2 c2, .slice B2 m2 d2] 67 #[.int .i64 0, .bool false, .slice none 0 0, .slice none 0 0, .int .i64 0, .bool false] 62
  have LR0 := Lib.hid (HasBlk.of (n := 6) LR.out rfl rfl)
  clear LR
  go_enter Tryz.func147, Tryz.ntmps147
  obtain ⟨q0_0, q0_1, q0_2, q0_3⟩ := LG0_0.out.c4
  go_wp2_with fail
  refine (HS.out _ LB0.out).mono ?_
  rintro e w1 ⟨rfl, hb1⟩
  have LB1 := stB LB0 hb1 LB0.out.size
  have LR1 := stR LR0 hb1
  have LG0_1 := stG LG0_0 hb1
  have LG1_1 := stG LG1_0 hb1
  clear LB0 LR0 LG0_0 LG1_0
  clear hb1 HS q0_0 q0_1 q0_2 q0_3
  obtain ⟨q0_0, q0_1, q0_2, q0_3⟩ := LG0_1.out.c4
  obtain ⟨q1_0, q1_1, q1_2, q1_3⟩ := LG1_1.out.c4
  go_wp2_with fail
  refine (HW.out _).mono ?_
  rintro e w2 ⟨gz, AZ, nZ, cZ, BZ, mZ, dZ, rfl, hR, hb2⟩
  have LB2 := stB LB1 hb2 LB1.out.size
  have LR2 := stR LR1 hb2
  have LG0_2 := stG LG0_1 hb2
  have LG1_2 := stG LG1_1 hb2
  clear LB1 LR1 LG0_1 LG1_1
  clear HW q0_0 q0_1 q0_2 q0_3 q1_0 q1_1 q1_2 q1_3
  have FR := Lib.hid (LR2.out.rat hR [.int .i64 sg, .bool gz, .slice AZ nZ cZ, .slice BZ mZ dZ, .int .i64 1, .bool true])
  clear hR hb2
  obtain ⟨ha0, hf0, ha1, hf1, ha2, hf2, ha3, hf3, ha4, hf4, ha5, hf5⟩ := LR2.out.sf6
  obtain ⟨hk0, hk1, hk2, hk3, hk4, hk5⟩ := LR2.out.sc6 (.int .i64 sg) (.bool gz) (.slice AZ nZ cZ) (.slice BZ mZ dZ) (.int .i64 1) (.bool true)
  have F := Lib.hid (below_sets (w0 := w) (r := (w.heap.size + 2)) (by omega) [.int .i64 sg, .bool gz, .slice AZ nZ cZ, .slice BZ mZ dZ, .int .i64 1, .bool true] 0 _ LB2.out)
  simp [sets] at hk0 hk1 hk2 hk3 hk4 hk5
  go_wp2
  refine bodyPost_ret (v := .agg #[.int .i64 sg, .bool gz, .slice AZ nZ cZ, .slice BZ mZ dZ, .int .i64 1, .bool true]) (by simp [results, Tryz.results147, go_sem, hk0, hk1, hk2, hk3, hk4, hk5]) rfl ?_
  exact ⟨_, _, _, _, _, _, _, rfl, FR.out, F.out⟩
theorem ratio_zero (K : Nat) (s1 : Int) (g1 : Bool) (A1 : Option Addr) (n1 c1 : Nat) (B1 : Option Addr) (m1 d1 : Nat) (x1 : Rat) (s2 : Int) (g2 : Bool) (A2 : Option Addr) (n2 c2 : Nat) (B2 : Option Addr) (m2 d2 : Nat) (x2 : Rat) (w : World) (h1 : RatV w K g1 (.slice A1 n1 c1) (.slice B1 m1 d1) x1) (h2 : RatV w K g2 (.slice A2 n2 c2) (.slice B2 m2 d2) x2) (hK0 : 1 ≤ K) (hK : K ≤ 1048576) (hs : esx s1 x1 ≠ 0) (h0 : s2 = 0) (ht : s1 = 0) (hx : x2 = 0) :
    Calls Tryz.prog 147 #[.agg #[.int .i64 s1, .bool g1, .slice A1 n1 c1, .slice B1 m1 d1], .agg #[.int .i64 s2, .bool g2, .slice A2 n2 c2, .slice B2 m2 d2]] w (NewBd w 1 (esx s1 x1) 0 1 true) := by
  have HS := Lib.hid fun W (hW : Below w.heap.size w W) => sign6_any K s1 g1 A1 n1 c1 B1 m1 d1 x1 W (h1.below hW) (by omega)
  obtain ⟨sg, hsg⟩ : ∃ z, esx s1 x1 = z := ⟨_, rfl⟩
  rw [hsg] at HS hs
  have hz : (sg == 0) = false := by simpa using hs
  have HT := Lib.hid fun W (hW : Below w.heap.size w W) => sign6_any K 0 g2 A2 n2 c2 B2 m2 d2 x2 W (h2.below hW) (by omega)
  rw [show esx 0 x2 = 0 from by rw [hx]; rfl] at HT
  have HW := Lib.hid fun W => far_any sg W
  rw [hsg]
  subst h0
  subst ht
  clear h1 h2 hs hsg hx hK0 hK
  obtain ⟨LB0, LG0_0, LG1_0, LR⟩ := bx3 w #[.int .i64 0, .bool g1, .slice A1 n1 c1, .slice B1 m1 d1] 67 #[.int .i64 0, .bool g2, .slice A2 n2 c2, .slice B2 m2 d2] 67 #[.int .i64 0, .bool false, .slice none 0 0, .slice none 0 0, .int .i64 0, .bool false] 62
  have LR0 := Lib.hid (HasBlk.of (n := 6) LR.out rfl rfl)
  clear LR
  go_enter Tryz.func147, Tryz.ntmps147
  obtain ⟨q0_0, q0_1, q0_2, q0_3⟩ := LG0_0.out.c4
  go_wp2_with fail
  refine (HS.out _ LB0.out).mono ?_
  rintro e w1 ⟨rfl, hb1⟩
  have LB1 := stB LB0 hb1 LB0.out.size
  have LR1 := stR LR0 hb1
  have LG0_1 := stG LG0_0 hb1
  have LG1_1 := stG LG1_0 hb1
  clear LB0 LR0 LG0_0 LG1_0
  clear hb1 HS q0_0 q0_1 q0_2 q0_3
  obtain ⟨q0_0, q0_1, q0_2, q0_3⟩ := LG0_1.out.c4
  obtain ⟨q1_0, q1_1, q1_2, q1_3⟩ := LG1_1.out.c4
  go_wp2_with fail
  refine (HT.out _ LB1.out).mono ?_
  rintro e w2 ⟨rfl, hb2⟩
  have LB2 := stB LB1 hb2 LB1.out.size
  have LR2 := stR LR1 hb2
  have LG0_2 := stG LG0_1 hb2
  have LG1_2 := stG LG1_1 hb2
  clear LB1 LR1 LG0_1 LG1_1
  clear hb2 HT q0_0 q0_1 q0_2 q0_3 q1_0 q1_1 q1_2 q1_3
  go_wp2_with fail
  refine (HW.out _).mono ?_
  rintro e w3 ⟨gz, AZ, nZ, cZ, BZ, mZ, dZ, rfl, hR, hb3⟩
  have LB3 := stB LB2 hb3 LB2.out.size
  have LR3 := stR LR2 hb3
  have LG0_3 := stG LG0_2 hb3
  have LG1_3 := stG LG1_2 hb3
  clear LB2 LR2 LG0_2 LG1_2
  clear HW
  have FR := Lib.hid (LR3.out.rat hR [.int .i64 sg, .bool gz, .slice AZ nZ cZ, .slice BZ mZ dZ, .int .i64 1, .bool true])
  clear hR hb3
  obtain ⟨ha0, hf0, ha1, hf1, ha2, hf2, ha3, hf3, ha4, hf4, ha5, hf5⟩ := LR3.out.sf6
  obtain ⟨hk0, hk1, hk2, hk3, hk4, hk5⟩ := LR3.out.sc6 (.int .i64 sg) (.bool gz) (.slice AZ nZ cZ) (.slice BZ mZ dZ) (.int .i64 1) (.bool true)
  have F := Lib.hid (below_sets (w0 := w) (r := (w.heap.size + 2)) (by omega) [.int .i64 sg, .bool gz, .slice AZ nZ cZ, .slice BZ mZ dZ, .int .i64 1, .bool true] 0 _ LB3.out)
  simp [sets] at hk0 hk1 hk2 hk3 hk4 hk5
  go_wp2
  refine bodyPost_ret (v := .agg #[.int .i64 sg, .bool gz, .slice AZ nZ cZ, .slice BZ mZ dZ, .int .i64 1, .bool true]) (by simp [results, Tryz.results147, go_sem, hk0, hk1, hk2, hk3, hk4, hk5]) rfl ?_
  exact ⟨_, _, _, _, _, _, _, rfl, FR.out, F.out⟩
theorem ratio_fin (K : Nat) (s1 : Int) (g1 : Bool) (A1 : Option Addr) (n1 c1 : Nat) (B1 : Option Addr) (m1 d1 : Nat) (x1 : Rat) (s2 : Int) (g2 : Bool) (A2 : Option Addr) (n2 c2 : Nat) (B2 : Option Addr) (m2 d2 : Nat) (x2 : Rat) (w : World) (h1 : RatV w K g1 (.slice A1 n1 c1) (.slice B1 m1 d1) x1) (h2 : RatV w K g2 (.slice A2 n2 c2) (.slice B2 m2 d2) x2) (hK0 : 1 ≤ K) (hK : K ≤ 1048576) (hs : esx s1 x1 ≠ 0) (h0 : s2 = 0) (ht : s1 = 0) (hx : x2 ≠ 0) :
    Calls Tryz.prog 147 #[.agg #[.int .i64 s1, .bool g1, .slice A1 n1 c1, .slice B1 m1 d1], .agg #[.int .i64 s2, .bool g2, .slice A2 n2 c2, .slice B2 m2 d2]] w (NewBd w (2 * K) 0 (x1 / x2) 1 false) := by
  have HS := Lib.hid fun W (hW : Below w.heap.size w W) => sign6_any K s1 g1 A1 n1 c1 B1 m1 d1 x1 W (h1.below hW) (by omega)
  obtain ⟨sg, hsg⟩ : ∃ z, esx s1 x1 = z := ⟨_, rfl⟩
  rw [hsg] at HS hs
  have hz : (sg == 0) = false := by simpa using hs
  have HT := Lib.hid fun W (hW : Below w.heap.size w W) => sign6_any K 0 g2 A2 n2 c2 B2 m2 d2 x2 W (h2.below hW) (by omega)
  obtain ⟨tg, htg⟩ : ∃ z, esx 0 x2 = z := ⟨_, rfl⟩
  rw [htg] at HT
  have hz5 : (tg == 0) = false := by
    rw [← htg]; unfold esx rsg
    rw [if_neg (by omega), if_neg hx]
    split <;> rfl
  have HW := Lib.hid fun W (hW : Below w.heap.size w W) => (rquo_v K g1 (.slice A1 n1 c1) (.slice B1 m1 d1) x1 g2 (.slice A2 n2 c2) (.slice B2 m2 d2) x2 W (h1.below hW) (h2.below hW) hK0 hK hx).mono fun _ _ h => h.s
  subst h0
  subst ht
  clear h1 h2 hs hsg hx htg hK0 hK
  obtain ⟨LB0, LG0_0, LG1_0, LR⟩ := bx3 w #[.int .i64 0, .bool g1, .slice A1 n1 c1, .slice B1 m1 d1] 67 #[.int .i64 0, .bool g2, .slice A2 n2 c2, .slice B2 m2 d2] 67 #[.int .i64 0, .bool false, .slice none 0 0, .slice none 0 0, .int .i64 0, .bool false] 62
  have LR0 := Lib.hid (HasBlk.of (n := 6) LR.out rfl rfl)
  clear LR
  go_enter Tryz.func147, Tryz.ntmps147
  obtain ⟨q0_0, q0_1, q0_2, q0_3⟩ := LG0_0.out.c4
  go_wp2_with fail
  refine (HS.out _ LB0.out).mono ?_
  rintro e w1 ⟨rfl, hb1⟩
  have LB1 := stB LB0 hb1 LB0.out.size
  have LR1 := stR LR0 hb1
  have LG0_1 := stG LG0_0 hb1
  have LG1_1 := stG LG1_0 hb1
  clear LB0 LR0 LG0_0 LG1_0
  clear hb1 HS q0_0 q0_1 q0_2 q0_3
  obtain ⟨q0_0, q0_1, q0_2, q0_3⟩ := LG0_1.out.c4
  obtain ⟨q1_0, q1_1, q1_2, q1_3⟩ := LG1_1.out.c4
  go_wp2_with fail
  refine (HT.out _ LB1.out).mono ?_
  rintro e w2 ⟨rfl, hb2⟩
  have LB2 := stB LB1 hb2 LB1.out.size
  have LR2 := stR LR1 hb2
  have LG0_2 := stG LG0_1 hb2
  have LG1_2 := stG LG1_1 hb2
  clear LB1 LR1 LG0_1 LG1_1
  clear hb2 HT q0_0 q0_1 q0_2 q0_3 q1_0 q1_1 q1_2 q1_3
  obtain ⟨q0_0, q0_1, q0_2, q0_3⟩ := LG0_2.out.c4
  obtain ⟨q1_0, q1_1, q1_2, q1_3⟩ := LG1_2.out.c4
  go_wp2_with fail
  refine (HW.out _ LB2.out).mono ?_
  rintro e w3 ⟨gz, AZ, nZ, cZ, BZ, mZ, dZ, rfl, hR, hb3⟩
  have LB3 := stB LB2 hb3 LB2.out.size
  have LR3 := stR LR2 hb3
  have LG0_3 := stG LG0_2 hb3
  have LG1_3 := stG LG1_2 hb3
  clear LB2 LR2 LG0_2 LG1_2
  clear HW q0_0 q0_1 q0_2 q0_3 q1_0 q1_1 q1_2 q1_3
  have FR := Lib.hid (LR3.out.rat hR [.int .i64 0, .bool gz, .slice AZ nZ cZ, .slice BZ mZ dZ, .int .i64 1, .bool false])
  clear hR hb3
  obtain ⟨ha0, hf0, ha1, hf1, ha2, hf2, ha3, hf3, ha4, hf4, ha5, hf5⟩ := LR3.out.sf6
  obtain ⟨hk0, hk1, hk2, hk3, hk4, hk5⟩ := LR3.out.sc6 (.int .i64 0) (.bool gz) (.slice AZ nZ cZ) (.slice BZ mZ dZ) (.int .i64 1) (.bool false)
  have F := Lib.hid (below_sets (w0 := w) (r := (w.heap.size + 2)) (by omega) [.int .i64 0, .bool gz, .slice AZ nZ cZ, .slice BZ mZ dZ, .int .i64 1, .bool false] 0 _ LB3.out)
  simp [sets] at hk0 hk1 hk2 hk3 hk4 hk5
  go_wp2
  refine bodyPost_ret (v := .agg #[.int .i64 0, .bool gz, .slice AZ nZ cZ, .slice BZ mZ dZ, .int .i64 1, .bool false]) (by simp [results, Tryz.results147, go_sem, hk0, hk1, hk2, hk3, hk4, hk5]) rfl ?_
  exact ⟨_, _, _, _, _, _, _, rfl, FR.out, F.out⟩
theorem NewBd.up {w w' : World} {K K' : Nat} {s : Int} {x : Rat} {N : Int} {o : Bool} {e : Ending} (h : NewBd w K s x N o e w') (hk : K ≤ K') : NewBd w K' s x N o e w' := by
  obtain ⟨g, A, n, c, B, m, d, rfl, hr, hb⟩ := h
  exact ⟨g, A, n, c, B, m, d, rfl, hr.mono hk, hb⟩
def rt (s1 : Int) (x1 : Rat) (s2 : Int) (x2 : Rat) : Int × Rat × Bool :=
  if esx s1 x1 = 0 then (0, 0, false) else if s2 ≠ 0 then (0, 0, true) else if s1 ≠ 0 ∨ x2 = 0 then (esx s1 x1, 0, true) else (0, x1 / x2, false)
theorem ratio_gen (K : Nat) (s1 : Int) (g1 : Bool) (A1 : Option Addr) (n1 c1 : Nat) (B1 : Option Addr) (m1 d1 : Nat) (x1 : Rat) (s2 : Int) (g2 : Bool) (A2 : Option Addr) (n2 c2 : Nat) (B2 : Option Addr) (m2 d2 : Nat) (x2 : Rat) (w : World) (h1 : RatV w K g1 (.slice A1 n1 c1) (.slice B1 m1 d1) x1) (h2 : RatV w K g2 (.slice A2 n2 c2) (.slice B2 m2 d2) x2) (hK0 : 1 ≤ K) (hK : K ≤ 1048576) :
    Calls Tryz.prog 147 #[.agg #[.int .i64 s1, .bool g1, .slice A1 n1 c1, .slice B1 m1 d1], .agg #[.int .i64 s2, .bool g2, .slice A2 n2 c2, .slice B2 m2 d2]] w (NewBd w (2 * K) (rt s1 x1 s2 x2).1 (rt s1 x1 s2 x2).2.1 1 (rt s1 x1 s2 x2).2.2) := by
  unfold rt
  by_cases hs : esx s1 x1 = 0
  · rw [if_pos hs]
    exact (ratio_nought K s1 g1 A1 n1 c1 B1 m1 d1 x1 s2 g2 A2 n2 c2 B2 m2 d2 x2 w h1 h2 hK0 hK hs).mono fun _ _ h => h.up (by omega)
  · rw [if_neg hs]
    by_cases ht : s2 = 0
    · rw [if_neg (by simpa using ht)]
      by_cases h3 : s1 = 0
      · by_cases hx : x2 = 0
        · rw [if_pos (.inr hx)]
          exact (ratio_zero K s1 g1 A1 n1 c1 B1 m1 d1 x1 s2 g2 A2 n2 c2 B2 m2 d2 x2 w h1 h2 hK0 hK hs ht h3 hx).mono fun _ _ h => h.up (by omega)
        · rw [if_neg (by rintro (h | h); exact h h3; exact hx h)]
          exact ratio_fin K s1 g1 A1 n1 c1 B1 m1 d1 x1 s2 g2 A2 n2 c2 B2 m2 d2 x2 w h1 h2 hK0 hK hs ht h3 hx
      · rw [if_pos (.inl h3)]
        exact (ratio_far K s1 g1 A1 n1 c1 B1 m1 d1 x1 s2 g2 A2 n2 c2 B2 m2 d2 x2 w h1 h2 hK0 hK hs ht h3).mono fun _ _ h => h.up (by omega)
    · rw [if_pos ht]
      exact (ratio_inf K s1 g1 A1 n1 c1 B1 m1 d1 x1 s2 g2 A2 n2 c2 B2 m2 d2 x2 w h1 h2 hK0 hK hs ht).mono fun _ _ h => h.up (by omega)
end Go.Proofs.YtmjkmoahkanblaaGreat
