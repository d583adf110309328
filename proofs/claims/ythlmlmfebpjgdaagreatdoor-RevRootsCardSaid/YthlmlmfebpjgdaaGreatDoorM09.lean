/-
Walks: package vergeref10, bounds and pieces.
Walks: package vergeref6, Least, Neg.
Walks: package vergeref6, Neg.
-/
import Derived.Test.YthlmlmfebpjgdaaGreatDoorM04
import Derived.Test.YthlmlmfebpjgdaaGreatDoorM08
import Derived.Test.YthlmlmfebpjgdaaGreatDoorM07
import Derived.Deep.DeepCutAuto
set_option linter.unusedSimpArgs false
set_option linter.unusedVariables false
set_option maxHeartbeats 12800000

namespace Go.Proofs.YthlmlmfebpjgdaaGreatDoor
open Go.RowKit
def NewBd (w : World) (K : Nat) (s : Int) (x : Rat) (N : Int) (op : Bool) (e : Ending) (w' : World) : Prop :=
  ∃ neg A n c B m d, e = .returned (.agg #[.int .i64 s, .bool neg, .slice A n c, .slice B m d, .int .i64 N, .bool op]) ∧ RatV w' K neg (.slice A n c) (.slice B m d) x ∧ Below w.heap.size w w'
def NewPiece (w : World) (K : Nat) (none : Bool) (s : Int) (x : Rat) (N : Int) (o : Bool) (s' : Int) (x' : Rat) (N' : Int) (o' : Bool) (e : Ending) (w' : World) : Prop :=
  ∃ neg A n c B m d neg' A' n' c' B' m' d', e = .returned (.agg #[.bool none, .int .i64 s, .bool neg, .slice A n c, .slice B m d, .int .i64 N, .bool o, .int .i64 s', .bool neg', .slice A' n' c', .slice B' m' d', .int .i64 N', .bool o']) ∧
    RatV w' K neg (.slice A n c) (.slice B m d) x ∧ RatV w' K neg' (.slice A' n' c') (.slice B' m' d') x' ∧ Below w.heap.size w w'
theorem whole_nat (v : Nat) (op : Bool) (w : World) (hv : v < 4294967296) :
    Calls Tryz.prog 177 #[.int .i64 (v : Int), .bool op] w (NewBd w 1 0 (v : Rat) 1 op) := by
  have HS := Lib.hid fun W => (int_nat v W (by omega)).mono fun _ _ h => h.s
  obtain ⟨LB0, LR⟩ := bx1 w #[.int .i64 0, .bool false, .slice none 0 0, .slice none 0 0, .int .i64 0, .bool false] 82
  have LR0 := Lib.hid (HasBlk.of (n := 6) LR.out rfl rfl)
  clear LR
  go_enter Tryz.func177, Tryz.ntmps177
  go_wp2_with fail
  refine (HS.out _).mono ?_
  rintro e w1 ⟨g1, A1, n1, c1, B1, m1, d1, rfl, h1, hb1⟩
  have LB1 := stB LB0 hb1 LB0.out.size
  have LR1 := stR LR0 hb1
  clear LB0 LR0
  obtain ⟨ha0, hf0, ha1, hf1, ha2, hf2, ha3, hf3, ha4, hf4, ha5, hf5⟩ := LR1.out.sf6
  obtain ⟨hk0, hk1, hk2, hk3, hk4, hk5⟩ := LR1.out.sc6 (.int .i64 0) (.bool g1) (.slice A1 n1 c1) (.slice B1 m1 d1) (.int .i64 1) (.bool op)
  have F := Lib.hid (below_sets (w0 := w) (r := w.heap.size) (by omega) [.int .i64 0, .bool g1, .slice A1 n1 c1, .slice B1 m1 d1, .int .i64 1, .bool op] 0 _ LB1.out)
  simp [sets] at hk0 hk1 hk2 hk3 hk4 hk5
  have FR1 := Lib.hid (LR1.out.rat (h1) [.int .i64 0, .bool g1, .slice A1 n1 c1, .slice B1 m1 d1, .int .i64 1, .bool op])
  clear hb1 h1
  go_wp2
  refine bodyPost_ret (v := .agg #[.int .i64 0, .bool g1, .slice A1 n1 c1, .slice B1 m1 d1, .int .i64 1, .bool op]) (by simp [results, Tryz.results177, go_sem, hk0, hk1, hk2, hk3, hk4, hk5]) rfl ?_
  exact ⟨_, _, _, _, _, _, _, rfl, FR1.out, F.out⟩
theorem far_any (s : Int) (w : World) :
    Calls Tryz.prog 178 #[.int .i64 s] w (NewBd w 1 s 0 1 true) := by
  have HS := Lib.hid (show ∀ W, Calls Tryz.prog 51 #[.int .i64 0] W (NewRatS W 1 0) from fun W => (int_nat 0 W (by omega)).mono fun _ _ h => h.s)
  obtain ⟨LB0, LR⟩ := bx1 w #[.int .i64 0, .bool false, .slice none 0 0, .slice none 0 0, .int .i64 0, .bool false] 82
  have LR0 := Lib.hid (HasBlk.of (n := 6) LR.out rfl rfl)
  clear LR
  go_enter Tryz.func178, Tryz.ntmps178
  go_wp2_with fail
  refine (HS.out _).mono ?_
  rintro e w1 ⟨g1, A1, n1, c1, B1, m1, d1, rfl, h1, hb1⟩
  have LB1 := stB LB0 hb1 LB0.out.size
  have LR1 := stR LR0 hb1
  clear LB0 LR0
  obtain ⟨ha0, hf0, ha1, hf1, ha2, hf2, ha3, hf3, ha4, hf4, ha5, hf5⟩ := LR1.out.sf6
  obtain ⟨hk0, hk1, hk2, hk3, hk4, hk5⟩ := LR1.out.sc6 (.int .i64 s) (.bool g1) (.slice A1 n1 c1) (.slice B1 m1 d1) (.int .i64 1) (.bool true)
  have F := Lib.hid (below_sets (w0 := w) (r := w.heap.size) (by omega) [.int .i64 s, .bool g1, .slice A1 n1 c1, .slice B1 m1 d1, .int .i64 1, .bool true] 0 _ LB1.out)
  simp [sets] at hk0 hk1 hk2 hk3 hk4 hk5
  have FR1 := Lib.hid (LR1.out.rat (h1) [.int .i64 s, .bool g1, .slice A1 n1 c1, .slice B1 m1 d1, .int .i64 1, .bool true])
  clear hb1 h1
  go_wp2
  refine bodyPost_ret (v := .agg #[.int .i64 s, .bool g1, .slice A1 n1 c1, .slice B1 m1 d1, .int .i64 1, .bool true]) (by simp [results, Tryz.results178, go_sem, hk0, hk1, hk2, hk3, hk4, hk5]) rfl ?_
  exact ⟨_, _, _, _, _, _, _, rfl, FR1.out, F.out⟩
theorem nothing_any (w : World) :
    Calls Tryz.prog 148 #[] w (NewPiece w 1 true 0 0 1 false 0 0 1 false) := by
  have HS := Lib.hid (show ∀ W, Calls Tryz.prog 177 #[.int .i64 0, .bool false] W (NewBd W 1 0 0 1 false) from fun W => whole_nat 0 false W (by omega))
  obtain ⟨LB0, LR⟩ := bx1 w #[.bool false, .int .i64 0, .bool false, .slice none 0 0, .slice none 0 0, .int .i64 0, .bool false, .int .i64 0, .bool false, .slice none 0 0, .slice none 0 0, .int .i64 0, .bool false] 84
  have LR0 := Lib.hid (HasBlk.of (n := 13) LR.out rfl rfl)
  clear LR
  go_enter Tryz.func148, Tryz.ntmps148
  go_wp2_with fail
  refine (HS.out _).mono ?_
  rintro e w1 ⟨g1, A1, n1, c1, B1, m1, d1, rfl, h1, hb1⟩
  have LB1 := stB LB0 hb1 LB0.out.size
  have LR1 := stR LR0 hb1
  clear LB0 LR0
  go_wp2_with fail
  refine (HS.out _).mono ?_
  rintro e w2 ⟨g2, A2, n2, c2, B2, m2, d2, rfl, h2, hb2⟩
  have LB2 := stB LB1 hb2 LB1.out.size
  have LR2 := stR LR1 hb2
  clear LB1 LR1
  obtain ⟨ha0, hf0, ha1, hf1, ha2, hf2, ha3, hf3, ha4, hf4, ha5, hf5, ha6, hf6, ha7, hf7, ha8, hf8, ha9, hf9, ha10, hf10, ha11, hf11, ha12, hf12⟩ := LR2.out.sf13
  obtain ⟨hk0, hk1, hk2, hk3, hk4, hk5, hk6, hk7, hk8, hk9, hk10, hk11, hk12⟩ := LR2.out.sc13 (.bool true) (.int .i64 0) (.bool g1) (.slice A1 n1 c1) (.slice B1 m1 d1) (.int .i64 1) (.bool false) (.int .i64 0) (.bool g2) (.slice A2 n2 c2) (.slice B2 m2 d2) (.int .i64 1) (.bool false)
  have F := Lib.hid (below_sets (w0 := w) (r := w.heap.size) (by omega) [.bool true, .int .i64 0, .bool g1, .slice A1 n1 c1, .slice B1 m1 d1, .int .i64 1, .bool false, .int .i64 0, .bool g2, .slice A2 n2 c2, .slice B2 m2 d2, .int .i64 1, .bool false] 0 _ LB2.out)
  simp [sets] at hk0 hk1 hk2 hk3 hk4 hk5 hk6 hk7 hk8 hk9 hk10 hk11 hk12
  have FR1 := Lib.hid (LR2.out.rat (h1.below hb2) [.bool true, .int .i64 0, .bool g1, .slice A1 n1 c1, .slice B1 m1 d1, .int .i64 1, .bool false, .int .i64 0, .bool g2, .slice A2 n2 c2, .slice B2 m2 d2, .int .i64 1, .bool false])
  have FR2 := Lib.hid (LR2.out.rat (h2) [.bool true, .int .i64 0, .bool g1, .slice A1 n1 c1, .slice B1 m1 d1, .int .i64 1, .bool false, .int .i64 0, .bool g2, .slice A2 n2 c2, .slice B2 m2 d2, .int .i64 1, .bool false])
  clear hb1 h1 hb2 h2
  go_wp2
  refine bodyPost_ret (v := .agg #[.bool true, .int .i64 0, .bool g1, .slice A1 n1 c1, .slice B1 m1 d1, .int .i64 1, .bool false, .int .i64 0, .bool g2, .slice A2 n2 c2, .slice B2 m2 d2, .int .i64 1, .bool false]) (by simp [results, Tryz.results148, go_sem, hk0, hk1, hk2, hk3, hk4, hk5, hk6, hk7, hk8, hk9, hk10, hk11, hk12]) rfl ?_
  exact ⟨_, _, _, _, _, _, _, _, _, _, _, _, _, _, rfl, FR1.out, FR2.out, F.out⟩
theorem bound_end (K : Nat) (s1 : Int) (g1 : Bool) (A1 : Option Addr) (n1 c1 : Nat) (B1 : Option Addr) (m1 d1 : Nat) (x1 : Rat) (w : World) (h1 : RatV w K g1 (.slice A1 n1 c1) (.slice B1 m1 d1) x1) (hK : 1 ≤ K) (hx : s1 ≠ 0 → x1 = 0) :
    Calls Tryz.prog 149 #[.agg #[.int .i64 s1, .bool g1, .slice A1 n1 c1, .slice B1 m1 d1]] w (NewBd w K s1 x1 1 (decide (s1 ≠ 0))) := by
  by_cases h : s1 = 0
  · subst h
    rw [decide_eq_false (show ¬ ((0 : Int) ≠ 0) from fun h => h rfl)]
    have H1 := Lib.hid h1
    clear h1 hx
    obtain ⟨LB0, LG0_0, LR⟩ := bx2 w #[.int .i64 0, .bool g1, .slice A1 n1 c1, .slice B1 m1 d1] 87 #[.int .i64 0, .bool false, .slice none 0 0, .slice none 0 0, .int .i64 0, .bool false] 82
    have LR0 := Lib.hid (HasBlk.of (n := 6) LR.out rfl rfl)
    clear LR
    clear LB0 LG0_0 LR0
    go_enter Tryz.func149, Tryz.ntmps149
    go_wp2
    refine bodyPost_ret (v := .agg #[.int .i64 0, .bool g1, .slice A1 n1 c1, .slice B1 m1 d1, .int .i64 1, .bool false]) (by simp [results, Tryz.results149, go_sem]) rfl ?_
    exact have b := ((below_alloc w _).alloc (by simp <;> omega) _); ⟨_, _, _, _, _, _, _, rfl, H1.out.below b, b⟩
  · rw [decide_eq_true h, hx h]
    have hq : (s1 == 0) = false := by simp; omega
    have HS := Lib.hid fun W => far_any s1 W
    have HK := Lib.hid hK
    clear h1 hx h hK
    obtain ⟨LB0, LG0_0, LR⟩ := bx2 w #[.int .i64 s1, .bool g1, .slice A1 n1 c1, .slice B1 m1 d1] 87 #[.int .i64 0, .bool false, .slice none 0 0, .slice none 0 0, .int .i64 0, .bool false] 82
    have LR0 := Lib.hid (HasBlk.of (n := 6) LR.out rfl rfl)
    clear LR
    go_enter Tryz.func149, Tryz.ntmps149
    go_wp2_with fail
    refine (HS.out _).mono ?_
    rintro e w1 ⟨g2, A2, n2, c2, B2, m2, d2, rfl, h2, hb1⟩
    have LB1 := stB LB0 hb1 LB0.out.size
    have LR1 := stR LR0 hb1
    have LG0_1 := stG LG0_0 hb1
    clear LB0 LR0 LG0_0
    obtain ⟨ha0, hf0, ha1, hf1, ha2, hf2, ha3, hf3, ha4, hf4, ha5, hf5⟩ := LR1.out.sf6
    obtain ⟨hk0, hk1, hk2, hk3, hk4, hk5⟩ := LR1.out.sc6 (.int .i64 s1) (.bool g2) (.slice A2 n2 c2) (.slice B2 m2 d2) (.int .i64 1) (.bool true)
    have F := Lib.hid (below_sets (w0 := w) (r := (w.heap.size + 1)) (by omega) [.int .i64 s1, .bool g2, .slice A2 n2 c2, .slice B2 m2 d2, .int .i64 1, .bool true] 0 _ LB1.out)
    simp [sets] at hk0 hk1 hk2 hk3 hk4 hk5
    have FR1 := Lib.hid (LR1.out.rat (h2.mono HK.out) [.int .i64 s1, .bool g2, .slice A2 n2 c2, .slice B2 m2 d2, .int .i64 1, .bool true])
    clear hb1 h2
    go_wp2
    refine bodyPost_ret (v := .agg #[.int .i64 s1, .bool g2, .slice A2 n2 c2, .slice B2 m2 d2, .int .i64 1, .bool true]) (by simp [results, Tryz.results149, go_sem, hk0, hk1, hk2, hk3, hk4, hk5]) rfl ?_
    exact ⟨_, _, _, _, _, _, _, rfl, FR1.out, F.out⟩
theorem piece_none (K : Nat) (s1 : Int) (g1 : Bool) (A1 : Option Addr) (n1 c1 : Nat) (B1 : Option Addr) (m1 d1 : Nat) (x1 : Rat) (s2 : Int) (g2 : Bool) (A2 : Option Addr) (n2 c2 : Nat) (B2 : Option Addr) (m2 d2 : Nat) (x2 : Rat) (w : World) :
    Calls Tryz.prog 80 #[.agg #[.bool true, .int .i64 s1, .bool g1, .slice A1 n1 c1, .slice B1 m1 d1, .int .i64 s2, .bool g2, .slice A2 n2 c2, .slice B2 m2 d2]] w (NewPiece w 1 true 0 0 1 false 0 0 1 false) := by
  have HS := Lib.hid fun W => nothing_any W
  obtain ⟨LB0, LG0_0, LR⟩ := bx2 w #[.bool true, .int .i64 s1, .bool g1, .slice A1 n1 c1, .slice B1 m1 d1, .int .i64 s2, .bool g2, .slice A2 n2 c2, .slice B2 m2 d2] 89 #[.bool false, .int .i64 0, .bool false, .slice none 0 0, .slice none 0 0, .int .i64 0, .bool false, .int .i64 0, .bool false, .slice none 0 0, .slice none 0 0, .int .i64 0, .bool false] 84
  have LR0 := Lib.hid (HasBlk.of (n := 13) LR.out rfl rfl)
  clear LR
  go_enter Tryz.func80, Tryz.ntmps80
  go_wp2_with fail
  refine (HS.out _).mono ?_
  rintro e w1 ⟨g3, A3, n3, c3, B3, m3, d3, g4, A4, n4, c4, B4, m4, d4, rfl, h3, h4, hb1⟩
  have LB1 := stB LB0 hb1 LB0.out.size
  have LR1 := stR LR0 hb1
  have LG0_1 := stG LG0_0 hb1
  clear LB0 LR0 LG0_0
  obtain ⟨ha0, hf0, ha1, hf1, ha2, hf2, ha3, hf3, ha4, hf4, ha5, hf5, ha6, hf6, ha7, hf7, ha8, hf8, ha9, hf9, ha10, hf10, ha11, hf11, ha12, hf12⟩ := LR1.out.sf13
  obtain ⟨hk0, hk1, hk2, hk3, hk4, hk5, hk6, hk7, hk8, hk9, hk10, hk11, hk12⟩ := LR1.out.sc13 (.bool true) (.int .i64 0) (.bool g3) (.slice A3 n3 c3) (.slice B3 m3 d3) (.int .i64 1) (.bool false) (.int .i64 0) (.bool g4) (.slice A4 n4 c4) (.slice B4 m4 d4) (.int .i64 1) (.bool false)
  have F := Lib.hid (below_sets (w0 := w) (r := (w.heap.size + 1)) (by omega) [.bool true, .int .i64 0, .bool g3, .slice A3 n3 c3, .slice B3 m3 d3, .int .i64 1, .bool false, .int .i64 0, .bool g4, .slice A4 n4 c4, .slice B4 m4 d4, .int .i64 1, .bool false] 0 _ LB1.out)
  simp [sets] at hk0 hk1 hk2 hk3 hk4 hk5 hk6 hk7 hk8 hk9 hk10 hk11 hk12
  have FR1 := Lib.hid (LR1.out.rat (h3) [.bool true, .int .i64 0, .bool g3, .slice A3 n3 c3, .slice B3 m3 d3, .int .i64 1, .bool false, .int .i64 0, .bool g4, .slice A4 n4 c4, .slice B4 m4 d4, .int .i64 1, .bool false])
  have FR2 := Lib.hid (LR1.out.rat (h4) [.bool true, .int .i64 0, .bool g3, .slice A3 n3 c3, .slice B3 m3 d3, .int .i64 1, .bool false, .int .i64 0, .bool g4, .slice A4 n4 c4, .slice B4 m4 d4, .int .i64 1, .bool false])
  clear hb1 h3 h4
  go_wp2
  refine bodyPost_ret (v := .agg #[.bool true, .int .i64 0, .bool g3, .slice A3 n3 c3, .slice B3 m3 d3, .int .i64 1, .bool false, .int .i64 0, .bool g4, .slice A4 n4 c4, .slice B4 m4 d4, .int .i64 1, .bool false]) (by simp [results, Tryz.results80, go_sem, hk0, hk1, hk2, hk3, hk4, hk5, hk6, hk7, hk8, hk9, hk10, hk11, hk12]) rfl ?_
  exact ⟨_, _, _, _, _, _, _, _, _, _, _, _, _, _, rfl, FR1.out, FR2.out, F.out⟩
theorem piece_some (K : Nat) (s1 : Int) (g1 : Bool) (A1 : Option Addr) (n1 c1 : Nat) (B1 : Option Addr) (m1 d1 : Nat) (x1 : Rat) (s2 : Int) (g2 : Bool) (A2 : Option Addr) (n2 c2 : Nat) (B2 : Option Addr) (m2 d2 : Nat) (x2 : Rat) (w : World) (h1 : RatV w K g1 (.slice A1 n1 c1) (.slice B1 m1 d1) x1) (h2 : RatV w K g2 (.slice A2 n2 c2) (.slice B2 m2 d2) x2) (hK : 1 ≤ K) (hx : s1 ≠ 0 → x1 = 0) (hy : s2 ≠ 0 → x2 = 0) :
    Calls Tryz.prog 80 #[.agg #[.bool false, .int .i64 s1, .bool g1, .slice A1 n1 c1, .slice B1 m1 d1, .int .i64 s2, .bool g2, .slice A2 n2 c2, .slice B2 m2 d2]] w (NewPiece w K false s1 x1 1 (decide (s1 ≠ 0)) s2 x2 1 (decide (s2 ≠ 0))) := by
  have T1 := Lib.hid fun W (hW : Below w.heap.size w W) => bound_end K s1 g1 A1 n1 c1 B1 m1 d1 x1 W (h1.below hW) hK hx
  have T2 := Lib.hid fun W (hW : Below w.heap.size w W) => bound_end K s2 g2 A2 n2 c2 B2 m2 d2 x2 W (h2.below hW) hK hy
  obtain ⟨o3, e1⟩ : ∃ s, decide (s1 ≠ 0) = s := ⟨_, rfl⟩
  obtain ⟨o4, e2⟩ : ∃ s, decide (s2 ≠ 0) = s := ⟨_, rfl⟩
  rw [e1] at T1 ⊢
  rw [e2] at T2 ⊢
  clear h1 h2 e1 e2 hx hy
  obtain ⟨LB0, LG0_0, LR⟩ := bx2 w #[.bool false, .int .i64 s1, .bool g1, .slice A1 n1 c1, .slice B1 m1 d1, .int .i64 s2, .bool g2, .slice A2 n2 c2, .slice B2 m2 d2] 89 #[.bool false, .int .i64 0, .bool false, .slice none 0 0, .slice none 0 0, .int .i64 0, .bool false, .int .i64 0, .bool false, .slice none 0 0, .slice none 0 0, .int .i64 0, .bool false] 84
  have LR0 := Lib.hid (HasBlk.of (n := 13) LR.out rfl rfl)
  clear LR
  go_enter Tryz.func80, Tryz.ntmps80
  go_wp2_with fail
  refine wp_region_held_drew (S := fun W' => Blk W' w.heap.size 89 #[.bool false, .int .i64 s1, .bool g1, .slice A1 n1 c1, .slice B1 m1 d1, .int .i64 s2, .bool g2, .slice A2 n2 c2, .slice B2 m2 d2] ∧ HasBlk W' (w.heap.size + 1) 84 13 ∧ Below w.heap.size w W') (by kernel_rfl) (by exact ⟨LG0_0.out.drew, LR0.out.drew, LB0.out.drew⟩) (fun hHeld => ?_)
  refine tk 0 ?_
  try simp only [Act.put, lay]
  refine tk 1 ?_ (hv := by intro W2 hSw; obtain ⟨q0, q1, q2, q3, q4, q5, q6, q7, q8⟩ := hSw.1.c9; go_simp; (try with_reducible rfl))
  try simp only [Act.put, lay]
  refine tk 3 ?_
  try simp only [Act.put, lay]
  refine tk 4 ?_ (hv := by intro W2 hSw; obtain ⟨q0, q1, q2, q3, q4, q5, q6, q7, q8⟩ := hSw.1.c9; go_simp; (try with_reducible rfl))
  try simp only [Act.put, lay]
  refine rdy 2 (fun KK hKK => ?_)
  go_simp
  refine (T1.out _ ?_).mono ?_; exact hHeld.2.2
  rintro e w3 ⟨g3, A3, n3, c3, B3, m3, d3, rfl, h3, hb3⟩
  go_wp2_with fail
  refine hKK.out _ _ (⟨hHeld.1.keep hb3, hHeld.2.1.keep hb3, hHeld.2.2.trans (hb3.mono hHeld.2.2.size)⟩) (fun _ => ?_)
  clear hKK KK hHeld; rename_i hHeld
  try simp only [Act.put, lay]
  refine rdy 5 (fun KK hKK => ?_)
  go_simp
  refine (T2.out _ ?_).mono ?_; exact hHeld.2.2
  rintro e w4 ⟨g4, A4, n4, c4, B4, m4, d4, rfl, h4, hb4⟩
  go_wp2_with fail
  refine hKK.out _ _ (⟨hHeld.1.keep hb4, hHeld.2.1.keep hb4, hHeld.2.2.trans (hb4.mono hHeld.2.2.size)⟩) (fun _ => ?_)
  clear hKK KK hHeld; rename_i hHeld
  try simp only [Act.put, lay]
  refine tk 6 ?_
  try simp only [Act.put, lay]
  refine rdy 7 (fun KK hKK => ?_)
  have ha0 := hHeld.2.1.someCell 0 (by decide); have hf0 := hHeld.2.1.frozen 0; have ha1 := hHeld.2.1.someCell 1 (by decide); have hf1 := hHeld.2.1.frozen 1; have ha2 := hHeld.2.1.someCell 2 (by decide); have hf2 := hHeld.2.1.frozen 2; have ha3 := hHeld.2.1.someCell 3 (by decide); have hf3 := hHeld.2.1.frozen 3; have ha4 := hHeld.2.1.someCell 4 (by decide); have hf4 := hHeld.2.1.frozen 4; have ha5 := hHeld.2.1.someCell 5 (by decide); have hf5 := hHeld.2.1.frozen 5; have ha6 := hHeld.2.1.someCell 6 (by decide); have hf6 := hHeld.2.1.frozen 6; have ha7 := hHeld.2.1.someCell 7 (by decide); have hf7 := hHeld.2.1.frozen 7; have ha8 := hHeld.2.1.someCell 8 (by decide); have hf8 := hHeld.2.1.frozen 8; have ha9 := hHeld.2.1.someCell 9 (by decide); have hf9 := hHeld.2.1.frozen 9; have ha10 := hHeld.2.1.someCell 10 (by decide); have hf10 := hHeld.2.1.frozen 10; have ha11 := hHeld.2.1.someCell 11 (by decide); have hf11 := hHeld.2.1.frozen 11; have ha12 := hHeld.2.1.someCell 12 (by decide); have hf12 := hHeld.2.1.frozen 12; have HK := Lib.hid (hHeld.2.1.setCell [.bool false, .int .i64 s1, .bool g3, .slice A3 n3 c3, .slice B3 m3 d3, .int .i64 1, .bool o3, .int .i64 s2, .bool g4, .slice A4 n4 c4, .slice B4 m4 d4, .int .i64 1, .bool o4] rfl); have F := Lib.hid (below_sets (w0 := w) (r := (w.heap.size + 1)) (by omega) [.bool false, .int .i64 s1, .bool g3, .slice A3 n3 c3, .slice B3 m3 d3, .int .i64 1, .bool o3, .int .i64 s2, .bool g4, .slice A4 n4 c4, .slice B4 m4 d4, .int .i64 1, .bool o4] 0 _ hHeld.2.2); have FR1 := Lib.hid (hHeld.2.1.rat (h3.below hb4) [.bool false, .int .i64 s1, .bool g3, .slice A3 n3 c3, .slice B3 m3 d3, .int .i64 1, .bool o3, .int .i64 s2, .bool g4, .slice A4 n4 c4, .slice B4 m4 d4, .int .i64 1, .bool o4]); have FR2 := Lib.hid (hHeld.2.1.rat h4 [.bool false, .int .i64 s1, .bool g3, .slice A3 n3 c3, .slice B3 m3 d3, .int .i64 1, .bool o3, .int .i64 s2, .bool g4, .slice A4 n4 c4, .slice B4 m4 d4, .int .i64 1, .bool o4])
  go_simp
  refine hKK.out _ _ (⟨hHeld.1.other (by omega) 0 [.bool false, .int .i64 s1, .bool g3, .slice A3 n3 c3, .slice B3 m3 d3, .int .i64 1, .bool o3, .int .i64 s2, .bool g4, .slice A4 n4 c4, .slice B4 m4 d4, .int .i64 1, .bool o4], hHeld.2.1.sets [.bool false, .int .i64 s1, .bool g3, .slice A3 n3 c3, .slice B3 m3 d3, .int .i64 1, .bool o3, .int .i64 s2, .bool g4, .slice A4 n4 c4, .slice B4 m4 d4, .int .i64 1, .bool o4] rfl rfl, below_sets (by omega) [.bool false, .int .i64 s1, .bool g3, .slice A3 n3 c3, .slice B3 m3 d3, .int .i64 1, .bool o3, .int .i64 s2, .bool g4, .slice A4 n4 c4, .slice B4 m4 d4, .int .i64 1, .bool o4] 0 _ hHeld.2.2⟩) (fun _ => ?_)
  clear hKK KK hHeld; rename_i hHeld
  try simp only [Act.put, lay]
  refine wpAnyH_done (by kernel_rfl) ?_ _
  have hk0 := HK.out 0 (by decide)
  have hk1 := HK.out 1 (by decide)
  have hk2 := HK.out 2 (by decide)
  have hk3 := HK.out 3 (by decide)
  have hk4 := HK.out 4 (by decide)
  have hk5 := HK.out 5 (by decide)
  have hk6 := HK.out 6 (by decide)
  have hk7 := HK.out 7 (by decide)
  have hk8 := HK.out 8 (by decide)
  have hk9 := HK.out 9 (by decide)
  have hk10 := HK.out 10 (by decide)
  have hk11 := HK.out 11 (by decide)
  have hk12 := HK.out 12 (by decide)
  simp [sets] at hk0 hk1 hk2 hk3 hk4 hk5 hk6 hk7 hk8 hk9 hk10 hk11 hk12
  clear hHeld HK h3 hb3 h4 hb4
  clear LB0 LR0 LG0_0
  go_wp2
  refine bodyPost_ret (v := .agg #[.bool false, .int .i64 s1, .bool g3, .slice A3 n3 c3, .slice B3 m3 d3, .int .i64 1, .bool o3, .int .i64 s2, .bool g4, .slice A4 n4 c4, .slice B4 m4 d4, .int .i64 1, .bool o4]) (by simp [results, Tryz.results80, go_sem, hk0, hk1, hk2, hk3, hk4, hk5, hk6, hk7, hk8, hk9, hk10, hk11, hk12]) rfl ?_
  exact ⟨_, _, _, _, _, _, _, _, _, _, _, _, _, _, rfl, FR1.out, FR2.out, F.out⟩
end Go.Proofs.YthlmlmfebpjgdaaGreatDoor

namespace Go.Proofs.YthlmlmfebpjgdaaGreatDoor
open Go.RowKit
def NewLeast (w : World) (s : Int) (x : Rat) (t : Int) (y : Rat) (e : Ending) (w' : World) : Prop :=
  ∃ i j, e = .returned (.agg #[.int .u64 (pat i : Int), .int .u64 (pat j : Int)]) ∧ (s = 0 → Rnd (-1) x i) ∧ (s ≠ 0 → i = -(M : Int)) ∧ (t = 0 → Rnd 1 y j) ∧ (t ≠ 0 → j = M) ∧ Below w.heap.size w w'
theorem least_none (s1 : Int) (g1 : Bool) (A1 : Option Addr) (n1 c1 : Nat) (B1 : Option Addr) (m1 d1 : Nat) (x1 : Rat) (s2 : Int) (g2 : Bool) (A2 : Option Addr) (n2 c2 : Nat) (B2 : Option Addr) (m2 d2 : Nat) (x2 : Rat) (w : World) :
    Calls Tryz.prog 145 #[.agg #[.bool true, .int .i64 s1, .bool g1, .slice A1 n1 c1, .slice B1 m1 d1, .int .i64 s2, .bool g2, .slice A2 n2 c2, .slice B2 m2 d2]] w fun e w' => e = .returned (.agg #[.int .u64 9218868437227405312, .int .u64 18442240474082181120]) ∧ Below w.heap.size w w' := by
  have HE := Lib.hid empty6
  obtain ⟨LB0, LG0_0, LR⟩ := bx2 w #[.bool true, .int .i64 s1, .bool g1, .slice A1 n1 c1, .slice B1 m1 d1, .int .i64 s2, .bool g2, .slice A2 n2 c2, .slice B2 m2 d2] 89 #[.int .u64 0, .int .u64 0] 24
  have LR0 := Lib.hid (HasBlk.of (n := 2) LR.out rfl rfl)
  clear LR
  go_enter Tryz.func145, Tryz.ntmps145
  go_wp2_with fail
  refine (HE.out _).mono ?_
  rintro e w1 ⟨rfl, hb1⟩
  have LB1 := stB LB0 hb1 LB0.out.size
  have LR1 := stR LR0 hb1
  have LG0_1 := stG LG0_0 hb1
  clear LB0 LR0 LG0_0
  obtain ⟨ha0, hf0, ha1, hf1⟩ := LR1.out.sf2
  obtain ⟨hk0, hk1⟩ := LR1.out.sc2 (.int .u64 9218868437227405312) (.int .u64 18442240474082181120)
  have F := Lib.hid (below_sets (w0 := w) (r := (w.heap.size + 1)) (by omega) [.int .u64 9218868437227405312, .int .u64 18442240474082181120] 0 _ LB1.out)
  simp [sets] at hk0 hk1
  clear hb1
  go_wp2
  refine bodyPost_ret (v := .agg #[.int .u64 9218868437227405312, .int .u64 18442240474082181120]) (by simp [results, Tryz.results145, go_sem, hk0, hk1]) rfl ?_
  exact ⟨rfl, F.out⟩
theorem least_some (K : Nat) (s1 : Int) (g1 : Bool) (A1 : Option Addr) (n1 c1 : Nat) (B1 : Option Addr) (m1 d1 : Nat) (x1 : Rat) (s2 : Int) (g2 : Bool) (A2 : Option Addr) (n2 c2 : Nat) (B2 : Option Addr) (m2 d2 : Nat) (x2 : Rat) (w : World) (h1 : RatV w K g1 (.slice A1 n1 c1) (.slice B1 m1 d1) x1) (h2 : RatV w K g2 (.slice A2 n2 c2) (.slice B2 m2 d2) x2) (hK : K ≤ 1048576) :
    Calls Tryz.prog 145 #[.agg #[.bool false, .int .i64 s1, .bool g1, .slice A1 n1 c1, .slice B1 m1 d1, .int .i64 s2, .bool g2, .slice A2 n2 c2, .slice B2 m2 d2]] w (NewLeast w s1 x1 s2 x2) := by
  have HE := Lib.hid entire6
  have T1 := Lib.hid fun W (hW : Below w.heap.size w W) => bits_any K g1 A1 B1 n1 c1 m1 d1 x1 (-1) W (h1.below hW) hK (.inl rfl)
  have T2 := Lib.hid fun W (hW : Below w.heap.size w W) => bits_any K g2 A2 B2 n2 c2 m2 d2 x2 1 W (h2.below hW) hK (.inr rfl)
  clear h1 h2
  by_cases ha : s1 = 0
  · subst ha
    by_cases hb : s2 = 0
    · subst hb
      obtain ⟨LB0, LG0_0, LR⟩ := bx2 w #[.bool false, .int .i64 0, .bool g1, .slice A1 n1 c1, .slice B1 m1 d1, .int .i64 0, .bool g2, .slice A2 n2 c2, .slice B2 m2 d2] 89 #[.int .u64 0, .int .u64 0] 24
      have LR0 := Lib.hid (HasBlk.of (n := 2) LR.out rfl rfl)
      clear LR
      go_enter Tryz.func145, Tryz.ntmps145
      go_wp2_with fail
      refine (HE.out _).mono ?_
      rintro e w1 ⟨rfl, hb1⟩
      have LB1 := stB LB0 hb1 LB0.out.size
      have LR1 := stR LR0 hb1
      have LG0_1 := stG LG0_0 hb1
      clear LB0 LR0 LG0_0
      have hlo := LB1.out.size
      have hlr := LR1.out.lt
      have hlt2 := LR1.out.lt
      have LB2 := Lib.hid (LB1.out.alloc LB1.out.size (.cells #[.int .u64 18442240474082181120, .int .u64 9218868437227405312] 24))
      have LR2 := Lib.hid (LR1.out.alloc (.cells #[.int .u64 18442240474082181120, .int .u64 9218868437227405312] 24))
      have LG0_2 := Lib.hid (LG0_1.out.alloc (.cells #[.int .u64 18442240474082181120, .int .u64 9218868437227405312] 24))
      have LG1_2 := Lib.hid (Blk.new w1 24 #[.int .u64 18442240474082181120, .int .u64 9218868437227405312])
      clear LB1 LR1 LG0_1
      clear hb1
      go_upto_region 4 with fail
      obtain ⟨V2, hV2⟩ : ∃ X, (w1.alloc (.cells #[.int .u64 18442240474082181120, .int .u64 9218868437227405312] 24)) = X := ⟨_, rfl⟩
      rw [hV2] at LB2 LR2 LG0_2 LG1_2 ⊢
      clear hV2
      obtain ⟨q0_0, q0_1, q0_2, q0_3, q0_4, q0_5, q0_6, q0_7, q0_8⟩ := LG0_2.out.c9
      go_wp2_with fail
      refine (T1.out _ LB2.out).mono ?_
      rintro e w2 ⟨i, rfl, hi, hb2⟩
      have LB3 := stB LB2 hb2 LB2.out.size
      have LR3 := stR LR2 hb2
      have LG0_3 := stG LG0_2 hb2
      have LG1_3 := stG LG1_2 hb2
      clear LB2 LR2 LG0_2 LG1_2
      have HI := Lib.hid hi
      clear hi hb2 q0_0 q0_1 q0_2 q0_3 q0_4 q0_5 q0_6 q0_7 q0_8
      have q1_0 := LG1_3.out.ce 0 rfl
      have hf1 := LG1_3.out.frozen 0
      go_upto_region 6 with fail
      clear q1_0 hf1
      have LB4 := Lib.hid (LB3.out.setCell (p := ⟨w1.heap.size, 0, none⟩) (by first | exact Nat.le_refl _ | (show w.heap.size ≤ _ + _; omega) | (show w.heap.size ≤ _; omega)) (.int .u64 (pat i : Int)))
      have LR4 := Lib.hid (show HasBlk (w2.setCell ⟨w1.heap.size, 0, none⟩ (.int .u64 (pat i : Int))) (w.heap.size + 1) 24 2 from LR3.out.other (by omega) 0 [.int .u64 (pat i : Int)])
      have LG0_4 := Lib.hid (show Blk (w2.setCell ⟨w1.heap.size, 0, none⟩ (.int .u64 (pat i : Int))) w.heap.size 89 #[.bool false, .int .i64 0, .bool g1, .slice A1 n1 c1, .slice B1 m1 d1, .int .i64 0, .bool g2, .slice A2 n2 c2, .slice B2 m2 d2] from LG0_3.out.other (by omega) 0 [.int .u64 (pat i : Int)])
      have LG1_4 := Lib.hid (LG1_3.out.set 0 (.int .u64 (pat i : Int)))
      clear LB3 LR3 LG0_3 LG1_3
      obtain ⟨V3, hV3⟩ : ∃ X, w2.setCell ⟨w1.heap.size, 0, none⟩ (.int .u64 (pat i : Int)) = X := ⟨_, rfl⟩
      rw [hV3] at LB4 LR4 LG0_4 LG1_4 ⊢
      clear hV3
      obtain ⟨q0_0, q0_1, q0_2, q0_3, q0_4, q0_5, q0_6, q0_7, q0_8⟩ := LG0_4.out.c9
      go_wp2_with fail
      refine (T2.out _ LB4.out).mono ?_
      rintro e w3 ⟨j, rfl, hj, hb3⟩
      have LB5 := stB LB4 hb3 LB4.out.size
      have LR5 := stR LR4 hb3
      have LG0_5 := stG LG0_4 hb3
      have LG1_5 := stG LG1_4 hb3
      clear LB4 LR4 LG0_4 LG1_4
      have HJ := Lib.hid hj
      clear hj hb3 q0_0 q0_1 q0_2 q0_3 q0_4 q0_5 q0_6 q0_7 q0_8
      have q1_1 := LG1_5.out.ce 1 rfl
      have hf1 := LG1_5.out.frozen 1
      go_upto_region 8 with fail
      clear q1_1 hf1
      have LB6 := Lib.hid (LB5.out.setCell (p := ⟨w1.heap.size, 1, none⟩) (by first | exact Nat.le_refl _ | (show w.heap.size ≤ _ + _; omega) | (show w.heap.size ≤ _; omega)) (.int .u64 (pat j : Int)))
      have LR6 := Lib.hid (show HasBlk (w3.setCell ⟨w1.heap.size, 1, none⟩ (.int .u64 (pat j : Int))) (w.heap.size + 1) 24 2 from LR5.out.other (by omega) 1 [.int .u64 (pat j : Int)])
      have LG0_6 := Lib.hid (show Blk (w3.setCell ⟨w1.heap.size, 1, none⟩ (.int .u64 (pat j : Int))) w.heap.size 89 #[.bool false, .int .i64 0, .bool g1, .slice A1 n1 c1, .slice B1 m1 d1, .int .i64 0, .bool g2, .slice A2 n2 c2, .slice B2 m2 d2] from LG0_5.out.other (by omega) 1 [.int .u64 (pat j : Int)])
      have LG1_6 := Lib.hid (LG1_5.out.set 1 (.int .u64 (pat j : Int)))
      clear LB5 LR5 LG0_5 LG1_5
      obtain ⟨V4, hV4⟩ : ∃ X, w3.setCell ⟨w1.heap.size, 1, none⟩ (.int .u64 (pat j : Int)) = X := ⟨_, rfl⟩
      rw [hV4] at LB6 LR6 LG0_6 LG1_6 ⊢
      clear hV4
      obtain ⟨q1_0, q1_1⟩ := LG1_6.out.c2
      obtain ⟨ha0, hf0, ha1, hf1⟩ := LR6.out.sf2
      obtain ⟨hk0, hk1⟩ := LR6.out.sc2 (.int .u64 (pat i : Int)) (.int .u64 (pat j : Int))
      have F := Lib.hid (below_sets (w0 := w) (r := (w.heap.size + 1)) (by omega) [.int .u64 (pat i : Int), .int .u64 (pat j : Int)] 0 _ LB6.out)
      simp [sets] at hk0 hk1
      clear T1 T2 HE
      have hfin : NewLeast w 0 x1 0 x2 (.returned (.agg #[.int .u64 (pat i : Int), .int .u64 (pat j : Int)])) _ := ⟨i, j, rfl, fun _ => HI.out, fun h => absurd rfl h, fun _ => HJ.out, fun h => absurd rfl h, F.out⟩
      have HFIN := Lib.hid hfin
      clear hfin
      go_wp2
      refine bodyPost_ret (v := .agg #[.int .u64 (pat i : Int), .int .u64 (pat j : Int)]) (by simp [results, Tryz.results145, go_sem, hk0, hk1]) rfl ?_
      exact HFIN.out
    · have hqb : (s2 == 0) = false := by simp; omega
      obtain ⟨LB0, LG0_0, LR⟩ := bx2 w #[.bool false, .int .i64 0, .bool g1, .slice A1 n1 c1, .slice B1 m1 d1, .int .i64 s2, .bool g2, .slice A2 n2 c2, .slice B2 m2 d2] 89 #[.int .u64 0, .int .u64 0] 24
      have LR0 := Lib.hid (HasBlk.of (n := 2) LR.out rfl rfl)
      clear LR
      go_enter Tryz.func145, Tryz.ntmps145
      go_wp2_with fail
      refine (HE.out _).mono ?_
      rintro e w1 ⟨rfl, hb1⟩
      have LB1 := stB LB0 hb1 LB0.out.size
      have LR1 := stR LR0 hb1
      have LG0_1 := stG LG0_0 hb1
      clear LB0 LR0 LG0_0
      have hlo := LB1.out.size
      have hlr := LR1.out.lt
      have hlt2 := LR1.out.lt
      have LB2 := Lib.hid (LB1.out.alloc LB1.out.size (.cells #[.int .u64 18442240474082181120, .int .u64 9218868437227405312] 24))
      have LR2 := Lib.hid (LR1.out.alloc (.cells #[.int .u64 18442240474082181120, .int .u64 9218868437227405312] 24))
      have LG0_2 := Lib.hid (LG0_1.out.alloc (.cells #[.int .u64 18442240474082181120, .int .u64 9218868437227405312] 24))
      have LG1_2 := Lib.hid (Blk.new w1 24 #[.int .u64 18442240474082181120, .int .u64 9218868437227405312])
      clear LB1 LR1 LG0_1
      clear hb1
      go_upto_region 4 with fail
      obtain ⟨V2, hV2⟩ : ∃ X, (w1.alloc (.cells #[.int .u64 18442240474082181120, .int .u64 9218868437227405312] 24)) = X := ⟨_, rfl⟩
      rw [hV2] at LB2 LR2 LG0_2 LG1_2 ⊢
      clear hV2
      obtain ⟨q0_0, q0_1, q0_2, q0_3, q0_4, q0_5, q0_6, q0_7, q0_8⟩ := LG0_2.out.c9
      go_wp2_with fail
      refine (T1.out _ LB2.out).mono ?_
      rintro e w2 ⟨i, rfl, hi, hb2⟩
      have LB3 := stB LB2 hb2 LB2.out.size
      have LR3 := stR LR2 hb2
      have LG0_3 := stG LG0_2 hb2
      have LG1_3 := stG LG1_2 hb2
      clear LB2 LR2 LG0_2 LG1_2
      have HI := Lib.hid hi
      clear hi hb2 q0_0 q0_1 q0_2 q0_3 q0_4 q0_5 q0_6 q0_7 q0_8
      have q1_0 := LG1_3.out.ce 0 rfl
      have hf1 := LG1_3.out.frozen 0
      go_upto_region 6 with fail
      clear q1_0 hf1
      have LB4 := Lib.hid (LB3.out.setCell (p := ⟨w1.heap.size, 0, none⟩) (by first | exact Nat.le_refl _ | (show w.heap.size ≤ _ + _; omega) | (show w.heap.size ≤ _; omega)) (.int .u64 (pat i : Int)))
      have LR4 := Lib.hid (show HasBlk (w2.setCell ⟨w1.heap.size, 0, none⟩ (.int .u64 (pat i : Int))) (w.heap.size + 1) 24 2 from LR3.out.other (by omega) 0 [.int .u64 (pat i : Int)])
      have LG0_4 := Lib.hid (show Blk (w2.setCell ⟨w1.heap.size, 0, none⟩ (.int .u64 (pat i : Int))) w.heap.size 89 #[.bool false, .int .i64 0, .bool g1, .slice A1 n1 c1, .slice B1 m1 d1, .int .i64 s2, .bool g2, .slice A2 n2 c2, .slice B2 m2 d2] from LG0_3.out.other (by omega) 0 [.int .u64 (pat i : Int)])
      have LG1_4 := Lib.hid (LG1_3.out.set 0 (.int .u64 (pat i : Int)))
      clear LB3 LR3 LG0_3 LG1_3
      obtain ⟨V3, hV3⟩ : ∃ X, w2.setCell ⟨w1.heap.size, 0, none⟩ (.int .u64 (pat i : Int)) = X := ⟨_, rfl⟩
      rw [hV3] at LB4 LR4 LG0_4 LG1_4 ⊢
      clear hV3
      obtain ⟨q0_0, q0_1, q0_2, q0_3, q0_4, q0_5, q0_6, q0_7, q0_8⟩ := LG0_4.out.c9
      obtain ⟨q1_0, q1_1⟩ := LG1_4.out.c2
      obtain ⟨ha0, hf0, ha1, hf1⟩ := LR4.out.sf2
      obtain ⟨hk0, hk1⟩ := LR4.out.sc2 (.int .u64 (pat i : Int)) (.int .u64 9218868437227405312)
      have F := Lib.hid (below_sets (w0 := w) (r := (w.heap.size + 1)) (by omega) [.int .u64 (pat i : Int), .int .u64 9218868437227405312] 0 _ LB4.out)
      simp [sets] at hk0 hk1
      clear T1 T2 HE
      have hfin : NewLeast w 0 x1 s2 x2 (.returned (.agg #[.int .u64 (pat i : Int), .int .u64 9218868437227405312])) _ := ⟨i, (M : Int), by rw [pat_max]; rfl, fun _ => HI.out, fun h => absurd rfl h, fun h => absurd h hb, fun _ => rfl, F.out⟩
      have HFIN := Lib.hid hfin
      clear hfin
      go_wp2
      refine bodyPost_ret (v := .agg #[.int .u64 (pat i : Int), .int .u64 9218868437227405312]) (by simp [results, Tryz.results145, go_sem, hk0, hk1]) rfl ?_
      exact HFIN.out
  · have hqa : (s1 == 0) = false := by simp; omega
    by_cases hb : s2 = 0
    · subst hb
      obtain ⟨LB0, LG0_0, LR⟩ := bx2 w #[.bool false, .int .i64 s1, .bool g1, .slice A1 n1 c1, .slice B1 m1 d1, .int .i64 0, .bool g2, .slice A2 n2 c2, .slice B2 m2 d2] 89 #[.int .u64 0, .int .u64 0] 24
      have LR0 := Lib.hid (HasBlk.of (n := 2) LR.out rfl rfl)
      clear LR
      go_enter Tryz.func145, Tryz.ntmps145
      go_wp2_with fail
      refine (HE.out _).mono ?_
      rintro e w1 ⟨rfl, hb1⟩
      have LB1 := stB LB0 hb1 LB0.out.size
      have LR1 := stR LR0 hb1
      have LG0_1 := stG LG0_0 hb1
      clear LB0 LR0 LG0_0
      have hlo := LB1.out.size
      have hlr := LR1.out.lt
      have hlt2 := LR1.out.lt
      have LB2 := Lib.hid (LB1.out.alloc LB1.out.size (.cells #[.int .u64 18442240474082181120, .int .u64 9218868437227405312] 24))
      have LR2 := Lib.hid (LR1.out.alloc (.cells #[.int .u64 18442240474082181120, .int .u64 9218868437227405312] 24))
      have LG0_2 := Lib.hid (LG0_1.out.alloc (.cells #[.int .u64 18442240474082181120, .int .u64 9218868437227405312] 24))
      have LG1_2 := Lib.hid (Blk.new w1 24 #[.int .u64 18442240474082181120, .int .u64 9218868437227405312])
      clear LB1 LR1 LG0_1
      clear hb1
      go_upto_region 4 with fail
      obtain ⟨V2, hV2⟩ : ∃ X, (w1.alloc (.cells #[.int .u64 18442240474082181120, .int .u64 9218868437227405312] 24)) = X := ⟨_, rfl⟩
      rw [hV2] at LB2 LR2 LG0_2 LG1_2 ⊢
      clear hV2
      obtain ⟨q0_0, q0_1, q0_2, q0_3, q0_4, q0_5, q0_6, q0_7, q0_8⟩ := LG0_2.out.c9
      go_wp2_with fail
      refine (T2.out _ LB2.out).mono ?_
      rintro e w3 ⟨j, rfl, hj, hb3⟩
      have LB3 := stB LB2 hb3 LB2.out.size
      have LR3 := stR LR2 hb3
      have LG0_3 := stG LG0_2 hb3
      have LG1_3 := stG LG1_2 hb3
      clear LB2 LR2 LG0_2 LG1_2
      have HJ := Lib.hid hj
      clear hj hb3 q0_0 q0_1 q0_2 q0_3 q0_4 q0_5 q0_6 q0_7 q0_8
      have q1_1 := LG1_3.out.ce 1 rfl
      have hf1 := LG1_3.out.frozen 1
      go_upto_region 8 with fail
      clear q1_1 hf1
      have LB4 := Lib.hid (LB3.out.setCell (p := ⟨w1.heap.size, 1, none⟩) (by first | exact Nat.le_refl _ | (show w.heap.size ≤ _ + _; omega) | (show w.heap.size ≤ _; omega)) (.int .u64 (pat j : Int)))
      have LR4 := Lib.hid (show HasBlk (w3.setCell ⟨w1.heap.size, 1, none⟩ (.int .u64 (pat j : Int))) (w.heap.size + 1) 24 2 from LR3.out.other (by omega) 1 [.int .u64 (pat j : Int)])
      have LG0_4 := Lib.hid (show Blk (w3.setCell ⟨w1.heap.size, 1, none⟩ (.int .u64 (pat j : Int))) w.heap.size 89 #[.bool false, .int .i64 s1, .bool g1, .slice A1 n1 c1, .slice B1 m1 d1, .int .i64 0, .bool g2, .slice A2 n2 c2, .slice B2 m2 d2] from LG0_3.out.other (by omega) 1 [.int .u64 (pat j : Int)])
      have LG1_4 := Lib.hid (LG1_3.out.set 1 (.int .u64 (pat j : Int)))
      clear LB3 LR3 LG0_3 LG1_3
      obtain ⟨V4, hV4⟩ : ∃ X, w3.setCell ⟨w1.heap.size, 1, none⟩ (.int .u64 (pat j : Int)) = X := ⟨_, rfl⟩
      rw [hV4] at LB4 LR4 LG0_4 LG1_4 ⊢
      clear hV4
      obtain ⟨q1_0, q1_1⟩ := LG1_4.out.c2
      obtain ⟨ha0, hf0, ha1, hf1⟩ := LR4.out.sf2
      obtain ⟨hk0, hk1⟩ := LR4.out.sc2 (.int .u64 18442240474082181120) (.int .u64 (pat j : Int))
      have F := Lib.hid (below_sets (w0 := w) (r := (w.heap.size + 1)) (by omega) [.int .u64 18442240474082181120, .int .u64 (pat j : Int)] 0 _ LB4.out)
      simp [sets] at hk0 hk1
      clear T1 T2 HE
      have hfin : NewLeast w s1 x1 0 x2 (.returned (.agg #[.int .u64 18442240474082181120, .int .u64 (pat j : Int)])) _ := ⟨(-(M : Int)), j, by rw [pat_min]; rfl, fun h => absurd h ha, fun _ => rfl, fun _ => HJ.out, fun h => absurd rfl h, F.out⟩
      have HFIN := Lib.hid hfin
      clear hfin
      go_wp2
      refine bodyPost_ret (v := .agg #[.int .u64 18442240474082181120, .int .u64 (pat j : Int)]) (by simp [results, Tryz.results145, go_sem, hk0, hk1]) rfl ?_
      exact HFIN.out
    · have hqb : (s2 == 0) = false := by simp; omega
      obtain ⟨LB0, LG0_0, LR⟩ := bx2 w #[.bool false, .int .i64 s1, .bool g1, .slice A1 n1 c1, .slice B1 m1 d1, .int .i64 s2, .bool g2, .slice A2 n2 c2, .slice B2 m2 d2] 89 #[.int .u64 0, .int .u64 0] 24
      have LR0 := Lib.hid (HasBlk.of (n := 2) LR.out rfl rfl)
      clear LR
      go_enter Tryz.func145, Tryz.ntmps145
      go_wp2_with fail
      refine (HE.out _).mono ?_
      rintro e w1 ⟨rfl, hb1⟩
      have LB1 := stB LB0 hb1 LB0.out.size
      have LR1 := stR LR0 hb1
      have LG0_1 := stG LG0_0 hb1
      clear LB0 LR0 LG0_0
      have hlo := LB1.out.size
      have hlr := LR1.out.lt
      have hlt2 := LR1.out.lt
      have LB2 := Lib.hid (LB1.out.alloc LB1.out.size (.cells #[.int .u64 18442240474082181120, .int .u64 9218868437227405312] 24))
      have LR2 := Lib.hid (LR1.out.alloc (.cells #[.int .u64 18442240474082181120, .int .u64 9218868437227405312] 24))
      have LG0_2 := Lib.hid (LG0_1.out.alloc (.cells #[.int .u64 18442240474082181120, .int .u64 9218868437227405312] 24))
      have LG1_2 := Lib.hid (Blk.new w1 24 #[.int .u64 18442240474082181120, .int .u64 9218868437227405312])
      clear LB1 LR1 LG0_1
      clear hb1
      go_upto_region 4 with fail
      obtain ⟨V2, hV2⟩ : ∃ X, (w1.alloc (.cells #[.int .u64 18442240474082181120, .int .u64 9218868437227405312] 24)) = X := ⟨_, rfl⟩
      rw [hV2] at LB2 LR2 LG0_2 LG1_2 ⊢
      clear hV2
      obtain ⟨q0_0, q0_1, q0_2, q0_3, q0_4, q0_5, q0_6, q0_7, q0_8⟩ := LG0_2.out.c9
      obtain ⟨q1_0, q1_1⟩ := LG1_2.out.c2
      obtain ⟨ha0, hf0, ha1, hf1⟩ := LR2.out.sf2
      obtain ⟨hk0, hk1⟩ := LR2.out.sc2 (.int .u64 18442240474082181120) (.int .u64 9218868437227405312)
      have F := Lib.hid (below_sets (w0 := w) (r := (w.heap.size + 1)) (by omega) [.int .u64 18442240474082181120, .int .u64 9218868437227405312] 0 _ LB2.out)
      simp [sets] at hk0 hk1
      clear T1 T2 HE
      have hfin : NewLeast w s1 x1 s2 x2 (.returned (.agg #[.int .u64 18442240474082181120, .int .u64 9218868437227405312])) _ := ⟨(-(M : Int)), (M : Int), by rw [pat_min, pat_max]; rfl, fun h => absurd h ha, fun _ => rfl, fun h => absurd h hb, fun _ => rfl, F.out⟩
      have HFIN := Lib.hid hfin
      clear hfin
      go_wp2
      refine bodyPost_ret (v := .agg #[.int .u64 18442240474082181120, .int .u64 9218868437227405312]) (by simp [results, Tryz.results145, go_sem, hk0, hk1]) rfl ?_
      exact HFIN.out
end Go.Proofs.YthlmlmfebpjgdaaGreatDoor

namespace Go.Proofs.YthlmlmfebpjgdaaGreatDoor
open Go.RowKit
theorem es_bounds (i : Int) : -1 ≤ es i ∧ es i ≤ 1 := by unfold es; split <;> (try split) <;> omega
theorem es_zero {i : Int} (h : es i = 0) : i ≠ M ∧ i ≠ -(M : Int) := by
  unfold es at h
  split at h
  · cases h
  · split at h
    · cases h
    · exact ⟨by assumption, by assumption⟩
theorem ex_zero {i : Int} (h : es i = 0) : ex i = fl i := by unfold ex; rw [if_pos h]
theorem least_lo {i k : Int} (h0 : -(M : Int) ≤ i) (h1 : i < M) (h2 : es i = 0 → Rnd (-1) (ex i) k) (h3 : es i ≠ 0 → k = -(M : Int)) : k = i := by
  by_cases h : es i = 0
  · have h4 := h2 h
    rw [ex_zero h] at h4
    have := es_zero h
    exact h4.exact (by omega) h1
  · rw [h3 h]
    unfold es at h
    rw [if_neg (by omega)] at h
    by_cases hc : i = -(M : Int)
    · exact hc.symm
    · rw [if_neg hc] at h; exact absurd rfl h
theorem least_hi {i k : Int} (h0 : -(M : Int) < i) (h1 : i ≤ M) (h2 : es i = 0 → Rnd 1 (ex i) k) (h3 : es i ≠ 0 → k = M) : k = i := by
  by_cases h : es i = 0
  · have h4 := h2 h
    rw [ex_zero h] at h4
    have := es_zero h
    exact h4.exact h0 (by omega)
  · rw [h3 h]
    unfold es at h
    by_cases hc : i = M
    · exact hc.symm
    · rw [if_neg hc, if_neg (by omega)] at h; exact absurd rfl h
theorem es_neg (i : Int) : es (-i) = - es i := by
  have hM : (0 : Int) < M := by rw [M_val]; omega
  unfold es
  by_cases h1 : i = M
  · rw [if_pos h1, if_neg (by omega), if_pos (by omega)]
  · by_cases h2 : i = -(M : Int)
    · rw [if_neg h1, if_pos h2, if_pos (by omega)]; rfl
    · rw [if_neg h1, if_neg h2, if_neg (by omega), if_neg (by omega)]; rfl
theorem ex_neg (i : Int) : ex (-i) = - ex i := by
  unfold ex
  rw [es_neg]
  by_cases h : es i = 0
  · rw [if_pos h, if_pos (by omega), fl_neg]
  · rw [if_neg h, if_neg (by omega)]; rfl
end Go.Proofs.YthlmlmfebpjgdaaGreatDoor
