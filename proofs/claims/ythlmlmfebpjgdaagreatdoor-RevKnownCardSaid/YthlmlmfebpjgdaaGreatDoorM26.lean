/-
Plain: a product of floats, rounded in a direction; the quick road's answer; a product of which one is infinite.
Walks: package round, Mul and what it calls.
-/
import Derived.Test.YthlmlmfebpjgdaaGreatDoorPRoot2T
import Derived.Test.YthlmlmfebpjgdaaGreatDoorPMathT
import Derived.Test.YthlmlmfebpjgdaaGreatDoorPAddT
import Derived.Test.YthlmlmfebpjgdaaGreatDoorPAbT
import Derived.Test.YthlmlmfebpjgdaaGreatDoorPBothT
import Derived.Test.YthlmlmfebpjgdaaGreatDoorPPairT
set_option linter.unusedSimpArgs false
set_option linter.unusedVariables false
set_option maxHeartbeats 12800000

namespace Go.Proofs.YthlmlmfebpjgdaaGreatDoor
open Go.RowKit Ieee
theorem nud_n {d : Int} (hd : d = -1 ∨ d = 1) {s e : Nat} {n : Int} (hs : Fl s (R n)) (he : Fl e (n - R n)) : nud d (idx s) (idx e) = rndI d ((n : Rat) * 2^(-1074 : Int)) := by
  have h0 := idx_natAbs s
  have hf : rungOf s < M := hs.fin
  have e1 : idx e < 0 ↔ n < R n := by
    have h := @val_lt_iff (idx e) 0
    rw [val_zero, he.val] at h
    omega
  have e2 : 0 < idx e ↔ R n < n := by
    have h := @val_lt_iff 0 (idx e)
    rw [val_zero, he.val] at h
    omega
  rcases hd with rfl | rfl
  · rw [near_down hs.val (by omega) (by omega)]
    unfold nud
    by_cases h : n < R n
    · rw [if_pos h, if_pos ⟨rfl, e1.2 h⟩]
    · rw [if_neg h, if_neg (fun h' => h (e1.1 h'.2)), if_neg (by omega)]
  · rw [near_up hs.val (by omega) (by omega)]
    unfold nud
    by_cases h : R n < n
    · rw [if_pos h, if_neg (by omega), if_pos ⟨rfl, e2.2 h⟩]
    · rw [if_neg h, if_neg (by omega), if_neg (fun h' => h (e2.1 h'.2))]
theorem fl_mul_units {i j N : Int} {U : Nat} (hU : U = 1074) (h : val i * val j = N * 2^U) : fl i * fl j = (N : Rat) * 2^(-1074 : Int) := by
  have h1 : ((val i : Int) : Rat) * ((val j : Int) : Rat) = (N : Rat) * 2^(U : Int) := by
    rw [← Rat.intCast_mul, h, Rat.intCast_mul, Rat.intCast_pow, Rat.zpow_natCast]; rfl
  have h2 : (2 : Rat)^(U : Int) * 2^(-1074 : Int) = 1 := by
    rw [← zpow_add, show (U : Int) + -1074 = 0 from by omega]; rfl
  unfold fl
  have h3 : (val i : Rat) * 2^(-1074 : Int) * ((val j : Rat) * 2^(-1074 : Int)) = ((val i : Rat) * (val j : Rat)) * 2^(-1074 : Int) * 2^(-1074 : Int) := by grind
  rw [h3, h1]
  have h4 : (N : Rat) * 2^(U : Int) * 2^(-1074 : Int) * 2^(-1074 : Int) = (N : Rat) * (2^(U : Int) * 2^(-1074 : Int)) * 2^(-1074 : Int) := by grind
  rw [h4, h2, Rat.mul_one]
def mid (b : Nat) : Bool := decide (553942754166571008 < rungOf b) && decide (rungOf b < 8660422083433463808)
theorem mid_iff {b : Nat} : mid b = true ↔ 553942754166571008 < rungOf b ∧ rungOf b < 8660422083433463808 := by unfold mid; simp
theorem prod_small {m n V : Int} {a b U g : Nat} (hV : V = m * 2^a * (n * 2^b)) (m2 : m.natAbs < 2^53) (n2 : n.natAbs < 2^53) (hg : 54 ≤ g) (h : a + b < U) : nearRung V.natAbs U ≤ (g + 1) * 2^52 := by
  refine nearRung_le ?_
  rw [hV, Int.natAbs_mul, Int.natAbs_mul, Int.natAbs_mul, Int.natAbs_pow, Int.natAbs_pow, mag_two_pow, ← Nat.pow_add]
  have k1 : m.natAbs * 2^a * (n.natAbs * 2^b) = m.natAbs * n.natAbs * 2^(a + b) := by rw [Nat.pow_add]; ac_rfl
  show m.natAbs * 2^a * (n.natAbs * 2^b) ≤ _
  rw [k1]
  have k2 : m.natAbs * n.natAbs ≤ 2^53 * 2^53 := Nat.mul_le_mul (Nat.le_of_lt m2) (Nat.le_of_lt n2)
  have k3 : 2^(a + b) ≤ 2^U := Nat.pow_le_pow_right (by omega) (by omega)
  have k4 : 2^53 * 2^53 ≤ 2^(52 + g) := by rw [← Nat.pow_add]; exact Nat.pow_le_pow_right (by omega) (by omega)
  exact Nat.mul_le_mul (Nat.le_trans k2 k4) k3
theorem quick_prod {d : Int} (hd : d = -1 ∨ d = 1) {x y p : Nat} (hx : x < 18446744073709551616) (hy : y < 18446744073709551616) (mx : mid x = true) (my : mid y = true) (hp : FloatKind.f64.format.mul x y = some p) (mp : mid p = true) :
    ∃ xt xu xh xl yt yu yh yl z1 e0 z2 e1 z3 e2 z4 e : Nat, FloatKind.f64.format.mul 4728779608772575232 x = some xt ∧ FloatKind.f64.format.sub xt x = some xu ∧ FloatKind.f64.format.sub xt xu = some xh ∧ FloatKind.f64.format.sub x xh = some xl ∧
      FloatKind.f64.format.mul 4728779608772575232 y = some yt ∧ FloatKind.f64.format.sub yt y = some yu ∧ FloatKind.f64.format.sub yt yu = some yh ∧ FloatKind.f64.format.sub y yh = some yl ∧
      FloatKind.f64.format.mul xh yh = some z1 ∧ FloatKind.f64.format.sub z1 p = some e0 ∧ FloatKind.f64.format.mul xh yl = some z2 ∧ FloatKind.f64.format.add e0 z2 = some e1 ∧
      FloatKind.f64.format.mul xl yh = some z3 ∧ FloatKind.f64.format.add e1 z3 = some e2 ∧ FloatKind.f64.format.mul xl yl = some z4 ∧ FloatKind.f64.format.add e2 z4 = some e ∧
      p < 18446744073709551616 ∧ rungOf p < M ∧ rungOf e ≤ M ∧ nud d (idx p) (idx e) = rndI d (fl (idx x) * fl (idx y)) := by
  have hM : M = 9218868437227405312 := rfl
  obtain ⟨T, hT⟩ : ∃ T : Nat, T = 1974 := ⟨_, rfl⟩
  obtain ⟨L, hL⟩ : ∃ T : Nat, T = 174 := ⟨_, rfl⟩
  obtain ⟨U, hU⟩ : ∃ T : Nat, T = 1074 := ⟨_, rfl⟩
  have mx' := mid_iff.1 mx
  have my' := mid_iff.1 my
  have mp' := mid_iff.1 mp
  have pM : rungOf p < M := by omega
  obtain ⟨m, a, fx, m1, m2, bx, -⟩ := middle_form hT hL hx (by omega) (by omega)
  obtain ⟨n, b, fy, n1, n2, by_, -⟩ := middle_form hT hL hy (by omega) (by omega)
  obtain ⟨r, hr, his⟩ := mul_fin (show fin x by unfold fin; omega) (show fin y by unfold fin; omega)
  have e0 : p = r := by
    have : some p = some r := by rw [← hp]; exact hr
    cases this; rfl
  subst e0
  rw [← hU] at his
  have hip := his.idx
  have hv : val (idx x) * val (idx y) = m * 2^a * (n * 2^b) := by rw [fx.val, fy.val]
  have hab : U ≤ a + b := by
    rcases Nat.lt_or_ge (a + b) U with h | h
    · exfalso
      obtain ⟨g, hg⟩ : ∃ g : Nat, g = 122 := ⟨_, rfl⟩
      have h2 := prod_small (V := val (idx x) * val (idx y)) hv m2 n2 (show 54 ≤ g by omega) h
      have h3 := near_natAbs (val (idx x) * val (idx y)) U
      rw [← hip, idx_natAbs] at h3
      have h4 := mp'.1
      clear bx by_ fx fy m1 m2 n1 n2 hv hT hL hU his hip mx my mp mx' my'
      omega
    · exact h
  have fp : Fl p (val (idx p)) := ⟨his.lt, by unfold fin; omega, rfl⟩
  have bp := not_great (x := p) (t := 1922) (T := T) (by omega) (by omega)
  obtain ⟨xt, xu, xh, xl, yt, yu, yh, yl, z1, e0, z2, e1, z3, e2, z4, e, q1, q2, q3, q4, q5, q6, q7, q8, q9, q10, q11, q12, q13, q14, q15, q16, N, hN, fpN, fe⟩ := quick_mul hU hT fx m1 m2 bx fy n1 n2 by_ hp fp.fin bp hab
  refine ⟨xt, xu, xh, xl, yt, yu, yh, yl, z1, e0, z2, e1, z3, e2, z4, e, q1, q2, q3, q4, q5, q6, q7, q8, q9, q10, q11, q12, q13, q14, q15, q16, his.lt, pM, Nat.le_of_lt fe.fin, ?_⟩
  have e5 : fl (idx x) * fl (idx y) = (N : Rat) * 2^(-1074 : Int) := fl_mul_units hU (hv.trans hN)
  rw [e5]
  exact nud_n hd fpN fe
theorem inf_write (s : Bool) : double.write (.infinity s) = pat (if s then -(M : Int) else M) := by
  cases s
  · have h := inf_word (x := 9218868437227405312) (by omega) (by decide)
    rw [show sgn 9218868437227405312 = false from by decide] at h
    rw [h]; exact pat_max.symm
  · have h := inf_word (x := 18442240474082181120) (by omega) (by decide)
    rw [show sgn 18442240474082181120 = true from by decide] at h
    rw [h]; exact pat_min.symm
theorem digits_pos {b m k : Nat} (h : m * 2^k = mag (rungOf b)) (hb : rungOf b ≠ 0) : m ≠ 0 := by
  rintro rfl
  rw [Nat.zero_mul] at h
  have := mag_lt_iff.2 (show 0 < rungOf b by omega)
  rw [mag_zero] at this
  omega
theorem mul_inf {x y : Nat} (hx : rungOf x ≤ M) (hy : rungOf y ≤ M) (h : rungOf x = M ∨ rungOf y = M) (nx : rungOf x ≠ 0) (ny : rungOf y ≠ 0) : double.mul x y = some (pat (if (sgn x ^^ sgn y) then -(M : Int) else M)) := by
  unfold Format.mul
  by_cases h1 : rungOf x = M
  · rw [read_inf h1]
    by_cases h2 : rungOf y = M
    · rw [read_inf h2]
      simp only [Datum.product, Option.map_some]
      rw [inf_write]
    · obtain ⟨m, k, e, hm, -⟩ := read_fin (show fin y from by unfold fin; omega)
      rw [e]
      simp only [Datum.product]
      rw [if_neg (digits_pos hm ny)]
      simp only [Option.map_some]
      rw [inf_write]
  · have h2 : rungOf y = M := by omega
    rw [read_inf h2]
    obtain ⟨m, k, e, hm, -⟩ := read_fin (show fin x from by unfold fin; omega)
    rw [e]
    simp only [Datum.product]
    rw [if_neg (digits_pos hm nx)]
    simp only [Option.map_some]
    rw [inf_write, Bool.xor_comm]
end Go.Proofs.YthlmlmfebpjgdaaGreatDoor

namespace Go.Proofs.YthlmlmfebpjgdaaGreatDoor
open Go.RowKit
theorem middle_walk (b r : Nat) (o1 o2 : Ordering) (m : Bool) (w : World) (ha : ∀ W, Calls Tryz.prog 117 #[.float .f64 b] W fun e w' => e = .returned (.float .f64 r) ∧ W = w')
    (h1 : FloatKind.f64.format.order r 553942754166571008 = some o1) (h2 : FloatKind.f64.format.order r 8660422083433463808 = some o2) (hm : ((o1 == .gt) && (o2 == .lt)) = m) :
    Calls Tryz.prog 185 #[.float .f64 b] w fun e w' => e = .returned (.bool m) ∧ w = w' := by
  have HA := Lib.hid ha
  have HM := Lib.hid hm
  clear ha hm
  cases o1 <;> cases o2
  all_goals
    go_enter Tryz.func185, Tryz.ntmps185
    go_wp2_with fail
    refine (HA.out _).mono ?_
    rintro e w' ⟨rfl, rfl⟩
    go_wp2
    go_ret
    refine ⟨?_, rfl⟩
    rw [← HM.out]
    rfl
theorem middle_any (b : Nat) (w : World) (hb : b < 18446744073709551616) (hr : rungOf b ≤ M) : Calls Tryz.prog 185 #[.float .f64 b] w fun e w' => e = .returned (.bool (mid b)) ∧ w = w' := by
  have hM : M = 9218868437227405312 := rfl
  have r0 := rung_idx (b := rungOf b) (by omega)
  have r1 : rungOf 553942754166571008 = 553942754166571008 ∧ idx 553942754166571008 = ((553942754166571008 : Nat) : Int) := rung_idx (by decide)
  have r2 : rungOf 8660422083433463808 = 8660422083433463808 ∧ idx 8660422083433463808 = ((8660422083433463808 : Nat) : Int) := rung_idx (by decide)
  have o1 : FloatKind.f64.format.order (rungOf b) 553942754166571008 = some (compare ((rungOf b : Nat) : Int) ((553942754166571008 : Nat) : Int)) := by
    have h := order_real (x := rungOf b) (y := 553942754166571008) (show rungOf (rungOf b) ≤ M by rw [r0.1]; exact hr) (show rungOf 553942754166571008 ≤ M by rw [r1.1]; omega)
    rw [r0.2, r1.2] at h; exact h
  have o2 : FloatKind.f64.format.order (rungOf b) 8660422083433463808 = some (compare ((rungOf b : Nat) : Int) ((8660422083433463808 : Nat) : Int)) := by
    have h := order_real (x := rungOf b) (y := 8660422083433463808) (show rungOf (rungOf b) ≤ M by rw [r0.1]; exact hr) (show rungOf 8660422083433463808 ≤ M by rw [r2.1]; omega)
    rw [r0.2, r2.2] at h; exact h
  refine middle_walk b _ _ _ _ w (fun W => abs_any b W hb) o1 o2 ?_
  unfold mid
  obtain ⟨R, hR⟩ : ∃ R, rungOf b = R := ⟨_, rfl⟩
  rw [hR]
  obtain ⟨c1, hc1⟩ : ∃ c, compare ((R : Nat) : Int) ((553942754166571008 : Nat) : Int) = c := ⟨_, rfl⟩
  obtain ⟨c2, hc2⟩ : ∃ c, compare ((R : Nat) : Int) ((8660422083433463808 : Nat) : Int) = c := ⟨_, rfl⟩
  rw [hc1, hc2]
  have e1 : (c1 == .gt) = decide (553942754166571008 < R) := by
    by_cases h : 553942754166571008 < R
    · rw [decide_eq_true h, ← hc1, Int.compare_eq_gt.2 (by omega)]; rfl
    · rw [decide_eq_false h, ← hc1]
      rcases Int.lt_or_eq_of_le (show ((R : Nat) : Int) ≤ ((553942754166571008 : Nat) : Int) by omega) with k | k
      · rw [Int.compare_eq_lt.2 k]; rfl
      · rw [Int.compare_eq_eq.2 k]; rfl
  have e2 : (c2 == .lt) = decide (R < 8660422083433463808) := by
    by_cases h : R < 8660422083433463808
    · rw [decide_eq_true h, ← hc2, Int.compare_eq_lt.2 (by omega)]; rfl
    · rw [decide_eq_false h, ← hc2]
      rcases Int.lt_or_eq_of_le (show ((8660422083433463808 : Nat) : Int) ≤ ((R : Nat) : Int) by omega) with k | k
      · rw [Int.compare_eq_gt.2 k]; rfl
      · rw [Int.compare_eq_eq.2 k.symm]; rfl
  rw [e1, e2]
theorem halves_walk (x t u h l : Nat) (w : World) (q1 : FloatKind.f64.format.mul 4728779608772575232 x = some t) (q2 : FloatKind.f64.format.sub t x = some u) (q3 : FloatKind.f64.format.sub t u = some h) (q4 : FloatKind.f64.format.sub x h = some l) :
    Calls Tryz.prog 228 #[.float .f64 x] w fun e w' => e = .returned (.tuple #[.float .f64 h, .float .f64 l]) ∧ w = w' := by
  have A1 := fun W => run_float_arith (P := Tryz.prog) W .mul 26 .f64 4728779608772575232 x t q1
  have A2 := fun W => run_float_arith (P := Tryz.prog) W .sub 26 .f64 t x u q2
  have A3 := fun W => run_float_arith (P := Tryz.prog) W .sub 26 .f64 t u h q3
  have A4 := fun W => run_float_arith (P := Tryz.prog) W .sub 26 .f64 x h l q4
  clear q1 q2 q3 q4
  go_enter Tryz.func228, Tryz.ntmps228
  go_wp2
  go_ret2
  exact ⟨rfl, rfl⟩
theorem missed_walk (x y p xh xl yh yl z1 e0 z2 e1 z3 e2 z4 e : Nat) (w : World) (hx : ∀ W, Calls Tryz.prog 228 #[.float .f64 x] W fun e w' => e = .returned (.tuple #[.float .f64 xh, .float .f64 xl]) ∧ W = w')
    (hy : ∀ W, Calls Tryz.prog 228 #[.float .f64 y] W fun e w' => e = .returned (.tuple #[.float .f64 yh, .float .f64 yl]) ∧ W = w')
    (q1 : FloatKind.f64.format.mul xh yh = some z1) (q2 : FloatKind.f64.format.sub z1 p = some e0) (q3 : FloatKind.f64.format.mul xh yl = some z2) (q4 : FloatKind.f64.format.add e0 z2 = some e1)
    (q5 : FloatKind.f64.format.mul xl yh = some z3) (q6 : FloatKind.f64.format.add e1 z3 = some e2) (q7 : FloatKind.f64.format.mul xl yl = some z4) (q8 : FloatKind.f64.format.add e2 z4 = some e) :
    Calls Tryz.prog 187 #[.float .f64 x, .float .f64 y, .float .f64 p] w fun e' w' => e' = .returned (.float .f64 e) ∧ w = w' := by
  have A1 := fun W => run_float_arith (P := Tryz.prog) W .mul 26 .f64 _ _ _ q1
  have A2 := fun W => run_float_arith (P := Tryz.prog) W .sub 26 .f64 _ _ _ q2
  have A3 := fun W => run_float_arith (P := Tryz.prog) W .mul 26 .f64 _ _ _ q3
  have A4 := fun W => run_float_arith (P := Tryz.prog) W .add 26 .f64 _ _ _ q4
  have A5 := fun W => run_float_arith (P := Tryz.prog) W .mul 26 .f64 _ _ _ q5
  have A6 := fun W => run_float_arith (P := Tryz.prog) W .add 26 .f64 _ _ _ q6
  have A7 := fun W => run_float_arith (P := Tryz.prog) W .mul 26 .f64 _ _ _ q7
  have A8 := fun W => run_float_arith (P := Tryz.prog) W .add 26 .f64 _ _ _ q8
  have HX := Lib.hid hx
  have HY := Lib.hid hy
  clear q1 q2 q3 q4 q5 q6 q7 q8 hx hy
  go_enter Tryz.func187, Tryz.ntmps187
  go_wp2_with fail
  refine (HX.out _).mono ?_
  rintro e w' ⟨rfl, rfl⟩
  go_wp2_with fail
  refine (HY.out _).mono ?_
  rintro e w' ⟨rfl, rfl⟩
  go_wp2
  go_ret
  exact ⟨rfl, rfl⟩
theorem rmul_quick (d : Int) (x y p : Nat) (w : World) (hd : d = -1 ∨ d = 1) (hx : x < 18446744073709551616) (hy : y < 18446744073709551616) (rx : rungOf x < M) (ry : rungOf y < M) (hp : FloatKind.f64.format.mul x y = some p) (mx : mid x = true) (my : mid y = true) (mp : mid p = true) :
    Calls Tryz.prog 119 #[.int .i64 d, .float .f64 x, .float .f64 y] w fun e w' => e = .returned (.float .f64 (pat (rndI d (fl (idx x) * fl (idx y))))) ∧ Below w.heap.size w w' := by
  have hM : M = 9218868437227405312 := rfl
  obtain ⟨xt, xu, xh, xl, yt, yu, yh, yl, z1, e0, z2, e1, z3, e2, z4, e, q1, q2, q3, q4, q5, q6, q7, q8, q9, q10, q11, q12, q13, q14, q15, q16, p1, p2, p3, hn⟩ := quick_prod hd hx hy mx my hp mp
  have HMI := Lib.hid fun W => missed_walk x y p xh xl yh yl z1 e0 z2 e1 z3 e2 z4 e W (fun W => halves_walk x xt xu xh xl W q1 q2 q3 q4) (fun W => halves_walk y yt yu yh yl W q5 q6 q7 q8) q9 q10 q11 q12 q13 q14 q15 q16
  have HN0 := fun W => nudge_any d p e W hd p1 p2 p3
  rw [hn] at HN0
  have HN := Lib.hid HN0
  have A1 := fun W => run_float_arith (P := Tryz.prog) W .mul 26 .f64 x y p hp
  have HX0 := fun W => middle_any x W hx (by omega)
  have HY0 := fun W => middle_any y W hy (by omega)
  have HP0 := fun W => middle_any p W p1 (by omega)
  rw [mx] at HX0
  rw [my] at HY0
  rw [mp] at HP0
  have HX := Lib.hid HX0
  have HY := Lib.hid HY0
  have HP := Lib.hid HP0
  have ho : (decide (rungOf x = M) || decide (rungOf y = M)) = false := by
    rw [decide_eq_false (by omega), decide_eq_false (by omega)]; rfl
  have HO0 := fun (W : World) (hb : Below w.heap.size w W) => odd_two W.heap.size x y (W.alloc (.cells #[.float .f64 x, .float .f64 y] 26)) hx hy (by omega) (by omega) (by simp [World.cell?_alloc_new]) (by simp [World.cell?_alloc_new])
  rw [ho] at HO0
  have HO := Lib.hid HO0
  have LB := Lib.hid (below_alloc w (.cells #[.float .f64 x, .float .f64 y] 26))
  obtain ⟨r, hr⟩ : ∃ r, pat (rndI d (fl (idx x) * fl (idx y))) = r := ⟨_, rfl⟩
  rw [hr] at HN ⊢
  clear HO0 ho hn HN0 q1 q2 q3 q4 q5 q6 q7 q8 q9 q10 q11 q12 q13 q14 q15 q16 hr rx ry hx hy hd hM p1 p2 p3 mx my mp hp HX0 HY0 HP0
  go_enter Tryz.func119, Tryz.ntmps119
  go_wp2_with fail
  go_step3
  go_wp2_with fail
  refine (HO.out _ (Below.refl _ _)).mono ?_
  rintro e w' ⟨rfl, rfl⟩
  go_wp2_with fail
  refine (HX.out _).mono ?_
  rintro e w' ⟨rfl, rfl⟩
  go_wp2_with fail
  refine (HY.out _).mono ?_
  rintro e w' ⟨rfl, rfl⟩
  go_wp2_with fail
  refine (HP.out _).mono ?_
  rintro e w' ⟨rfl, rfl⟩
  go_wp2_with fail
  refine (HMI.out _).mono ?_
  rintro e w' ⟨rfl, rfl⟩
  go_wp2_with fail
  refine (HN.out _).mono ?_
  rintro e w' ⟨rfl, rfl⟩
  go_wp2
  try rw [Exit.noGoto_ret]
  go_ret
  exact ⟨rfl, LB.out⟩
theorem rmul_inf (d : Int) (x y r q : Nat) (w : World) (hx : x < 18446744073709551616) (hy : y < 18446744073709551616) (rx : rungOf x ≤ M) (ry : rungOf y ≤ M) (ho : (decide (rungOf x = M) || decide (rungOf y = M)) = true) (hr : floatBits .mul .f64 x y = some r)
    (hpl : ∀ W, Calls Tryz.prog 184 #[.float .f64 r] W fun e w' => e = .returned (.float .f64 q) ∧ W = w') :
    Calls Tryz.prog 119 #[.int .i64 d, .float .f64 x, .float .f64 y] w fun e w' => e = .returned (.float .f64 q) ∧ Below w.heap.size w w' := by
  have HA := fun W => run_float_arith (P := Tryz.prog) W .mul 26 .f64 _ _ _ hr
  have HPL := Lib.hid hpl
  have HO0 := fun (W : World) (hb : Below w.heap.size w W) => odd_two W.heap.size x y (W.alloc (.cells #[.float .f64 x, .float .f64 y] 26)) hx hy rx ry (by simp [World.cell?_alloc_new]) (by simp [World.cell?_alloc_new])
  rw [ho] at HO0
  have HO := Lib.hid HO0
  have LB := Lib.hid (below_alloc w (.cells #[.float .f64 x, .float .f64 y] 26))
  clear HO0 ho hr rx ry hx hy hpl
  go_enter Tryz.func119, Tryz.ntmps119
  go_wp2_with fail
  go_step3
  go_wp2_with fail
  refine (HO.out _ (Below.refl _ _)).mono ?_
  rintro e w' ⟨rfl, rfl⟩
  go_wp2_with fail
  refine (HPL.out _).mono ?_
  rintro e w' ⟨rfl, rfl⟩
  go_wp2
  try rw [Exit.noGoto_ret]
  go_ret
  exact ⟨rfl, LB.out⟩
theorem HasBlk.u32 {W : World} {A : Option Addr} {k c : Nat} {xs : List Nat} {r : Nat} {t : TypeId} {n : Nat} (h : HasBlk W r t n) (hr : U32s W A k c xs) (vs : List Value) : U32s (Proofs.YthlmlmfebpjgdaaGreatDoor.sets W r 0 vs) A k c xs := by
  obtain ⟨cs, h1, -, h2⟩ := h
  exact hr.sets h1 h2 0 vs
theorem digs_two2 {S : Nat} (h : S < 18446744073709551616) : wlen (digs S) ≤ 2 := wlen_lt (W32.digs S) (K := 2) (by rw [num_digs]; exact h)
theorem rprod_any (n1 : Bool) (A1 : Option Addr) (m1 c1 S1 : Nat) (e1 : Int) (n2 : Bool) (A2 : Option Addr) (m2 c2 S2 : Nat) (e2 : Int) (w : World) (hu1 : U32s w A1 m1 c1 (digs S1)) (hu2 : U32s w A2 m2 c2 (digs S2)) (h1 : S1 < 9007199254740992) (h2 : S2 < 9007199254740992) (b1 : -1074 ≤ e1 ∧ e1 ≤ 971) (b2 : -1074 ≤ e2 ∧ e2 ≤ 971) :
    Calls Tryz.prog 188 #[.agg #[.bool n1, .slice A1 m1 c1, .int .i64 e1], .agg #[.bool n2, .slice A2 m2 c2, .int .i64 e2]] w (NewDy w (n1 != n2) (S1 * S2) (e1 + e2)) := by
  have k1 := digs_two2 (S := S1) (by omega)
  have k2 := digs_two2 (S := S2) (by omega)
  have k3 : blen S1 ≤ 53 := blen_le_iff.2 (show S1 < 2^53 from h1)
  have k4 : blen S2 ≤ 53 := blen_le_iff.2 (show S2 < 2^53 from h2)
  have HM := Lib.hid fun W (a : U32s W A1 m1 c1 (digs S1)) (b : U32s W A2 m2 c2 (digs S2)) => by
    have h := nmul_any A1 A2 m1 c1 m2 c2 (digs S1) (digs S2) W a b (by omega) (by rw [num_digs, num_digs]; omega)
    rw [num_digs, num_digs] at h
    exact h
  obtain ⟨P, hP⟩ : ∃ P, S1 * S2 = P := ⟨_, rfl⟩
  obtain ⟨n3, hn3⟩ : ∃ z, (n1 != n2) = z := ⟨_, rfl⟩
  rw [hP] at HM ⊢
  rw [hn3]
  have hne : (!n1 == n2) = n3 := hn3
  clear hn3 hP k1 k2 k3 k4 h1 h2
  have LL := li3 w #[.bool n1, .slice A1 m1 c1, .int .i64 e1] 168 #[.bool n2, .slice A2 m2 c2, .int .i64 e2] 168 #[.bool false, .slice none 0 0, .int .i64 0] 168
  have HU1 := Lib.hid (hu1.below LL.out.b)
  have HU2 := Lib.hid (hu2.below LL.out.b)
  clear hu1 hu2
  go_enter Tryz.func188, Tryz.ntmps188
  obtain ⟨q1_0, q1_1, q1_2⟩ := (LL.out.blk 0 rfl).c3
  obtain ⟨q2_0, q2_1, q2_2⟩ := (LL.out.blk 1 rfl).c3
  go_wp2_with fail
  refine (HM.out _ HU1.out HU2.out).mono ?_
  rintro e wk ⟨A3, m3, c3, rfl, hu3, hb⟩
  replace LL := stL LL hb
  replace HU1 := Lib.hid (HU1.out.below hb)
  replace HU2 := Lib.hid (HU2.out.below hb)
  clear hb q1_0 q1_1 q1_2 q2_0 q2_1 q2_2
  have HU3 := Lib.hid hu3
  clear hu3
  obtain ⟨q3_0, q3_1, q3_2⟩ := (LL.out.blk 0 rfl).c3
  obtain ⟨q4_0, q4_1, q4_2⟩ := (LL.out.blk 1 rfl).c3
  replace LL := Lib.hid (LL.out.loose 2 rfl rfl)
  simp only [List.eraseIdx, List.size_toArray, List.length_cons, List.length_nil, Nat.zero_add, Nat.reduceAdd] at LL
  obtain ⟨ha4_0, hf4_0, ha4_1, hf4_1, ha4_2, hf4_2⟩ := (LL.out.has 0 rfl).sf3
  have LF := Lib.hid (LL.out.write [.bool n3, .slice A3 m3 c3, .int .i64 (e1 + e2)] rfl (by omega) (by simp <;> omega) (by simp <;> omega))
  obtain ⟨hk4_0, hk4_1, hk4_2⟩ := (LF.out.blk 2 rfl).c3
  simp [sets] at hk4_0 hk4_1 hk4_2
  have LL3 := LL
  clear LL
  go_wp2
  refine bodyPost_ret (v := .agg #[.bool n3, .slice A3 m3 c3, .int .i64 (e1 + e2)]) (by simp [results, Tryz.results188, go_sem, hk4_0, hk4_1, hk4_2]) rfl ?_
  exact ⟨A3, m3, c3, rfl, (LL3.out.has 0 rfl).u32 HU3.out [.bool n3, .slice A3 m3 c3, .int .i64 (e1 + e2)], LF.out.b⟩
theorem rmul_exact (d : Int) (x y p : Nat) (w : World) (hd : d = -1 ∨ d = 1) (hx : x < 18446744073709551616) (hy : y < 18446744073709551616) (rx : rungOf x < M) (ry : rungOf y < M) (hp : FloatKind.f64.format.mul x y = some p) (hp1 : p < 18446744073709551616) (hp2 : rungOf p ≤ M) (hm : ¬ (mid x = true ∧ mid y = true ∧ mid p = true)) :
    Calls Tryz.prog 119 #[.int .i64 d, .float .f64 x, .float .f64 y] w fun e w' => e = .returned (.float .f64 (pat (rndI d (fl (idx x) * fl (idx y))))) ∧ Below w.heap.size w w' := by
  have hM : M = 9218868437227405312 := rfl
  have A1 := fun W => run_float_arith (P := Tryz.prog) W .mul 26 .f64 x y p hp
  obtain ⟨S1, e1, b1, l1, u1, v1, HP1⟩ := part_any x hx rx
  obtain ⟨S2, e2, b2, l2, u2, v2, HP2⟩ := part_any y hy ry
  have k1 : blen S1 ≤ 53 := blen_le_iff.2 (show S1 < 2^53 from b1)
  have k2 : blen S2 ≤ 53 := blen_le_iff.2 (show S2 < 2^53 from b2)
  have kb : blen (S1 * S2) ≤ 106 := blen_le_iff.2 (by
    refine Nat.lt_of_le_of_lt (Nat.mul_le_mul_left S1 (Nat.le_of_lt b2)) ?_
    rw [show (2 : Nat)^106 = 2^53 * 2^53 from by rw [← Nat.pow_add]]
    exact (Nat.mul_lt_mul_right (by omega)).2 b1)
  have hV : rv (sgn x != sgn y) (S1 * S2) 1 * 2^(e1 + e2) = fl (idx x) * fl (idx y) := by
    have hm := rv_mul (sgn x) (sgn y) S1 1 S2 1
    rw [Nat.mul_one] at hm
    rw [v1, v2, zpow_add, ← hm]
    grind
  have HS0 := fun (A1 : Option Addr) (m1 c1 : Nat) (A2 : Option Addr) (m2 c2 : Nat) (W : World) (h1 : U32s W A1 m1 c1 (digs S1)) (h2 : U32s W A2 m2 c2 (digs S2)) => rprod_any (sgn x) A1 m1 c1 S1 e1 (sgn y) A2 m2 c2 S2 e2 W h1 h2 b1 b2 (by omega) (by omega)
  have HT0 := fun (A : Option Addr) (m c : Nat) (W : World) (h : U32s W A m c (digs (S1 * S2))) => to_any d (sgn x != sgn y) A m c (S1 * S2) (e1 + e2) W h hd (by omega) (by omega) (by omega)
  rw [hV] at HT0
  have HS := Lib.hid HS0
  have HT := Lib.hid HT0
  have HX1 := Lib.hid HP1
  have HX2 := Lib.hid HP2
  obtain ⟨n1, hn1⟩ : ∃ z, sgn x = z := ⟨_, rfl⟩
  obtain ⟨n2, hn2⟩ : ∃ z, sgn y = z := ⟨_, rfl⟩
  rw [hn1] at HX1 HS HT
  rw [hn2] at HX2 HS HT
  obtain ⟨n3, hn3⟩ : ∃ z, (n1 != n2) = z := ⟨_, rfl⟩
  obtain ⟨S, hS⟩ : ∃ z, S1 * S2 = z := ⟨_, rfl⟩
  obtain ⟨E, hE⟩ : ∃ z, e1 + e2 = z := ⟨_, rfl⟩
  rw [hn3, hS, hE] at HS HT
  clear HP1 HP2 HS0 HT0 hS hE hV kb k1 k2 b1 b2 l1 l2 u1 u2 v1 v2 hn1 hn2 hn3 hp
  have ho : (decide (rungOf x = M) || decide (rungOf y = M)) = false := by
    rw [decide_eq_false (by omega), decide_eq_false (by omega)]; rfl
  have HO0 := fun (W : World) (hb : Below w.heap.size w W) => odd_two W.heap.size x y (W.alloc (.cells #[.float .f64 x, .float .f64 y] 26)) hx hy (by omega) (by omega) (by simp [World.cell?_alloc_new]) (by simp [World.cell?_alloc_new])
  rw [ho] at HO0
  have HO := Lib.hid HO0
  have HX0 := fun W => middle_any x W hx (by omega)
  have HY0 := fun W => middle_any y W hy (by omega)
  have HQ0 := fun W => middle_any p W hp1 hp2
  obtain ⟨mx, ex⟩ : ∃ z, mid x = z := ⟨_, rfl⟩
  obtain ⟨my, ey⟩ : ∃ z, mid y = z := ⟨_, rfl⟩
  obtain ⟨mp, ep⟩ : ∃ z, mid p = z := ⟨_, rfl⟩
  rw [ex] at HX0 hm
  rw [ey] at HY0 hm
  rw [ep] at HQ0 hm
  have HX := Lib.hid HX0
  have HY := Lib.hid HY0
  have HQ := Lib.hid HQ0
  have LB := Lib.hid (below_alloc w (.cells #[.float .f64 x, .float .f64 y] 26))
  have hc : mx = false ∨ (mx = true ∧ my = false) ∨ (mx = true ∧ my = true ∧ mp = false) := by
    cases mx
    · exact .inl rfl
    · cases my
      · exact .inr (.inl ⟨rfl, rfl⟩)
      · cases mp
        · exact .inr (.inr ⟨rfl, rfl, rfl⟩)
        · exact absurd ⟨rfl, rfl, rfl⟩ hm
  obtain ⟨r, hr⟩ : ∃ r, pat (rndI d (fl (idx x) * fl (idx y))) = r := ⟨_, rfl⟩
  rw [hr] at HT ⊢
  clear HO0 ho hr rx ry hx hy hd hM hm ex ey ep HX0 HY0 HQ0 hp1 hp2
  rcases hc with rfl | ⟨rfl, rfl⟩ | ⟨rfl, rfl, rfl⟩
  all_goals
    go_enter Tryz.func119, Tryz.ntmps119
    go_wp2_with fail
    apply scope_once 0 _ _ rfl
    focus
      go_wp2_with fail
      refine (HO.out _ (Below.refl _ _)).mono ?_
      rintro e w' ⟨rfl, rfl⟩
      go_wp2_with fail
      refine (HX.out _).mono ?_
      rintro e w' ⟨rfl, rfl⟩
      go_wp2_with fail
      try (refine (HY.out _).mono ?_; rintro e w' ⟨rfl, rfl⟩; go_wp2_with fail)
      try (refine (HQ.out _).mono ?_; rintro e w' ⟨rfl, rfl⟩; go_wp2_with fail)
      try go_step3
      exact ⟨rfl, rfl, rfl⟩
    clear HO HX HY HQ
    generalize w.alloc (.cells #[.float .f64 x, .float .f64 y] 26) = wa at LB ⊢
    go_wp2_with fail
    refine (HX1.out _).mono ?_
    rintro e w1 ⟨A1, m1, c1, rfl, hu1, hb1⟩
    have LB1 := Lib.hid (LB.out.trans (hb1.mono LB.out.size))
    have U1 := Lib.hid hu1
    clear hu1 hb1 LB
    go_wp2_with fail
    refine (HX2.out _).mono ?_
    rintro e w2 ⟨A2, m2, c2, rfl, hu2, hb2⟩
    have LB2 := stB LB1 hb2 LB1.out.size
    have V1 := Lib.hid (U1.out.below hb2)
    have V2 := Lib.hid hu2
    clear hu2 hb2 LB1 U1
    go_wp2_with fail
    refine (HS.out _ _ _ _ _ _ _ V1.out V2.out).mono ?_
    rintro e w3 ⟨A3, m3, c3, rfl, hu3, hb3⟩
    have LB3 := stB LB2 hb3 LB2.out.size
    have V3 := Lib.hid hu3
    clear hu3 hb3 LB2 V1 V2
    go_wp2_with fail
    refine (HT.out _ _ _ _ V3.out).mono ?_
    rintro e w4 ⟨rfl, hb4⟩
    have LB4 := stB LB3 hb4 LB3.out.size
    clear hb4 LB3 V3
    go_wp2
    simp only [Exit.jump]
    go_ret
    exact ⟨rfl, LB4.out⟩
theorem sgn_pat {i : Int} (h : -(M : Int) ≤ i ∧ i ≤ M) (h0 : i ≠ 0) : sgn (pat i) = decide (i < 0) := by
  have c := pat_cases (pat_lt h.1 h.2)
  rw [idx_pat h.1 h.2] at c
  rcases c with ⟨c1, c2, c3, c4⟩ | ⟨c1, c2, c3, c4⟩
  · rw [c3, decide_eq_false (by omega)]
  · rw [c3, decide_eq_true (by omega)]
def mu (d i j : Int) : Int := if i = M ∨ i = -(M : Int) ∨ j = M ∨ j = -(M : Int) then (if (decide (i < 0) ^^ decide (j < 0)) = true then -(M : Int) else M) else rndI d (fl i * fl j)
theorem rmul_pat (d i j : Int) (w : World) (hd : d = -1 ∨ d = 1) (hi : -(M : Int) ≤ i ∧ i ≤ M) (hj : -(M : Int) ≤ j ∧ j ≤ M) (ni : i ≠ 0) (nj : j ≠ 0) :
    Calls Tryz.prog 119 #[.int .i64 d, .float .f64 (pat i), .float .f64 (pat j)] w fun e w' => e = .returned (.float .f64 (pat (mu d i j))) ∧ Below w.heap.size w w' := by
  have hM : M = 9218868437227405312 := rfl
  have px := pat_lt hi.1 hi.2
  have py := pat_lt hj.1 hj.2
  have rx := rung_pat hi.1 hi.2
  have ry := rung_pat hj.1 hj.2
  unfold mu
  by_cases h : i = M ∨ i = -(M : Int) ∨ j = M ∨ j = -(M : Int)
  · rw [if_pos h]
    have hm := mul_inf (x := pat i) (y := pat j) (by omega) (by omega) (by omega) (by omega) (by omega)
    rw [sgn_pat hi ni, sgn_pat hj nj] at hm
    obtain ⟨k, hk⟩ : ∃ k : Int, (if (decide (i < 0) ^^ decide (j < 0)) = true then -(M : Int) else M) = k := ⟨_, rfl⟩
    have hk2 : -(M : Int) ≤ k ∧ k ≤ M := by rw [← hk]; split <;> omega
    rw [hk] at hm ⊢
    have hp := fun W => rplain (pat k) W (pat_lt hk2.1 hk2.2) (by rw [rung_pat hk2.1 hk2.2]; omega)
    rw [idx_pat hk2.1 hk2.2] at hp
    refine rmul_inf d (pat i) (pat j) (pat k) (pat k) w px py (by omega) (by omega) ?_ hm hp
    by_cases h2 : rungOf (pat i) = M
    · rw [decide_eq_true h2]; rfl
    · rw [decide_eq_true (show rungOf (pat j) = M by omega), Bool.or_true]
  · rw [if_neg h]
    obtain ⟨p, hp, his⟩ := mul_fin (show fin (pat i) by unfold fin; omega) (show fin (pat j) by unfold fin; omega)
    have hr := near_range (val (idx (pat i)) * val (idx (pat j))) 1074
    have hn := idx_natAbs p
    rw [his.idx] at hn
    have hp2 : rungOf p ≤ M := by omega
    have e : rndI d (fl i * fl j) = rndI d (fl (idx (pat i)) * fl (idx (pat j))) := by rw [idx_pat hi.1 hi.2, idx_pat hj.1 hj.2]
    rw [e]
    by_cases hm : mid (pat i) = true ∧ mid (pat j) = true ∧ mid p = true
    · exact rmul_quick d (pat i) (pat j) p w hd px py (by omega) (by omega) hp hm.1 hm.2.1 hm.2.2
    · exact rmul_exact d (pat i) (pat j) p w hd px py (by omega) (by omega) hp his.lt hp2 hm
end Go.Proofs.YthlmlmfebpjgdaaGreatDoor
