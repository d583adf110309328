/-
Walks: package rev, MinRev.
-/
import Derived.Test.YthaojemejpbbgaaM24
import Derived.Test.YthaojemejpbbgaaM25
import Derived.Deep.DeepCutAuto
set_option linter.unusedSimpArgs false
set_option linter.unusedVariables false

namespace Go.Proofs.Ythaojemejpbbgaa
open Go.RowKit
attribute [local go_sem] run_store_float

theorem Kp.toBelow {g0 g1 g2 B : Nat} {w0 w w' : World} (h : Kp g0 g1 g2 w w') (hb : Below B w0 w) (hB : B ≤ w.heap.size) (h0 : B ≤ g0) (h1 : B ≤ g1) (h2 : B ≤ g2) : Below B w0 w' :=
  ⟨h.os.trans hb.os, h.tape.trans hb.tape, h.output.trans hb.output, Nat.le_trans hb.size h.size, fun k hk => (h.block k (by omega) (by omega) (by omega) (by omega)).trans (hb.block k hk)⟩
theorem Kp.hasBlk {g0 g1 g2 r n : Nat} {t : TypeId} {w w' : World} (h : Kp g0 g1 g2 w w') (hr : HasBlk w r t n) (h0 : r ≠ g0) (h1 : r ≠ g1) (h2 : r ≠ g2) : HasBlk w' r t n := by
  obtain ⟨cs, a, b⟩ := hr
  exact ⟨cs, (h.block r a.lt h0 h1 h2).trans a, b⟩
/-- What the program makes of MinRev. -/
def rmr (i1 j1 i2 j2 i3 j3 : Int) : Int × Int := if j1 < i1 ∨ j2 < i2 ∨ j3 < i3 ∨ j1 < i2 then ((M : Int), -(M : Int)) else it i2 (if i1 ≤ j2 then (M : Int) else j2) i3 j3

set_option maxHeartbeats 6400000 in
theorem revmin_none (b1 b2 c1 c2 x y : Nat) (i1 j1 i2 j2 i3 j3 : Int) (w : World) (hb1 : b1 < 18446744073709551616) (hb2 : b2 < 18446744073709551616) (hc1 : c1 < 18446744073709551616) (hc2 : c2 < 18446744073709551616) (hx : x < 18446744073709551616) (hy : y < 18446744073709551616) (r1 : rd b1 b2 = (i1, j1)) (r2 : rd c1 c2 = (i2, j2)) (r3 : rd x y = (i3, j3)) (hno : j1 < i1 ∨ j2 < i2 ∨ j3 < i3) :
    Calls Try.prog 6 #[.agg #[.float .f64 b1, .float .f64 b2], .agg #[.float .f64 c1, .float .f64 c2], .agg #[.float .f64 x, .float .f64 y]] w fun e w' => e = .returned (.agg #[.float .f64 (pat (((M : Int), -(M : Int))).1), .float .f64 (pat (((M : Int), -(M : Int))).2)]) ∧ Below w.heap.size w w' := by
  have v1 := rd_iv b1 b2
  have v2 := rd_iv c1 c2
  have v3 := rd_iv x y
  rw [r1] at v1
  rw [r2] at v2
  rw [r3] at v3
  dsimp only at v1 v2 v3
  have hM : M = 9218868437227405312 := rfl
  have t1 := fun W => readf b1 b2 W hb1 hb2
  have t2 := fun W => readf c1 c2 W hc1 hc2
  have t3 := fun W => readf x y W hx hy
  rw [r1] at t1
  rw [r2] at t2
  rw [r3] at t3
  dsimp only at t1 t2 t3
  have m1 := em_idx v1
  have m2 := em_idx v2
  have m3 := em_idx v3
  have o1 := order_pat v2.lo.1 v2.lo.2 v1.hi.1 v1.hi.2
  have o2 := order_pat v2.hi.1 v2.hi.2 v1.lo.1 v1.lo.2
  have hnn : (decide (j1 < i1) || decide (j2 < i2) || decide (j3 < i3)) = true := by simp; omega
  rw [pat_max, pat_min]
  have HE := Lib.hid emptyf
  obtain ⟨P1, hP1⟩ : ∃ z, pat i1 = z := ⟨_, rfl⟩
  obtain ⟨Q1, hQ1⟩ : ∃ z, pat j1 = z := ⟨_, rfl⟩
  obtain ⟨P2, hP2⟩ : ∃ z, pat i2 = z := ⟨_, rfl⟩
  obtain ⟨Q2, hQ2⟩ : ∃ z, pat j2 = z := ⟨_, rfl⟩
  obtain ⟨P3, hP3⟩ : ∃ z, pat i3 = z := ⟨_, rfl⟩
  obtain ⟨Q3, hQ3⟩ : ∃ z, pat j3 = z := ⟨_, rfl⟩
  rw [hP1, hQ1] at t1 m1
  rw [hP2, hQ2] at t2 m2
  rw [hP3, hQ3] at t3 m3
  have LB0 := Lib.hid (show Below w.heap.size w ((((w.alloc (.cells #[.float .f64 b1, .float .f64 b2] 29)).alloc (.cells #[.float .f64 c1, .float .f64 c2] 29)).alloc (.cells #[.float .f64 x, .float .f64 y] 29)).alloc (.cells #[.float .f64 0, .float .f64 0] 29)) from ((((below_alloc w _).alloc (by simp <;> omega) _).alloc (by simp <;> omega) _).alloc (by simp <;> omega) _))
  have LG0_0 := Lib.hid (((((Blk.at (W := w) (g := w.heap.size) (by simp <;> omega) 29 #[.float .f64 b1, .float .f64 b2]).alloc (.cells #[.float .f64 c1, .float .f64 c2] 29)).alloc (.cells #[.float .f64 x, .float .f64 y] 29)).alloc (.cells #[.float .f64 0, .float .f64 0] 29)))
  have LG1_0 := Lib.hid ((((Blk.at (W := (w.alloc (.cells #[.float .f64 b1, .float .f64 b2] 29))) (g := (w.heap.size + 1)) (by simp <;> omega) 29 #[.float .f64 c1, .float .f64 c2]).alloc (.cells #[.float .f64 x, .float .f64 y] 29)).alloc (.cells #[.float .f64 0, .float .f64 0] 29)))
  have LG2_0 := Lib.hid (((Blk.at (W := ((w.alloc (.cells #[.float .f64 b1, .float .f64 b2] 29)).alloc (.cells #[.float .f64 c1, .float .f64 c2] 29))) (g := (w.heap.size + 2)) (by simp <;> omega) 29 #[.float .f64 x, .float .f64 y]).alloc (.cells #[.float .f64 0, .float .f64 0] 29)))
  have LR0 := Lib.hid (HasBlk.of (n := 2) (Blk.at (W := (((w.alloc (.cells #[.float .f64 b1, .float .f64 b2] 29)).alloc (.cells #[.float .f64 c1, .float .f64 c2] 29)).alloc (.cells #[.float .f64 x, .float .f64 y] 29))) (g := (w.heap.size + 3)) (by simp <;> omega) 29 #[.float .f64 0, .float .f64 0]) rfl rfl)
  have hrow := Blk.at (W := ((((w.alloc (.cells #[.float .f64 b1, .float .f64 b2] 29)).alloc (.cells #[.float .f64 c1, .float .f64 c2] 29)).alloc (.cells #[.float .f64 x, .float .f64 y] 29)).alloc (.cells #[.float .f64 0, .float .f64 0] 29))) (g := w.heap.size + 1 + 1 + 1 + 1) (by simp) 38 #[.pointer (some ⟨w.heap.size, 0, none⟩), .pointer (some ⟨w.heap.size + 1, 0, none⟩), .pointer (some ⟨w.heap.size + 1 + 1, 0, none⟩)]
  have HRD := Lib.hid (read_three b1 b2 c1 c2 x y P1 Q1 P2 Q2 P3 Q3 w.heap.size (w.heap.size + 1) (w.heap.size + 1 + 1) (w.heap.size + 1 + 1 + 1 + 1) 3 _ _ _ _ (by omega) (by omega) (by omega) (by omega) (by omega) (by omega) (hrow.cell 0) (hrow.cell 1) (hrow.cell 2) (LG0_0.out.alloc (.cells #[.pointer (some ⟨w.heap.size, 0, none⟩), .pointer (some ⟨w.heap.size + 1, 0, none⟩), .pointer (some ⟨w.heap.size + 1 + 1, 0, none⟩)] 38)) (LG1_0.out.alloc (.cells #[.pointer (some ⟨w.heap.size, 0, none⟩), .pointer (some ⟨w.heap.size + 1, 0, none⟩), .pointer (some ⟨w.heap.size + 1 + 1, 0, none⟩)] 38)) (LG2_0.out.alloc (.cells #[.pointer (some ⟨w.heap.size, 0, none⟩), .pointer (some ⟨w.heap.size + 1, 0, none⟩), .pointer (some ⟨w.heap.size + 1 + 1, 0, none⟩)] 38)) t1 t2 t3 m1 m2 m3)
  rw [hnn] at HRD
  have LBr := Lib.hid (LB0.out.alloc (by simp <;> omega) (.cells #[.pointer (some ⟨w.heap.size, 0, none⟩), .pointer (some ⟨w.heap.size + 1, 0, none⟩), .pointer (some ⟨w.heap.size + 1 + 1, 0, none⟩)] 38))
  have LRr := Lib.hid (LR0.out.alloc (.cells #[.pointer (some ⟨w.heap.size, 0, none⟩), .pointer (some ⟨w.heap.size + 1, 0, none⟩), .pointer (some ⟨w.heap.size + 1 + 1, 0, none⟩)] 38))
  have hsz : w.heap.size ≤ ((((((w.alloc (.cells #[.float .f64 b1, .float .f64 b2] 29)).alloc (.cells #[.float .f64 c1, .float .f64 c2] 29)).alloc (.cells #[.float .f64 x, .float .f64 y] 29)).alloc (.cells #[.float .f64 0, .float .f64 0] 29))).alloc (.cells #[.pointer (some ⟨w.heap.size, 0, none⟩), .pointer (some ⟨w.heap.size + 1, 0, none⟩), .pointer (some ⟨w.heap.size + 1 + 1, 0, none⟩)] 38)).heap.size := by simp; omega
  have HSZ := Lib.hid hsz
  clear t1 t2 t3 m1 m2 m3 hrow hnn hno v1 v2 v3 hM hsz hP1 hQ1 hP2 hQ2 hP3 hQ3 r1 r2 r3 LB0 LR0 LG0_0 LG1_0 LG2_0 o1 o2
  go_enter Try.func6, Try.ntmps6
  go_wp2_with fail
  refine HRD.out.mono ?_
  rintro e w1 ⟨rfl, d0, d1, d2, kp⟩
  have LB1 := Lib.hid (kp.toBelow LBr.out HSZ.out (Nat.le_refl _) (by omega) (by omega))
  have LR1 := Lib.hid (kp.hasBlk LRr.out (by omega) (by omega) (by omega))
  have LG0_1 := Lib.hid (show Blk w1 w.heap.size 29 _ from d0)
  have LG1_1 := Lib.hid (show Blk w1 (w.heap.size + 1) 29 _ from d1)
  have LG2_1 := Lib.hid (show Blk w1 (w.heap.size + 2) 29 _ from d2)
  clear d0 d1 d2 kp LBr LRr HSZ HRD
  have q0_0 : _ = some (.float .f64 P1 : Value) := LG0_1.out.cell 0
  have q0_1 : _ = some (.float .f64 Q1 : Value) := LG0_1.out.cell 1
  have q1_0 : _ = some (.float .f64 P2 : Value) := LG1_1.out.cell 0
  have q1_1 : _ = some (.float .f64 Q2 : Value) := LG1_1.out.cell 1
  go_wp2_with fail
  refine (HE.out _).mono ?_
  rintro e w2 ⟨rfl, hbx⟩
  have LB2 := Lib.hid (LB1.out.trans (hbx.mono LB1.out.size))
  have LR2 := Lib.hid (LR1.out.keep hbx)
  have LG0_2 := Lib.hid (LG0_1.out.keep hbx)
  have LG1_2 := Lib.hid (LG1_1.out.keep hbx)
  have LG2_2 := Lib.hid (LG2_1.out.keep hbx)
  clear LB1 LR1 LG0_1 LG1_1 LG2_1
  clear hbx q0_0 q0_1 q1_0 q1_1
  have ha0 := LR2.out.someCell 0 (by decide)
  have hf0 := LR2.out.frozen 0
  have ha1 := LR2.out.someCell 1 (by decide)
  have hf1 := LR2.out.frozen 1
  have hk0 := LR2.out.setCell [.float .f64 9218868437227405312, .float .f64 18442240474082181120] rfl 0 (by decide)
  have hk1 := LR2.out.setCell [.float .f64 9218868437227405312, .float .f64 18442240474082181120] rfl 1 (by decide)
  have F := Lib.hid (below_sets (w0 := w) (r := (w.heap.size + 3)) (by omega) [.float .f64 9218868437227405312, .float .f64 18442240474082181120] 0 _ LB2.out)
  simp [sets] at hk0 hk1
  go_wp2
  refine bodyPost_ret (v := .agg #[.float .f64 9218868437227405312, .float .f64 18442240474082181120]) (by simp [results, Try.results6, go_sem, hk0, hk1]) rfl ?_
  exact ⟨rfl, F.out⟩

set_option maxHeartbeats 6400000 in
theorem revmin_gt (b1 b2 c1 c2 x y : Nat) (i1 j1 i2 j2 i3 j3 : Int) (w : World) (hb1 : b1 < 18446744073709551616) (hb2 : b2 < 18446744073709551616) (hc1 : c1 < 18446744073709551616) (hc2 : c2 < 18446744073709551616) (hx : x < 18446744073709551616) (hy : y < 18446744073709551616) (r1 : rd b1 b2 = (i1, j1)) (r2 : rd c1 c2 = (i2, j2)) (r3 : rd x y = (i3, j3)) (hno : ¬ (j1 < i1 ∨ j2 < i2 ∨ j3 < i3)) (hgt : j1 < i2) :
    Calls Try.prog 6 #[.agg #[.float .f64 b1, .float .f64 b2], .agg #[.float .f64 c1, .float .f64 c2], .agg #[.float .f64 x, .float .f64 y]] w fun e w' => e = .returned (.agg #[.float .f64 (pat (((M : Int), -(M : Int))).1), .float .f64 (pat (((M : Int), -(M : Int))).2)]) ∧ Below w.heap.size w w' := by
  have v1 := rd_iv b1 b2
  have v2 := rd_iv c1 c2
  have v3 := rd_iv x y
  rw [r1] at v1
  rw [r2] at v2
  rw [r3] at v3
  dsimp only at v1 v2 v3
  have hM : M = 9218868437227405312 := rfl
  have t1 := fun W => readf b1 b2 W hb1 hb2
  have t2 := fun W => readf c1 c2 W hc1 hc2
  have t3 := fun W => readf x y W hx hy
  rw [r1] at t1
  rw [r2] at t2
  rw [r3] at t3
  dsimp only at t1 t2 t3
  have m1 := em_idx v1
  have m2 := em_idx v2
  have m3 := em_idx v3
  have o1 := order_pat v2.lo.1 v2.lo.2 v1.hi.1 v1.hi.2
  have o2 := order_pat v2.hi.1 v2.hi.2 v1.lo.1 v1.lo.2
  have hnn : (decide (j1 < i1) || decide (j2 < i2) || decide (j3 < i3)) = false := by simp; omega
  rw [show compare i2 j1 = .gt from Int.compare_eq_gt.2 hgt] at o1
  rw [pat_max, pat_min]
  have HE := Lib.hid emptyf
  obtain ⟨P1, hP1⟩ : ∃ z, pat i1 = z := ⟨_, rfl⟩
  obtain ⟨Q1, hQ1⟩ : ∃ z, pat j1 = z := ⟨_, rfl⟩
  obtain ⟨P2, hP2⟩ : ∃ z, pat i2 = z := ⟨_, rfl⟩
  obtain ⟨Q2, hQ2⟩ : ∃ z, pat j2 = z := ⟨_, rfl⟩
  obtain ⟨P3, hP3⟩ : ∃ z, pat i3 = z := ⟨_, rfl⟩
  obtain ⟨Q3, hQ3⟩ : ∃ z, pat j3 = z := ⟨_, rfl⟩
  rw [hP1, hQ1] at t1 m1
  rw [hP2, hQ2] at t2 m2
  rw [hP3, hQ3] at t3 m3
  rw [hP2, hQ1] at o1
  have LB0 := Lib.hid (show Below w.heap.size w ((((w.alloc (.cells #[.float .f64 b1, .float .f64 b2] 29)).alloc (.cells #[.float .f64 c1, .float .f64 c2] 29)).alloc (.cells #[.float .f64 x, .float .f64 y] 29)).alloc (.cells #[.float .f64 0, .float .f64 0] 29)) from ((((below_alloc w _).alloc (by simp <;> omega) _).alloc (by simp <;> omega) _).alloc (by simp <;> omega) _))
  have LG0_0 := Lib.hid (((((Blk.at (W := w) (g := w.heap.size) (by simp <;> omega) 29 #[.float .f64 b1, .float .f64 b2]).alloc (.cells #[.float .f64 c1, .float .f64 c2] 29)).alloc (.cells #[.float .f64 x, .float .f64 y] 29)).alloc (.cells #[.float .f64 0, .float .f64 0] 29)))
  have LG1_0 := Lib.hid ((((Blk.at (W := (w.alloc (.cells #[.float .f64 b1, .float .f64 b2] 29))) (g := (w.heap.size + 1)) (by simp <;> omega) 29 #[.float .f64 c1, .float .f64 c2]).alloc (.cells #[.float .f64 x, .float .f64 y] 29)).alloc (.cells #[.float .f64 0, .float .f64 0] 29)))
  have LG2_0 := Lib.hid (((Blk.at (W := ((w.alloc (.cells #[.float .f64 b1, .float .f64 b2] 29)).alloc (.cells #[.float .f64 c1, .float .f64 c2] 29))) (g := (w.heap.size + 2)) (by simp <;> omega) 29 #[.float .f64 x, .float .f64 y]).alloc (.cells #[.float .f64 0, .float .f64 0] 29)))
  have LR0 := Lib.hid (HasBlk.of (n := 2) (Blk.at (W := (((w.alloc (.cells #[.float .f64 b1, .float .f64 b2] 29)).alloc (.cells #[.float .f64 c1, .float .f64 c2] 29)).alloc (.cells #[.float .f64 x, .float .f64 y] 29))) (g := (w.heap.size + 3)) (by simp <;> omega) 29 #[.float .f64 0, .float .f64 0]) rfl rfl)
  have hrow := Blk.at (W := ((((w.alloc (.cells #[.float .f64 b1, .float .f64 b2] 29)).alloc (.cells #[.float .f64 c1, .float .f64 c2] 29)).alloc (.cells #[.float .f64 x, .float .f64 y] 29)).alloc (.cells #[.float .f64 0, .float .f64 0] 29))) (g := w.heap.size + 1 + 1 + 1 + 1) (by simp) 38 #[.pointer (some ⟨w.heap.size, 0, none⟩), .pointer (some ⟨w.heap.size + 1, 0, none⟩), .pointer (some ⟨w.heap.size + 1 + 1, 0, none⟩)]
  have HRD := Lib.hid (read_three b1 b2 c1 c2 x y P1 Q1 P2 Q2 P3 Q3 w.heap.size (w.heap.size + 1) (w.heap.size + 1 + 1) (w.heap.size + 1 + 1 + 1 + 1) 3 _ _ _ _ (by omega) (by omega) (by omega) (by omega) (by omega) (by omega) (hrow.cell 0) (hrow.cell 1) (hrow.cell 2) (LG0_0.out.alloc (.cells #[.pointer (some ⟨w.heap.size, 0, none⟩), .pointer (some ⟨w.heap.size + 1, 0, none⟩), .pointer (some ⟨w.heap.size + 1 + 1, 0, none⟩)] 38)) (LG1_0.out.alloc (.cells #[.pointer (some ⟨w.heap.size, 0, none⟩), .pointer (some ⟨w.heap.size + 1, 0, none⟩), .pointer (some ⟨w.heap.size + 1 + 1, 0, none⟩)] 38)) (LG2_0.out.alloc (.cells #[.pointer (some ⟨w.heap.size, 0, none⟩), .pointer (some ⟨w.heap.size + 1, 0, none⟩), .pointer (some ⟨w.heap.size + 1 + 1, 0, none⟩)] 38)) t1 t2 t3 m1 m2 m3)
  rw [hnn] at HRD
  have LBr := Lib.hid (LB0.out.alloc (by simp <;> omega) (.cells #[.pointer (some ⟨w.heap.size, 0, none⟩), .pointer (some ⟨w.heap.size + 1, 0, none⟩), .pointer (some ⟨w.heap.size + 1 + 1, 0, none⟩)] 38))
  have LRr := Lib.hid (LR0.out.alloc (.cells #[.pointer (some ⟨w.heap.size, 0, none⟩), .pointer (some ⟨w.heap.size + 1, 0, none⟩), .pointer (some ⟨w.heap.size + 1 + 1, 0, none⟩)] 38))
  have hsz : w.heap.size ≤ ((((((w.alloc (.cells #[.float .f64 b1, .float .f64 b2] 29)).alloc (.cells #[.float .f64 c1, .float .f64 c2] 29)).alloc (.cells #[.float .f64 x, .float .f64 y] 29)).alloc (.cells #[.float .f64 0, .float .f64 0] 29))).alloc (.cells #[.pointer (some ⟨w.heap.size, 0, none⟩), .pointer (some ⟨w.heap.size + 1, 0, none⟩), .pointer (some ⟨w.heap.size + 1 + 1, 0, none⟩)] 38)).heap.size := by simp; omega
  have HSZ := Lib.hid hsz
  clear t1 t2 t3 m1 m2 m3 hrow hnn hno v1 v2 v3 hM hsz hP1 hQ1 hP2 hQ2 hP3 hQ3 r1 r2 r3 LB0 LR0 LG0_0 LG1_0 LG2_0 hgt o2
  go_enter Try.func6, Try.ntmps6
  go_wp2_with fail
  refine HRD.out.mono ?_
  rintro e w1 ⟨rfl, d0, d1, d2, kp⟩
  have LB1 := Lib.hid (kp.toBelow LBr.out HSZ.out (Nat.le_refl _) (by omega) (by omega))
  have LR1 := Lib.hid (kp.hasBlk LRr.out (by omega) (by omega) (by omega))
  have LG0_1 := Lib.hid (show Blk w1 w.heap.size 29 _ from d0)
  have LG1_1 := Lib.hid (show Blk w1 (w.heap.size + 1) 29 _ from d1)
  have LG2_1 := Lib.hid (show Blk w1 (w.heap.size + 2) 29 _ from d2)
  clear d0 d1 d2 kp LBr LRr HSZ HRD
  have q0_0 : _ = some (.float .f64 P1 : Value) := LG0_1.out.cell 0
  have q0_1 : _ = some (.float .f64 Q1 : Value) := LG0_1.out.cell 1
  have q1_0 : _ = some (.float .f64 P2 : Value) := LG1_1.out.cell 0
  have q1_1 : _ = some (.float .f64 Q2 : Value) := LG1_1.out.cell 1
  go_wp2_with fail
  refine (HE.out _).mono ?_
  rintro e w2 ⟨rfl, hbx⟩
  have LB2 := Lib.hid (LB1.out.trans (hbx.mono LB1.out.size))
  have LR2 := Lib.hid (LR1.out.keep hbx)
  have LG0_2 := Lib.hid (LG0_1.out.keep hbx)
  have LG1_2 := Lib.hid (LG1_1.out.keep hbx)
  have LG2_2 := Lib.hid (LG2_1.out.keep hbx)
  clear LB1 LR1 LG0_1 LG1_1 LG2_1
  clear hbx q0_0 q0_1 q1_0 q1_1
  have ha0 := LR2.out.someCell 0 (by decide)
  have hf0 := LR2.out.frozen 0
  have ha1 := LR2.out.someCell 1 (by decide)
  have hf1 := LR2.out.frozen 1
  have hk0 := LR2.out.setCell [.float .f64 9218868437227405312, .float .f64 18442240474082181120] rfl 0 (by decide)
  have hk1 := LR2.out.setCell [.float .f64 9218868437227405312, .float .f64 18442240474082181120] rfl 1 (by decide)
  have F := Lib.hid (below_sets (w0 := w) (r := (w.heap.size + 3)) (by omega) [.float .f64 9218868437227405312, .float .f64 18442240474082181120] 0 _ LB2.out)
  simp [sets] at hk0 hk1
  go_wp2
  refine bodyPost_ret (v := .agg #[.float .f64 9218868437227405312, .float .f64 18442240474082181120]) (by simp [results, Try.results6, go_sem, hk0, hk1]) rfl ?_
  exact ⟨rfl, F.out⟩

set_option maxHeartbeats 6400000 in
theorem revmin_ge (b1 b2 c1 c2 x y : Nat) (i1 j1 i2 j2 i3 j3 : Int) (w : World) (hb1 : b1 < 18446744073709551616) (hb2 : b2 < 18446744073709551616) (hc1 : c1 < 18446744073709551616) (hc2 : c2 < 18446744073709551616) (hx : x < 18446744073709551616) (hy : y < 18446744073709551616) (r1 : rd b1 b2 = (i1, j1)) (r2 : rd c1 c2 = (i2, j2)) (r3 : rd x y = (i3, j3)) (hno : ¬ (j1 < i1 ∨ j2 < i2 ∨ j3 < i3)) (hgt : ¬ j1 < i2) (hge : i1 ≤ j2) :
    Calls Try.prog 6 #[.agg #[.float .f64 b1, .float .f64 b2], .agg #[.float .f64 c1, .float .f64 c2], .agg #[.float .f64 x, .float .f64 y]] w fun e w' => e = .returned (.agg #[.float .f64 (pat (it i2 M i3 j3).1), .float .f64 (pat (it i2 M i3 j3).2)]) ∧ Below w.heap.size w w' := by
  have v1 := rd_iv b1 b2
  have v2 := rd_iv c1 c2
  have v3 := rd_iv x y
  rw [r1] at v1
  rw [r2] at v2
  rw [r3] at v3
  dsimp only at v1 v2 v3
  have hM : M = 9218868437227405312 := rfl
  have t1 := fun W => readf b1 b2 W hb1 hb2
  have t2 := fun W => readf c1 c2 W hc1 hc2
  have t3 := fun W => readf x y W hx hy
  rw [r1] at t1
  rw [r2] at t2
  rw [r3] at t3
  dsimp only at t1 t2 t3
  have m1 := em_idx v1
  have m2 := em_idx v2
  have m3 := em_idx v3
  have o1 := order_pat v2.lo.1 v2.lo.2 v1.hi.1 v1.hi.2
  have o2 := order_pat v2.hi.1 v2.hi.2 v1.lo.1 v1.lo.2
  have hnn : (decide (j1 < i1) || decide (j2 < i2) || decide (j3 < i3)) = false := by simp; omega
  have w2 : Iv i2 M := by unfold Iv at *; omega
  have HI := Lib.hid fun W => inter_idx i2 M i3 j3 W w2 v3
  rw [pat_max] at HI
  have ho1 : (FloatKind.f64.format.order (pat i2) (pat j1) == some Ordering.gt) = false := by
    rw [o1]
    rcases Int.lt_trichotomy i2 j1 with h | h | h
    · rw [show compare i2 j1 = .lt from Int.compare_eq_lt.2 h]; rfl
    · rw [show compare i2 j1 = .eq from Int.compare_eq_eq.2 h]; rfl
    · exact absurd h hgt
  clear o1
  have hge2 : compare j2 i1 = .gt ∨ compare j2 i1 = .eq := by
    rcases Int.lt_trichotomy i1 j2 with h | h | h
    · exact .inl (Int.compare_eq_gt.2 h)
    · exact .inr (Int.compare_eq_eq.2 h.symm)
    · omega
  obtain ⟨z1, hz1⟩ : ∃ z, pat (it i2 M i3 j3).1 = z := ⟨_, rfl⟩
  obtain ⟨z2, hz2⟩ : ∃ z, pat (it i2 M i3 j3).2 = z := ⟨_, rfl⟩
  rw [hz1, hz2] at HI ⊢
  clear hz1 hz2
  obtain ⟨P1, hP1⟩ : ∃ z, pat i1 = z := ⟨_, rfl⟩
  obtain ⟨Q1, hQ1⟩ : ∃ z, pat j1 = z := ⟨_, rfl⟩
  obtain ⟨P2, hP2⟩ : ∃ z, pat i2 = z := ⟨_, rfl⟩
  obtain ⟨Q2, hQ2⟩ : ∃ z, pat j2 = z := ⟨_, rfl⟩
  obtain ⟨P3, hP3⟩ : ∃ z, pat i3 = z := ⟨_, rfl⟩
  obtain ⟨Q3, hQ3⟩ : ∃ z, pat j3 = z := ⟨_, rfl⟩
  rw [hP1, hQ1] at t1 m1
  rw [hP2, hQ2] at t2 m2
  rw [hP3, hQ3] at t3 m3
  rw [hP2, hQ1] at ho1
  rw [hQ2, hP1] at o2
  rw [hP2, hP3, hQ3] at HI
  have LB0 := Lib.hid (show Below w.heap.size w ((((w.alloc (.cells #[.float .f64 b1, .float .f64 b2] 29)).alloc (.cells #[.float .f64 c1, .float .f64 c2] 29)).alloc (.cells #[.float .f64 x, .float .f64 y] 29)).alloc (.cells #[.float .f64 0, .float .f64 0] 29)) from ((((below_alloc w _).alloc (by simp <;> omega) _).alloc (by simp <;> omega) _).alloc (by simp <;> omega) _))
  have LG0_0 := Lib.hid (((((Blk.at (W := w) (g := w.heap.size) (by simp <;> omega) 29 #[.float .f64 b1, .float .f64 b2]).alloc (.cells #[.float .f64 c1, .float .f64 c2] 29)).alloc (.cells #[.float .f64 x, .float .f64 y] 29)).alloc (.cells #[.float .f64 0, .float .f64 0] 29)))
  have LG1_0 := Lib.hid ((((Blk.at (W := (w.alloc (.cells #[.float .f64 b1, .float .f64 b2] 29))) (g := (w.heap.size + 1)) (by simp <;> omega) 29 #[.float .f64 c1, .float .f64 c2]).alloc (.cells #[.float .f64 x, .float .f64 y] 29)).alloc (.cells #[.float .f64 0, .float .f64 0] 29)))
  have LG2_0 := Lib.hid (((Blk.at (W := ((w.alloc (.cells #[.float .f64 b1, .float .f64 b2] 29)).alloc (.cells #[.float .f64 c1, .float .f64 c2] 29))) (g := (w.heap.size + 2)) (by simp <;> omega) 29 #[.float .f64 x, .float .f64 y]).alloc (.cells #[.float .f64 0, .float .f64 0] 29)))
  have LR0 := Lib.hid (HasBlk.of (n := 2) (Blk.at (W := (((w.alloc (.cells #[.float .f64 b1, .float .f64 b2] 29)).alloc (.cells #[.float .f64 c1, .float .f64 c2] 29)).alloc (.cells #[.float .f64 x, .float .f64 y] 29))) (g := (w.heap.size + 3)) (by simp <;> omega) 29 #[.float .f64 0, .float .f64 0]) rfl rfl)
  have hrow := Blk.at (W := ((((w.alloc (.cells #[.float .f64 b1, .float .f64 b2] 29)).alloc (.cells #[.float .f64 c1, .float .f64 c2] 29)).alloc (.cells #[.float .f64 x, .float .f64 y] 29)).alloc (.cells #[.float .f64 0, .float .f64 0] 29))) (g := w.heap.size + 1 + 1 + 1 + 1) (by simp) 38 #[.pointer (some ⟨w.heap.size, 0, none⟩), .pointer (some ⟨w.heap.size + 1, 0, none⟩), .pointer (some ⟨w.heap.size + 1 + 1, 0, none⟩)]
  have HRD := Lib.hid (read_three b1 b2 c1 c2 x y P1 Q1 P2 Q2 P3 Q3 w.heap.size (w.heap.size + 1) (w.heap.size + 1 + 1) (w.heap.size + 1 + 1 + 1 + 1) 3 _ _ _ _ (by omega) (by omega) (by omega) (by omega) (by omega) (by omega) (hrow.cell 0) (hrow.cell 1) (hrow.cell 2) (LG0_0.out.alloc (.cells #[.pointer (some ⟨w.heap.size, 0, none⟩), .pointer (some ⟨w.heap.size + 1, 0, none⟩), .pointer (some ⟨w.heap.size + 1 + 1, 0, none⟩)] 38)) (LG1_0.out.alloc (.cells #[.pointer (some ⟨w.heap.size, 0, none⟩), .pointer (some ⟨w.heap.size + 1, 0, none⟩), .pointer (some ⟨w.heap.size + 1 + 1, 0, none⟩)] 38)) (LG2_0.out.alloc (.cells #[.pointer (some ⟨w.heap.size, 0, none⟩), .pointer (some ⟨w.heap.size + 1, 0, none⟩), .pointer (some ⟨w.heap.size + 1 + 1, 0, none⟩)] 38)) t1 t2 t3 m1 m2 m3)
  rw [hnn] at HRD
  have LBr := Lib.hid (LB0.out.alloc (by simp <;> omega) (.cells #[.pointer (some ⟨w.heap.size, 0, none⟩), .pointer (some ⟨w.heap.size + 1, 0, none⟩), .pointer (some ⟨w.heap.size + 1 + 1, 0, none⟩)] 38))
  have LRr := Lib.hid (LR0.out.alloc (.cells #[.pointer (some ⟨w.heap.size, 0, none⟩), .pointer (some ⟨w.heap.size + 1, 0, none⟩), .pointer (some ⟨w.heap.size + 1 + 1, 0, none⟩)] 38))
  have hsz : w.heap.size ≤ ((((((w.alloc (.cells #[.float .f64 b1, .float .f64 b2] 29)).alloc (.cells #[.float .f64 c1, .float .f64 c2] 29)).alloc (.cells #[.float .f64 x, .float .f64 y] 29)).alloc (.cells #[.float .f64 0, .float .f64 0] 29))).alloc (.cells #[.pointer (some ⟨w.heap.size, 0, none⟩), .pointer (some ⟨w.heap.size + 1, 0, none⟩), .pointer (some ⟨w.heap.size + 1 + 1, 0, none⟩)] 38)).heap.size := by simp; omega
  have HSZ := Lib.hid hsz
  clear t1 t2 t3 m1 m2 m3 hrow hnn hno v1 v2 v3 hM hsz hP1 hQ1 hP2 hQ2 hP3 hQ3 r1 r2 r3 LB0 LR0 LG0_0 LG1_0 LG2_0 hgt hge
  go_enter Try.func6, Try.ntmps6
  go_wp2_with fail
  refine HRD.out.mono ?_
  rintro e w1 ⟨rfl, d0, d1, d2, kp⟩
  have LB1 := Lib.hid (kp.toBelow LBr.out HSZ.out (Nat.le_refl _) (by omega) (by omega))
  have LR1 := Lib.hid (kp.hasBlk LRr.out (by omega) (by omega) (by omega))
  have LG0_1 := Lib.hid (show Blk w1 w.heap.size 29 _ from d0)
  have LG1_1 := Lib.hid (show Blk w1 (w.heap.size + 1) 29 _ from d1)
  have LG2_1 := Lib.hid (show Blk w1 (w.heap.size + 2) 29 _ from d2)
  clear d0 d1 d2 kp LBr LRr HSZ HRD
  have q0_0 : _ = some (.float .f64 P1 : Value) := LG0_1.out.cell 0
  have q0_1 : _ = some (.float .f64 Q1 : Value) := LG0_1.out.cell 1
  have q1_0 : _ = some (.float .f64 P2 : Value) := LG1_1.out.cell 0
  have q1_1 : _ = some (.float .f64 Q2 : Value) := LG1_1.out.cell 1
  have HP := Lib.hid inf_pos
  have hge3 : (FloatKind.f64.format.order Q2 P1 == some Ordering.gt || FloatKind.f64.format.order Q2 P1 == some Ordering.eq) = true := by
    rw [o2]; rcases hge2 with e | e <;> rw [e] <;> rfl
  have hf1 := LG1_1.out.frozen 1
  rcases hge2 with e | e <;> rw [e] at o2 <;> clear e
  all_goals
    go_wp2_with fail
    refine (HP.out _).mono ?_
    rintro e w2 ⟨rfl, rfl⟩
    go_upto_region 5 with fail
    clear hf1 q0_0 q0_1 q1_0 q1_1
    have LB2 := Lib.hid (below_sets (w0 := w) (show w.heap.size ≤ (w.heap.size + 1) by omega) [.float .f64 9218868437227405312] 1 w1 LB1.out)
    have LR2 := Lib.hid (LR1.out.other (r := (w.heap.size + 1)) (by omega) 1 [.float .f64 9218868437227405312])
    have LG0_2 := Lib.hid (LG0_1.out.other (r := (w.heap.size + 1)) (by omega) 1 [.float .f64 9218868437227405312])
    have LG1_2 := Lib.hid (show Blk (sets w1 (w.heap.size + 1) 1 [.float .f64 9218868437227405312]) (w.heap.size + 1) 29 #[.float .f64 P2, .float .f64 9218868437227405312] from by have hbs := Blk.sets [.float .f64 9218868437227405312] 1 w1 _ LG1_1.out; simpa [laid] using hbs)
    have LG2_2 := Lib.hid (LG2_1.out.other (r := (w.heap.size + 1)) (by omega) 1 [.float .f64 9218868437227405312])
    clear LB1 LR1 LG0_1 LG1_1 LG2_1
    obtain ⟨V1, hV1⟩ : ∃ X, (sets w1 (w.heap.size + 1) 1 [.float .f64 9218868437227405312]) = X := ⟨_, rfl⟩
    rw [hV1] at LB2 LR2 LG0_2 LG1_2 LG2_2
    rw [show (w1.setCell ⟨(w.heap.size + 1), 1, none⟩ (.float .f64 9218868437227405312)) = V1 from hV1]
    clear hV1
    have q1_0 : _ = some (.float .f64 P2 : Value) := LG1_2.out.cell 0
    have q1_1 : _ = some (.float .f64 9218868437227405312 : Value) := LG1_2.out.cell 1
    have q2_0 : _ = some (.float .f64 P3 : Value) := LG2_2.out.cell 0
    have q2_1 : _ = some (.float .f64 Q3 : Value) := LG2_2.out.cell 1
    go_wp2_with fail
    refine (HI.out _).mono ?_
    rintro e w3 ⟨rfl, hbx⟩
    have LB3 := Lib.hid (LB2.out.trans (hbx.mono LB2.out.size))
    have LR3 := Lib.hid (LR2.out.keep hbx)
    have LG0_3 := Lib.hid (LG0_2.out.keep hbx)
    have LG1_3 := Lib.hid (LG1_2.out.keep hbx)
    have LG2_3 := Lib.hid (LG2_2.out.keep hbx)
    clear LB2 LR2 LG0_2 LG1_2 LG2_2
    clear hbx q1_0 q1_1 q2_0 q2_1
    have ha0 := LR3.out.someCell 0 (by decide)
    have hf0 := LR3.out.frozen 0
    have ha1 := LR3.out.someCell 1 (by decide)
    have hf1 := LR3.out.frozen 1
    have hk0 := LR3.out.setCell [.float .f64 z1, .float .f64 z2] rfl 0 (by decide)
    have hk1 := LR3.out.setCell [.float .f64 z1, .float .f64 z2] rfl 1 (by decide)
    have F := Lib.hid (below_sets (w0 := w) (r := (w.heap.size + 3)) (by omega) [.float .f64 z1, .float .f64 z2] 0 _ LB3.out)
    simp [sets] at hk0 hk1
    go_wp2
    refine bodyPost_ret (v := .agg #[.float .f64 z1, .float .f64 z2]) (by simp [results, Try.results6, go_sem, hk0, hk1]) rfl ?_
    exact ⟨rfl, F.out⟩

set_option maxHeartbeats 6400000 in
theorem revmin_lt (b1 b2 c1 c2 x y : Nat) (i1 j1 i2 j2 i3 j3 : Int) (w : World) (hb1 : b1 < 18446744073709551616) (hb2 : b2 < 18446744073709551616) (hc1 : c1 < 18446744073709551616) (hc2 : c2 < 18446744073709551616) (hx : x < 18446744073709551616) (hy : y < 18446744073709551616) (r1 : rd b1 b2 = (i1, j1)) (r2 : rd c1 c2 = (i2, j2)) (r3 : rd x y = (i3, j3)) (hno : ¬ (j1 < i1 ∨ j2 < i2 ∨ j3 < i3)) (hgt : ¬ j1 < i2) (hge : ¬ i1 ≤ j2) :
    Calls Try.prog 6 #[.agg #[.float .f64 b1, .float .f64 b2], .agg #[.float .f64 c1, .float .f64 c2], .agg #[.float .f64 x, .float .f64 y]] w fun e w' => e = .returned (.agg #[.float .f64 (pat (it i2 j2 i3 j3).1), .float .f64 (pat (it i2 j2 i3 j3).2)]) ∧ Below w.heap.size w w' := by
  have v1 := rd_iv b1 b2
  have v2 := rd_iv c1 c2
  have v3 := rd_iv x y
  rw [r1] at v1
  rw [r2] at v2
  rw [r3] at v3
  dsimp only at v1 v2 v3
  have hM : M = 9218868437227405312 := rfl
  have t1 := fun W => readf b1 b2 W hb1 hb2
  have t2 := fun W => readf c1 c2 W hc1 hc2
  have t3 := fun W => readf x y W hx hy
  rw [r1] at t1
  rw [r2] at t2
  rw [r3] at t3
  dsimp only at t1 t2 t3
  have m1 := em_idx v1
  have m2 := em_idx v2
  have m3 := em_idx v3
  have o1 := order_pat v2.lo.1 v2.lo.2 v1.hi.1 v1.hi.2
  have o2 := order_pat v2.hi.1 v2.hi.2 v1.lo.1 v1.lo.2
  have hnn : (decide (j1 < i1) || decide (j2 < i2) || decide (j3 < i3)) = false := by simp; omega
  have w2 : Iv i2 j2 := by unfold Iv at *; omega
  have HI := Lib.hid fun W => inter_idx i2 j2 i3 j3 W w2 v3
  have ho1 : (FloatKind.f64.format.order (pat i2) (pat j1) == some Ordering.gt) = false := by
    rw [o1]
    rcases Int.lt_trichotomy i2 j1 with h | h | h
    · rw [show compare i2 j1 = .lt from Int.compare_eq_lt.2 h]; rfl
    · rw [show compare i2 j1 = .eq from Int.compare_eq_eq.2 h]; rfl
    · exact absurd h hgt
  clear o1
  rw [show compare j2 i1 = .lt from Int.compare_eq_lt.2 (by omega)] at o2
  obtain ⟨z1, hz1⟩ : ∃ z, pat (it i2 j2 i3 j3).1 = z := ⟨_, rfl⟩
  obtain ⟨z2, hz2⟩ : ∃ z, pat (it i2 j2 i3 j3).2 = z := ⟨_, rfl⟩
  rw [hz1, hz2] at HI ⊢
  clear hz1 hz2
  obtain ⟨P1, hP1⟩ : ∃ z, pat i1 = z := ⟨_, rfl⟩
  obtain ⟨Q1, hQ1⟩ : ∃ z, pat j1 = z := ⟨_, rfl⟩
  obtain ⟨P2, hP2⟩ : ∃ z, pat i2 = z := ⟨_, rfl⟩
  obtain ⟨Q2, hQ2⟩ : ∃ z, pat j2 = z := ⟨_, rfl⟩
  obtain ⟨P3, hP3⟩ : ∃ z, pat i3 = z := ⟨_, rfl⟩
  obtain ⟨Q3, hQ3⟩ : ∃ z, pat j3 = z := ⟨_, rfl⟩
  rw [hP1, hQ1] at t1 m1
  rw [hP2, hQ2] at t2 m2
  rw [hP3, hQ3] at t3 m3
  rw [hP2, hQ1] at ho1
  rw [hQ2, hP1] at o2
  rw [hP2, hQ2, hP3, hQ3] at HI
  have LB0 := Lib.hid (show Below w.heap.size w ((((w.alloc (.cells #[.float .f64 b1, .float .f64 b2] 29)).alloc (.cells #[.float .f64 c1, .float .f64 c2] 29)).alloc (.cells #[.float .f64 x, .float .f64 y] 29)).alloc (.cells #[.float .f64 0, .float .f64 0] 29)) from ((((below_alloc w _).alloc (by simp <;> omega) _).alloc (by simp <;> omega) _).alloc (by simp <;> omega) _))
  have LG0_0 := Lib.hid (((((Blk.at (W := w) (g := w.heap.size) (by simp <;> omega) 29 #[.float .f64 b1, .float .f64 b2]).alloc (.cells #[.float .f64 c1, .float .f64 c2] 29)).alloc (.cells #[.float .f64 x, .float .f64 y] 29)).alloc (.cells #[.float .f64 0, .float .f64 0] 29)))
  have LG1_0 := Lib.hid ((((Blk.at (W := (w.alloc (.cells #[.float .f64 b1, .float .f64 b2] 29))) (g := (w.heap.size + 1)) (by simp <;> omega) 29 #[.float .f64 c1, .float .f64 c2]).alloc (.cells #[.float .f64 x, .float .f64 y] 29)).alloc (.cells #[.float .f64 0, .float .f64 0] 29)))
  have LG2_0 := Lib.hid (((Blk.at (W := ((w.alloc (.cells #[.float .f64 b1, .float .f64 b2] 29)).alloc (.cells #[.float .f64 c1, .float .f64 c2] 29))) (g := (w.heap.size + 2)) (by simp <;> omega) 29 #[.float .f64 x, .float .f64 y]).alloc (.cells #[.float .f64 0, .float .f64 0] 29)))
  have LR0 := Lib.hid (HasBlk.of (n := 2) (Blk.at (W := (((w.alloc (.cells #[.float .f64 b1, .float .f64 b2] 29)).alloc (.cells #[.float .f64 c1, .float .f64 c2] 29)).alloc (.cells #[.float .f64 x, .float .f64 y] 29))) (g := (w.heap.size + 3)) (by simp <;> omega) 29 #[.float .f64 0, .float .f64 0]) rfl rfl)
  have hrow := Blk.at (W := ((((w.alloc (.cells #[.float .f64 b1, .float .f64 b2] 29)).alloc (.cells #[.float .f64 c1, .float .f64 c2] 29)).alloc (.cells #[.float .f64 x, .float .f64 y] 29)).alloc (.cells #[.float .f64 0, .float .f64 0] 29))) (g := w.heap.size + 1 + 1 + 1 + 1) (by simp) 38 #[.pointer (some ⟨w.heap.size, 0, none⟩), .pointer (some ⟨w.heap.size + 1, 0, none⟩), .pointer (some ⟨w.heap.size + 1 + 1, 0, none⟩)]
  have HRD := Lib.hid (read_three b1 b2 c1 c2 x y P1 Q1 P2 Q2 P3 Q3 w.heap.size (w.heap.size + 1) (w.heap.size + 1 + 1) (w.heap.size + 1 + 1 + 1 + 1) 3 _ _ _ _ (by omega) (by omega) (by omega) (by omega) (by omega) (by omega) (hrow.cell 0) (hrow.cell 1) (hrow.cell 2) (LG0_0.out.alloc (.cells #[.pointer (some ⟨w.heap.size, 0, none⟩), .pointer (some ⟨w.heap.size + 1, 0, none⟩), .pointer (some ⟨w.heap.size + 1 + 1, 0, none⟩)] 38)) (LG1_0.out.alloc (.cells #[.pointer (some ⟨w.heap.size, 0, none⟩), .pointer (some ⟨w.heap.size + 1, 0, none⟩), .pointer (some ⟨w.heap.size + 1 + 1, 0, none⟩)] 38)) (LG2_0.out.alloc (.cells #[.pointer (some ⟨w.heap.size, 0, none⟩), .pointer (some ⟨w.heap.size + 1, 0, none⟩), .pointer (some ⟨w.heap.size + 1 + 1, 0, none⟩)] 38)) t1 t2 t3 m1 m2 m3)
  rw [hnn] at HRD
  have LBr := Lib.hid (LB0.out.alloc (by simp <;> omega) (.cells #[.pointer (some ⟨w.heap.size, 0, none⟩), .pointer (some ⟨w.heap.size + 1, 0, none⟩), .pointer (some ⟨w.heap.size + 1 + 1, 0, none⟩)] 38))
  have LRr := Lib.hid (LR0.out.alloc (.cells #[.pointer (some ⟨w.heap.size, 0, none⟩), .pointer (some ⟨w.heap.size + 1, 0, none⟩), .pointer (some ⟨w.heap.size + 1 + 1, 0, none⟩)] 38))
  have hsz : w.heap.size ≤ ((((((w.alloc (.cells #[.float .f64 b1, .float .f64 b2] 29)).alloc (.cells #[.float .f64 c1, .float .f64 c2] 29)).alloc (.cells #[.float .f64 x, .float .f64 y] 29)).alloc (.cells #[.float .f64 0, .float .f64 0] 29))).alloc (.cells #[.pointer (some ⟨w.heap.size, 0, none⟩), .pointer (some ⟨w.heap.size + 1, 0, none⟩), .pointer (some ⟨w.heap.size + 1 + 1, 0, none⟩)] 38)).heap.size := by simp; omega
  have HSZ := Lib.hid hsz
  clear t1 t2 t3 m1 m2 m3 hrow hnn hno v1 v2 v3 hM hsz hP1 hQ1 hP2 hQ2 hP3 hQ3 r1 r2 r3 LB0 LR0 LG0_0 LG1_0 LG2_0 hgt hge
  go_enter Try.func6, Try.ntmps6
  go_wp2_with fail
  refine HRD.out.mono ?_
  rintro e w1 ⟨rfl, d0, d1, d2, kp⟩
  have LB1 := Lib.hid (kp.toBelow LBr.out HSZ.out (Nat.le_refl _) (by omega) (by omega))
  have LR1 := Lib.hid (kp.hasBlk LRr.out (by omega) (by omega) (by omega))
  have LG0_1 := Lib.hid (show Blk w1 w.heap.size 29 _ from d0)
  have LG1_1 := Lib.hid (show Blk w1 (w.heap.size + 1) 29 _ from d1)
  have LG2_1 := Lib.hid (show Blk w1 (w.heap.size + 2) 29 _ from d2)
  clear d0 d1 d2 kp LBr LRr HSZ HRD
  have q0_0 : _ = some (.float .f64 P1 : Value) := LG0_1.out.cell 0
  have q0_1 : _ = some (.float .f64 Q1 : Value) := LG0_1.out.cell 1
  have q1_0 : _ = some (.float .f64 P2 : Value) := LG1_1.out.cell 0
  have q1_1 : _ = some (.float .f64 Q2 : Value) := LG1_1.out.cell 1
  have q2_0 : _ = some (.float .f64 P3 : Value) := LG2_1.out.cell 0
  have q2_1 : _ = some (.float .f64 Q3 : Value) := LG2_1.out.cell 1
  go_wp2_with fail
  refine (HI.out _).mono ?_
  rintro e w3 ⟨rfl, hbx⟩
  have LB2 := Lib.hid (LB1.out.trans (hbx.mono LB1.out.size))
  have LR2 := Lib.hid (LR1.out.keep hbx)
  have LG0_2 := Lib.hid (LG0_1.out.keep hbx)
  have LG1_2 := Lib.hid (LG1_1.out.keep hbx)
  have LG2_2 := Lib.hid (LG2_1.out.keep hbx)
  clear LB1 LR1 LG0_1 LG1_1 LG2_1
  clear hbx q0_0 q0_1 q1_0 q1_1 q2_0 q2_1
  have ha0 := LR2.out.someCell 0 (by decide)
  have hf0 := LR2.out.frozen 0
  have ha1 := LR2.out.someCell 1 (by decide)
  have hf1 := LR2.out.frozen 1
  have hk0 := LR2.out.setCell [.float .f64 z1, .float .f64 z2] rfl 0 (by decide)
  have hk1 := LR2.out.setCell [.float .f64 z1, .float .f64 z2] rfl 1 (by decide)
  have F := Lib.hid (below_sets (w0 := w) (r := (w.heap.size + 3)) (by omega) [.float .f64 z1, .float .f64 z2] 0 _ LB2.out)
  simp [sets] at hk0 hk1
  go_wp2
  refine bodyPost_ret (v := .agg #[.float .f64 z1, .float .f64 z2]) (by simp [results, Try.results6, go_sem, hk0, hk1]) rfl ?_
  exact ⟨rfl, F.out⟩

theorem revmin_any (b1 b2 c1 c2 x y : Nat) (w : World) (hb1 : b1 < 18446744073709551616) (hb2 : b2 < 18446744073709551616) (hc1 : c1 < 18446744073709551616) (hc2 : c2 < 18446744073709551616) (hx : x < 18446744073709551616) (hy : y < 18446744073709551616) :
    Calls Try.prog 6 #[.agg #[.float .f64 b1, .float .f64 b2], .agg #[.float .f64 c1, .float .f64 c2], .agg #[.float .f64 x, .float .f64 y]] w fun e w' => e = .returned (.agg #[.float .f64 (pat (rmr (rd b1 b2).1 (rd b1 b2).2 (rd c1 c2).1 (rd c1 c2).2 (rd x y).1 (rd x y).2).1), .float .f64 (pat (rmr (rd b1 b2).1 (rd b1 b2).2 (rd c1 c2).1 (rd c1 c2).2 (rd x y).1 (rd x y).2).2)]) ∧ Below w.heap.size w w' := by
  obtain ⟨i1, hi1⟩ : ∃ z, (rd b1 b2).1 = z := ⟨_, rfl⟩
  obtain ⟨j1, hj1⟩ : ∃ z, (rd b1 b2).2 = z := ⟨_, rfl⟩
  obtain ⟨i2, hi2⟩ : ∃ z, (rd c1 c2).1 = z := ⟨_, rfl⟩
  obtain ⟨j2, hj2⟩ : ∃ z, (rd c1 c2).2 = z := ⟨_, rfl⟩
  obtain ⟨i3, hi3⟩ : ∃ z, (rd x y).1 = z := ⟨_, rfl⟩
  obtain ⟨j3, hj3⟩ : ∃ z, (rd x y).2 = z := ⟨_, rfl⟩
  have r1 : rd b1 b2 = (i1, j1) := by rw [← hi1, ← hj1]
  have r2 : rd c1 c2 = (i2, j2) := by rw [← hi2, ← hj2]
  have r3 : rd x y = (i3, j3) := by rw [← hi3, ← hj3]
  rw [hi1, hj1, hi2, hj2, hi3, hj3]
  unfold rmr
  by_cases hno : j1 < i1 ∨ j2 < i2 ∨ j3 < i3
  · rw [if_pos (by omega)]
    exact revmin_none b1 b2 c1 c2 x y i1 j1 i2 j2 i3 j3 w hb1 hb2 hc1 hc2 hx hy r1 r2 r3 hno
  · by_cases hgt : j1 < i2
    · rw [if_pos (by omega)]
      exact revmin_gt b1 b2 c1 c2 x y i1 j1 i2 j2 i3 j3 w hb1 hb2 hc1 hc2 hx hy r1 r2 r3 hno hgt
    · rw [if_neg (by omega)]
      by_cases hge : i1 ≤ j2
      · rw [if_pos hge]
        exact revmin_ge b1 b2 c1 c2 x y i1 j1 i2 j2 i3 j3 w hb1 hb2 hc1 hc2 hx hy r1 r2 r3 hno hgt hge
      · rw [if_neg hge]
        exact revmin_lt b1 b2 c1 c2 x y i1 j1 i2 j2 i3 j3 w hb1 hb2 hc1 hc2 hx hy r1 r2 r3 hno hgt hge
/-- What the program makes of MaxRev. -/
def rmx (b c x : Int × Int) : Int × Int := (-(rmr (-b.2) (-b.1) (-c.2) (-c.1) (-x.2) (-x.1)).2, -(rmr (-b.2) (-b.1) (-c.2) (-c.1) (-x.2) (-x.1)).1)
theorem Iv.negf {i j : Int} (h : Iv i j) : Iv (-j) (-i) := by
  unfold Iv at *
  rw [M_val] at *
  omega
theorem rmr_iv {i1 j1 i2 j2 i3 j3 : Int} (h1 : Iv i1 j1) (h2 : Iv i2 j2) (h3 : Iv i3 j3) : Iv (rmr i1 j1 i2 j2 i3 j3).1 (rmr i1 j1 i2 j2 i3 j3).2 := by
  unfold rmr
  split
  · exact Iv.none
  · rename_i h
    have hM : M = 9218868437227405312 := rfl
    refine it_iv ?_ h3
    unfold Iv at *
    split <;> omega
theorem revmin_idx (i1 i2 i3 i4 i5 i6 : Int) (w : World) (hb : Iv i1 i2) (hc : Iv i3 i4) (hx : Iv i5 i6) :
    Calls Try.prog 6 #[.agg #[.float .f64 (pat i1), .float .f64 (pat i2)], .agg #[.float .f64 (pat i3), .float .f64 (pat i4)], .agg #[.float .f64 (pat i5), .float .f64 (pat i6)]] w
      fun e w' => e = .returned (.agg #[.float .f64 (pat (rmr i1 i2 i3 i4 i5 i6).1), .float .f64 (pat (rmr i1 i2 i3 i4 i5 i6).2)]) ∧ Below w.heap.size w w' := by
  have h := revmin_any (pat i1) (pat i2) (pat i3) (pat i4) (pat i5) (pat i6) w (pat_lt hb.lo.1 hb.lo.2) (pat_lt hb.hi.1 hb.hi.2) (pat_lt hc.lo.1 hc.lo.2) (pat_lt hc.hi.1 hc.hi.2) (pat_lt hx.lo.1 hx.lo.2) (pat_lt hx.hi.1 hx.hi.2)
  rw [rd_pat hb, rd_pat hc, rd_pat hx] at h
  exact h
theorem mirror_idx (i j : Int) (w : World) (h : Iv i j) :
    Calls Try.prog 23 #[.agg #[.float .f64 (pat i), .float .f64 (pat j)]] w fun e w' => e = .returned (.agg #[.float .f64 (pat (-j)), .float .f64 (pat (-i))]) ∧ Below w.heap.size w w' := by
  have h2 := mirrorf (pat i) (pat j) w (pat_lt h.lo.1 h.lo.2) (pat_lt h.hi.1 h.hi.2)
  rw [rd_pat h] at h2
  exact h2
set_option maxHeartbeats 6400000 in
theorem revmax_any (b1 b2 c1 c2 x y : Nat) (w : World) (hb1 : b1 < 18446744073709551616) (hb2 : b2 < 18446744073709551616) (hc1 : c1 < 18446744073709551616) (hc2 : c2 < 18446744073709551616) (hx : x < 18446744073709551616) (hy : y < 18446744073709551616) :
    Calls Try.prog 8 #[.agg #[.float .f64 b1, .float .f64 b2], .agg #[.float .f64 c1, .float .f64 c2], .agg #[.float .f64 x, .float .f64 y]] w fun e w' => e = .returned (.agg #[.float .f64 (pat (rmx (rd b1 b2) (rd c1 c2) (rd x y)).1), .float .f64 (pat (rmx (rd b1 b2) (rd c1 c2) (rd x y)).2)]) ∧ Below w.heap.size w w' := by
  have HN1 := Lib.hid fun W => mirrorf b1 b2 W hb1 hb2
  have HN2 := Lib.hid fun W => mirrorf c1 c2 W hc1 hc2
  have HN3 := Lib.hid fun W => mirrorf x y W hx hy
  have v1 := (rd_iv b1 b2).negf
  have v2 := (rd_iv c1 c2).negf
  have v3 := (rd_iv x y).negf
  have vm := rmr_iv v1 v2 v3
  have HM := Lib.hid fun W => revmin_idx _ _ _ _ _ _ W v1 v2 v3
  have HN4 := Lib.hid fun W => mirror_idx _ _ W vm
  unfold rmx
  obtain ⟨z1, hz1⟩ : ∃ z, (rmr (-(rd b1 b2).2) (-(rd b1 b2).1) (-(rd c1 c2).2) (-(rd c1 c2).1) (-(rd x y).2) (-(rd x y).1)).1 = z := ⟨_, rfl⟩
  obtain ⟨z2, hz2⟩ : ∃ z, (rmr (-(rd b1 b2).2) (-(rd b1 b2).1) (-(rd c1 c2).2) (-(rd c1 c2).1) (-(rd x y).2) (-(rd x y).1)).2 = z := ⟨_, rfl⟩
  rw [hz1, hz2] at HM HN4 ⊢
  obtain ⟨p1, e1⟩ : ∃ z, pat (-(rd b1 b2).2) = z := ⟨_, rfl⟩
  obtain ⟨p2, e2⟩ : ∃ z, pat (-(rd b1 b2).1) = z := ⟨_, rfl⟩
  obtain ⟨p3, e3⟩ : ∃ z, pat (-(rd c1 c2).2) = z := ⟨_, rfl⟩
  obtain ⟨p4, e4⟩ : ∃ z, pat (-(rd c1 c2).1) = z := ⟨_, rfl⟩
  obtain ⟨p5, e5⟩ : ∃ z, pat (-(rd x y).2) = z := ⟨_, rfl⟩
  obtain ⟨p6, e6⟩ : ∃ z, pat (-(rd x y).1) = z := ⟨_, rfl⟩
  obtain ⟨p7, e7⟩ : ∃ z, pat z1 = z := ⟨_, rfl⟩
  obtain ⟨p8, e8⟩ : ∃ z, pat z2 = z := ⟨_, rfl⟩
  obtain ⟨q1, f1⟩ : ∃ z, pat (-z2) = z := ⟨_, rfl⟩
  obtain ⟨q2, f2⟩ : ∃ z, pat (-z1) = z := ⟨_, rfl⟩
  rw [e1, e2] at HN1
  rw [e3, e4] at HN2
  rw [e5, e6] at HN3
  rw [e1, e2, e3, e4, e5, e6, e7, e8] at HM
  rw [e7, e8, f1, f2] at HN4
  dsimp only
  rw [f1, f2]
  clear v1 v2 v3 vm hz1 hz2 e1 e2 e3 e4 e5 e6 e7 e8 f1 f2
  have LB0 := Lib.hid (show Below w.heap.size w ((((w.alloc (.cells #[.float .f64 b1, .float .f64 b2] 29)).alloc (.cells #[.float .f64 c1, .float .f64 c2] 29)).alloc (.cells #[.float .f64 x, .float .f64 y] 29)).alloc (.cells #[.float .f64 0, .float .f64 0] 29)) from ((((below_alloc w _).alloc (by simp <;> omega) _).alloc (by simp <;> omega) _).alloc (by simp <;> omega) _))
  have LG0_0 := Lib.hid (((((Blk.at (W := w) (g := w.heap.size) (by simp <;> omega) 29 #[.float .f64 b1, .float .f64 b2]).alloc (.cells #[.float .f64 c1, .float .f64 c2] 29)).alloc (.cells #[.float .f64 x, .float .f64 y] 29)).alloc (.cells #[.float .f64 0, .float .f64 0] 29)))
  have LG1_0 := Lib.hid ((((Blk.at (W := (w.alloc (.cells #[.float .f64 b1, .float .f64 b2] 29))) (g := (w.heap.size + 1)) (by simp <;> omega) 29 #[.float .f64 c1, .float .f64 c2]).alloc (.cells #[.float .f64 x, .float .f64 y] 29)).alloc (.cells #[.float .f64 0, .float .f64 0] 29)))
  have LG2_0 := Lib.hid (((Blk.at (W := ((w.alloc (.cells #[.float .f64 b1, .float .f64 b2] 29)).alloc (.cells #[.float .f64 c1, .float .f64 c2] 29))) (g := (w.heap.size + 2)) (by simp <;> omega) 29 #[.float .f64 x, .float .f64 y]).alloc (.cells #[.float .f64 0, .float .f64 0] 29)))
  have LR0 := Lib.hid (HasBlk.of (n := 2) (Blk.at (W := (((w.alloc (.cells #[.float .f64 b1, .float .f64 b2] 29)).alloc (.cells #[.float .f64 c1, .float .f64 c2] 29)).alloc (.cells #[.float .f64 x, .float .f64 y] 29))) (g := (w.heap.size + 3)) (by simp <;> omega) 29 #[.float .f64 0, .float .f64 0]) rfl rfl)
  go_enter Try.func8, Try.ntmps8
  go_wp2_with fail
  refine wp_region_held_drew (S := fun W' => Blk W' w.heap.size 29 #[.float .f64 b1, .float .f64 b2] ∧ Blk W' (w.heap.size + 1) 29 #[.float .f64 c1, .float .f64 c2] ∧ Blk W' (w.heap.size + 2) 29 #[.float .f64 x, .float .f64 y] ∧ HasBlk W' (w.heap.size + 3) 29 2 ∧ Below w.heap.size w W') (by kernel_rfl) (by exact ⟨LG0_0.out.drew, LG1_0.out.drew, LG2_0.out.drew, LR0.out.drew, LB0.out.drew⟩) (fun hHeld => ?_)
  refine wpAnyH_take (i := 0) (v := ?_) rfl (by kernel_rfl) (by kernel_rfl) (by kernel_rfl) (fun _ _ _ h => h) (Or.inl ⟨by rfl, ?_⟩) (by assumption) ?_
  rotate_left
  · (intro W2 hSw; (try dsimp only at hSw); have q0 : _ = some (.float .f64 b1 : Value) := hSw.1.cell 0; have q1 : _ = some (.float .f64 b2 : Value) := hSw.1.cell 1; go_simp; (try with_reducible rfl))
  try simp only [Act.put, List.getElem_toArray, List.getElem_cons_succ, List.getElem_cons_zero, List.setIfInBounds_toArray, List.set_cons_zero, List.set_cons_succ]
  refine wpAnyH_take (i := 2) (v := ?_) rfl (by kernel_rfl) (by kernel_rfl) (by kernel_rfl) (fun _ _ _ h => h) (Or.inl ⟨by rfl, ?_⟩) (by assumption) ?_
  rotate_left
  · (intro W2 hSw; (try dsimp only at hSw); have q0 : _ = some (.float .f64 c1 : Value) := hSw.2.1.cell 0; have q1 : _ = some (.float .f64 c2 : Value) := hSw.2.1.cell 1; go_simp; (try with_reducible rfl))
  try simp only [Act.put, List.getElem_toArray, List.getElem_cons_succ, List.getElem_cons_zero, List.setIfInBounds_toArray, List.set_cons_zero, List.set_cons_succ]
  refine wpAnyH_take (i := 4) (v := ?_) rfl (by kernel_rfl) (by kernel_rfl) (by kernel_rfl) (fun _ _ _ h => h) (Or.inl ⟨by rfl, ?_⟩) (by assumption) ?_
  rotate_left
  · (intro W2 hSw; (try dsimp only at hSw); have q0 : _ = some (.float .f64 x : Value) := hSw.2.2.1.cell 0; have q1 : _ = some (.float .f64 y : Value) := hSw.2.2.1.cell 1; go_simp; (try with_reducible rfl))
  try simp only [Act.put, List.getElem_toArray, List.getElem_cons_succ, List.getElem_cons_zero, List.setIfInBounds_toArray, List.set_cons_zero, List.set_cons_succ]
  refine wpAnyH_ready (rs := [1]) (by kernel_rfl) (by simp) ?_
  refine AllReadyH.cons rfl (fun KK hKK => ?_) AllReadyH.nil
  go_simp
  refine (HN1.out _).mono ?_
  rintro e w1 ⟨rfl, hbA⟩
  go_wp2_with fail
  refine hKK.out _ _ (⟨hHeld.1.keep hbA, hHeld.2.1.keep hbA, hHeld.2.2.1.keep hbA, hHeld.2.2.2.1.keep hbA, hHeld.2.2.2.2.trans (hbA.mono hHeld.2.2.2.2.size)⟩) (fun _ => ?_)
  clear hKK KK hHeld; rename_i hHeld
  try simp only [Act.put, List.getElem_toArray, List.getElem_cons_succ, List.getElem_cons_zero, List.setIfInBounds_toArray, List.set_cons_zero, List.set_cons_succ]
  refine wpAnyH_ready (rs := [3]) (by kernel_rfl) (by simp) ?_
  refine AllReadyH.cons rfl (fun KK hKK => ?_) AllReadyH.nil
  go_simp
  refine (HN2.out _).mono ?_
  rintro e w2 ⟨rfl, hbB⟩
  go_wp2_with fail
  refine hKK.out _ _ (⟨hHeld.1.keep hbB, hHeld.2.1.keep hbB, hHeld.2.2.1.keep hbB, hHeld.2.2.2.1.keep hbB, hHeld.2.2.2.2.trans (hbB.mono hHeld.2.2.2.2.size)⟩) (fun _ => ?_)
  clear hKK KK hHeld; rename_i hHeld
  try simp only [Act.put, List.getElem_toArray, List.getElem_cons_succ, List.getElem_cons_zero, List.setIfInBounds_toArray, List.set_cons_zero, List.set_cons_succ]
  refine wpAnyH_ready (rs := [5]) (by kernel_rfl) (by simp) ?_
  refine AllReadyH.cons rfl (fun KK hKK => ?_) AllReadyH.nil
  go_simp
  refine (HN3.out _).mono ?_
  rintro e w3 ⟨rfl, hbC⟩
  go_wp2_with fail
  refine hKK.out _ _ (⟨hHeld.1.keep hbC, hHeld.2.1.keep hbC, hHeld.2.2.1.keep hbC, hHeld.2.2.2.1.keep hbC, hHeld.2.2.2.2.trans (hbC.mono hHeld.2.2.2.2.size)⟩) (fun _ => ?_)
  clear hKK KK hHeld; rename_i hHeld
  try simp only [Act.put, List.getElem_toArray, List.getElem_cons_succ, List.getElem_cons_zero, List.setIfInBounds_toArray, List.set_cons_zero, List.set_cons_succ]
  refine wpAnyH_ready (rs := [6]) (by kernel_rfl) (by simp) ?_
  refine AllReadyH.cons rfl (fun KK hKK => ?_) AllReadyH.nil
  go_simp
  refine (HM.out _).mono ?_
  rintro e w4 ⟨rfl, hbD⟩
  go_wp2_with fail
  refine hKK.out _ _ (⟨hHeld.1.keep hbD, hHeld.2.1.keep hbD, hHeld.2.2.1.keep hbD, hHeld.2.2.2.1.keep hbD, hHeld.2.2.2.2.trans (hbD.mono hHeld.2.2.2.2.size)⟩) (fun _ => ?_)
  clear hKK KK hHeld; rename_i hHeld
  try simp only [Act.put, List.getElem_toArray, List.getElem_cons_succ, List.getElem_cons_zero, List.setIfInBounds_toArray, List.set_cons_zero, List.set_cons_succ]
  refine wpAnyH_ready (rs := [7]) (by kernel_rfl) (by simp) ?_
  refine AllReadyH.cons rfl (fun KK hKK => ?_) AllReadyH.nil
  go_simp
  refine (HN4.out _).mono ?_
  rintro e w5 ⟨rfl, hbE⟩
  go_wp2_with fail
  refine hKK.out _ _ (⟨hHeld.1.keep hbE, hHeld.2.1.keep hbE, hHeld.2.2.1.keep hbE, hHeld.2.2.2.1.keep hbE, hHeld.2.2.2.2.trans (hbE.mono hHeld.2.2.2.2.size)⟩) (fun _ => ?_)
  clear hKK KK hHeld; rename_i hHeld
  try simp only [Act.put, List.getElem_toArray, List.getElem_cons_succ, List.getElem_cons_zero, List.setIfInBounds_toArray, List.set_cons_zero, List.set_cons_succ]
  refine wpAnyH_ready (rs := [8]) (by kernel_rfl) (by simp) ?_
  refine AllReadyH.cons rfl (fun KK hKK => ?_) AllReadyH.nil
  have ha0 := hHeld.2.2.2.1.someCell 0 (by decide); have hf0 := hHeld.2.2.2.1.frozen 0; have ha1 := hHeld.2.2.2.1.someCell 1 (by decide); have hf1 := hHeld.2.2.2.1.frozen 1; have HK := Lib.hid (hHeld.2.2.2.1.setCell [.float .f64 q1, .float .f64 q2] rfl); have F := Lib.hid (below_sets (w0 := w) (r := (w.heap.size + 3)) (by omega) [.float .f64 q1, .float .f64 q2] 0 _ hHeld.2.2.2.2)
  go_simp
  refine hKK.out _ _ (⟨hHeld.1.other (by omega) 0 [.float .f64 q1, .float .f64 q2], hHeld.2.1.other (by omega) 0 [.float .f64 q1, .float .f64 q2], hHeld.2.2.1.other (by omega) 0 [.float .f64 q1, .float .f64 q2], hHeld.2.2.2.1.sets [.float .f64 q1, .float .f64 q2] rfl rfl, below_sets (by omega) [.float .f64 q1, .float .f64 q2] 0 _ hHeld.2.2.2.2⟩) (fun _ => ?_)
  clear hKK KK hHeld; rename_i hHeld
  try simp only [Act.put, List.getElem_toArray, List.getElem_cons_succ, List.getElem_cons_zero, List.setIfInBounds_toArray, List.set_cons_zero, List.set_cons_succ]
  refine wpAnyH_done (by kernel_rfl) ?_ _
  have hk0 := HK.out 0 (by decide)
  have hk1 := HK.out 1 (by decide)
  simp [sets] at hk0 hk1
  clear hHeld HK hbA hbB hbC hbD hbE
  clear LB0 LR0 LG0_0 LG1_0 LG2_0
  go_wp2
  refine bodyPost_ret (v := .agg #[.float .f64 q1, .float .f64 q2]) (by simp [results, Try.results8, go_sem, hk0, hk1]) rfl ?_
  exact ⟨rfl, F.out⟩

end Go.Proofs.Ythaojemejpbbgaa
