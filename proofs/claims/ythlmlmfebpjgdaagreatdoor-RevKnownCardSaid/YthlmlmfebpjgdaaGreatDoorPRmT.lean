/-
Walks: package rev, MinRev.
Plain: a product and a sum, rounded once: the quick road's answer.
-/
import Derived.Test.YthlmlmfebpjgdaaGreatDoorM02
import Derived.Test.YthlmlmfebpjgdaaGreatDoorPIntsT
import Derived.Deep.DeepCutAuto
import Derived.Test.YthlmlmfebpjgdaaGreatDoorM26
set_option linter.unusedSimpArgs false
set_option linter.unusedVariables false
set_option maxHeartbeats 12800000

namespace Go.Proofs.YthlmlmfebpjgdaaGreatDoor
open Go.RowKit
attribute [local go_sem] run_store_float
theorem Kp.toBelow {g0 g1 g2 B : Nat} {w0 w w' : World} (h : Kp g0 g1 g2 w w') (hb : Below B w0 w) (hB : B ≤ w.heap.size) (h0 : B ≤ g0) (h1 : B ≤ g1) (h2 : B ≤ g2) : Below B w0 w' :=
  ⟨h.os.trans hb.os, h.tape.trans hb.tape, h.output.trans hb.output, Nat.le_trans hb.size h.size, fun k hk => (h.block k (by omega) (by omega) (by omega) (by omega)).trans (hb.block k hk)⟩
theorem Kp.hasBlk {g0 g1 g2 r n : Nat} {t : TypeId} {w w' : World} (h : Kp g0 g1 g2 w w') (hr : HasBlk w r t n) (h0 : r ≠ g0) (h1 : r ≠ g1) (h2 : r ≠ g2) : HasBlk w' r t n := by
  obtain ⟨cs, a, b⟩ := hr
  exact ⟨cs, (h.block r a.lt h0 h1 h2).trans a, b⟩
def rmr (i1 j1 i2 j2 i3 j3 : Int) : Int × Int := if j1 < i1 ∨ j2 < i2 ∨ j3 < i3 ∨ j1 < i2 then ((M : Int), -(M : Int)) else it i2 (if i1 ≤ j2 then (M : Int) else j2) i3 j3
theorem revmin_none (b1 b2 c1 c2 x y : Nat) (i1 j1 i2 j2 i3 j3 : Int) (w : World) (hb1 : b1 < 18446744073709551616) (hb2 : b2 < 18446744073709551616) (hc1 : c1 < 18446744073709551616) (hc2 : c2 < 18446744073709551616) (hx : x < 18446744073709551616) (hy : y < 18446744073709551616) (r1 : rd b1 b2 = (i1, j1)) (r2 : rd c1 c2 = (i2, j2)) (r3 : rd x y = (i3, j3)) (hno : j1 < i1 ∨ j2 < i2 ∨ j3 < i3) :
    Calls Tryz.prog 29 #[.agg #[.float .f64 b1, .float .f64 b2], .agg #[.float .f64 c1, .float .f64 c2], .agg #[.float .f64 x, .float .f64 y]] w fun e w' => e = .returned (.agg #[.float .f64 (pat (((M : Int), -(M : Int))).1), .float .f64 (pat (((M : Int), -(M : Int))).2)]) ∧ Below w.heap.size w w' := by
  have v1 := rd_iv b1 b2
  have v2 := rd_iv c1 c2
  have v3 := rd_iv x y
  rw [r1] at v1
  rw [r2] at v2
  rw [r3] at v3
  dsimp only at v1 v2 v3
  have hM : M = 9218868437227405312 := rfl
  have t1 := fun W => readf b1 b2 W hb1 hb2
  have t2 := fun W => readf c1 c2 W hc1 hc2
  have t3 := fun W => readf x y W hx hy
  rw [r1] at t1
  rw [r2] at t2
  rw [r3] at t3
  dsimp only at t1 t2 t3
  have m1 := em_idx v1
  have m2 := em_idx v2
  have m3 := em_idx v3
  have o1 := order_pat v2.lo.1 v2.lo.2 v1.hi.1 v1.hi.2
  have o2 := order_pat v2.hi.1 v2.hi.2 v1.lo.1 v1.lo.2
  have hnn : (decide (j1 < i1) || decide (j2 < i2) || decide (j3 < i3)) = true := by simp; omega
  rw [pat_max, pat_min]
  have HE := Lib.hid emptyf
  obtain ⟨P1, hP1⟩ : ∃ z, pat i1 = z := ⟨_, rfl⟩
  obtain ⟨Q1, hQ1⟩ : ∃ z, pat j1 = z := ⟨_, rfl⟩
  obtain ⟨P2, hP2⟩ : ∃ z, pat i2 = z := ⟨_, rfl⟩
  obtain ⟨Q2, hQ2⟩ : ∃ z, pat j2 = z := ⟨_, rfl⟩
  obtain ⟨P3, hP3⟩ : ∃ z, pat i3 = z := ⟨_, rfl⟩
  obtain ⟨Q3, hQ3⟩ : ∃ z, pat j3 = z := ⟨_, rfl⟩
  rw [hP1, hQ1] at t1 m1
  rw [hP2, hQ2] at t2 m2
  rw [hP3, hQ3] at t3 m3
  obtain ⟨LB0, LG0_0, LG1_0, LG2_0, LR⟩ := bx4 w #[.float .f64 b1, .float .f64 b2] 28 #[.float .f64 c1, .float .f64 c2] 28 #[.float .f64 x, .float .f64 y] 28 #[.float .f64 0, .float .f64 0] 28
  have LR0 := Lib.hid (HasBlk.of (n := 2) LR.out rfl rfl)
  clear LR
  have hrow := Blk.at (W := ((((w.alloc (.cells #[.float .f64 b1, .float .f64 b2] 28)).alloc (.cells #[.float .f64 c1, .float .f64 c2] 28)).alloc (.cells #[.float .f64 x, .float .f64 y] 28)).alloc (.cells #[.float .f64 0, .float .f64 0] 28))) (g := w.heap.size + 1 + 1 + 1 + 1) (by simp) 75 #[.pointer (some ⟨w.heap.size, 0, none⟩), .pointer (some ⟨w.heap.size + 1, 0, none⟩), .pointer (some ⟨w.heap.size + 1 + 1, 0, none⟩)]
  have HRD := Lib.hid (read_three b1 b2 c1 c2 x y P1 Q1 P2 Q2 P3 Q3 w.heap.size (w.heap.size + 1) (w.heap.size + 1 + 1) (w.heap.size + 1 + 1 + 1 + 1) 3 _ _ _ _ (by omega) (by omega) (by omega) (by omega) (by omega) (by omega) (hrow.cell 0) (hrow.cell 1) (hrow.cell 2) (LG0_0.out.alloc (.cells #[.pointer (some ⟨w.heap.size, 0, none⟩), .pointer (some ⟨w.heap.size + 1, 0, none⟩), .pointer (some ⟨w.heap.size + 1 + 1, 0, none⟩)] 75)) (LG1_0.out.alloc (.cells #[.pointer (some ⟨w.heap.size, 0, none⟩), .pointer (some ⟨w.heap.size + 1, 0, none⟩), .pointer (some ⟨w.heap.size + 1 + 1, 0, none⟩)] 75)) (LG2_0.out.alloc (.cells #[.pointer (some ⟨w.heap.size, 0, none⟩), .pointer (some ⟨w.heap.size + 1, 0, none⟩), .pointer (some ⟨w.heap.size + 1 + 1, 0, none⟩)] 75)) t1 t2 t3 m1 m2 m3)
  rw [hnn] at HRD
  have LBr := Lib.hid (LB0.out.alloc (by simp <;> omega) (.cells #[.pointer (some ⟨w.heap.size, 0, none⟩), .pointer (some ⟨w.heap.size + 1, 0, none⟩), .pointer (some ⟨w.heap.size + 1 + 1, 0, none⟩)] 75))
  have LRr := Lib.hid (LR0.out.alloc (.cells #[.pointer (some ⟨w.heap.size, 0, none⟩), .pointer (some ⟨w.heap.size + 1, 0, none⟩), .pointer (some ⟨w.heap.size + 1 + 1, 0, none⟩)] 75))
  have hsz : w.heap.size ≤ ((((((w.alloc (.cells #[.float .f64 b1, .float .f64 b2] 28)).alloc (.cells #[.float .f64 c1, .float .f64 c2] 28)).alloc (.cells #[.float .f64 x, .float .f64 y] 28)).alloc (.cells #[.float .f64 0, .float .f64 0] 28))).alloc (.cells #[.pointer (some ⟨w.heap.size, 0, none⟩), .pointer (some ⟨w.heap.size + 1, 0, none⟩), .pointer (some ⟨w.heap.size + 1 + 1, 0, none⟩)] 75)).heap.size := by simp; omega
  have HSZ := Lib.hid hsz
  clear t1 t2 t3 m1 m2 m3 hrow hnn hno v1 v2 v3 hM hsz hP1 hQ1 hP2 hQ2 hP3 hQ3 r1 r2 r3 LB0 LR0 LG0_0 LG1_0 LG2_0 o1 o2
  go_enter Tryz.func29, Tryz.ntmps29
  go_wp2_with fail
  refine HRD.out.mono ?_
  rintro e w1 ⟨rfl, d0, d1, d2, kp⟩
  have LB1 := Lib.hid (kp.toBelow LBr.out HSZ.out (Nat.le_refl _) (by omega) (by omega))
  have LR1 := Lib.hid (kp.hasBlk LRr.out (by omega) (by omega) (by omega))
  have LG0_1 := Lib.hid (show Blk w1 w.heap.size 28 _ from d0)
  have LG1_1 := Lib.hid (show Blk w1 (w.heap.size + 1) 28 _ from d1)
  have LG2_1 := Lib.hid (show Blk w1 (w.heap.size + 2) 28 _ from d2)
  clear d0 d1 d2 kp LBr LRr HSZ HRD
  obtain ⟨q0_0, q0_1⟩ := LG0_1.out.c2
  obtain ⟨q1_0, q1_1⟩ := LG1_1.out.c2
  go_wp2_with fail
  refine (HE.out _).mono ?_
  rintro e w2 ⟨rfl, hbx⟩
  have LB2 := stB LB1 hbx LB1.out.size
  have LR2 := stR LR1 hbx
  have LG0_2 := stG LG0_1 hbx
  have LG1_2 := stG LG1_1 hbx
  have LG2_2 := stG LG2_1 hbx
  clear LB1 LR1 LG0_1 LG1_1 LG2_1
  clear hbx q0_0 q0_1 q1_0 q1_1
  obtain ⟨ha0, hf0, ha1, hf1⟩ := LR2.out.sf2
  obtain ⟨hk0, hk1⟩ := LR2.out.sc2 (.float .f64 9218868437227405312) (.float .f64 18442240474082181120)
  have F := Lib.hid (below_sets (w0 := w) (r := (w.heap.size + 3)) (by omega) [.float .f64 9218868437227405312, .float .f64 18442240474082181120] 0 _ LB2.out)
  simp [sets] at hk0 hk1
  go_wp2
  refine bodyPost_ret (v := .agg #[.float .f64 9218868437227405312, .float .f64 18442240474082181120]) (by simp [results, Tryz.results29, go_sem, hk0, hk1]) rfl ?_
  exact ⟨rfl, F.out⟩
theorem revmin_gt (b1 b2 c1 c2 x y : Nat) (i1 j1 i2 j2 i3 j3 : Int) (w : World) (hb1 : b1 < 18446744073709551616) (hb2 : b2 < 18446744073709551616) (hc1 : c1 < 18446744073709551616) (hc2 : c2 < 18446744073709551616) (hx : x < 18446744073709551616) (hy : y < 18446744073709551616) (r1 : rd b1 b2 = (i1, j1)) (r2 : rd c1 c2 = (i2, j2)) (r3 : rd x y = (i3, j3)) (hno : ¬ (j1 < i1 ∨ j2 < i2 ∨ j3 < i3)) (hgt : j1 < i2) :
    Calls Tryz.prog 29 #[.agg #[.float .f64 b1, .float .f64 b2], .agg #[.float .f64 c1, .float .f64 c2], .agg #[.float .f64 x, .float .f64 y]] w fun e w' => e = .returned (.agg #[.float .f64 (pat (((M : Int), -(M : Int))).1), .float .f64 (pat (((M : Int), -(M : Int))).2)]) ∧ Below w.heap.size w w' := by
  have v1 := rd_iv b1 b2
  have v2 := rd_iv c1 c2
  have v3 := rd_iv x y
  rw [r1] at v1
  rw [r2] at v2
  rw [r3] at v3
  dsimp only at v1 v2 v3
  have hM : M = 9218868437227405312 := rfl
  have t1 := fun W => readf b1 b2 W hb1 hb2
  have t2 := fun W => readf c1 c2 W hc1 hc2
  have t3 := fun W => readf x y W hx hy
  rw [r1] at t1
  rw [r2] at t2
  rw [r3] at t3
  dsimp only at t1 t2 t3
  have m1 := em_idx v1
  have m2 := em_idx v2
  have m3 := em_idx v3
  have o1 := order_pat v2.lo.1 v2.lo.2 v1.hi.1 v1.hi.2
  have o2 := order_pat v2.hi.1 v2.hi.2 v1.lo.1 v1.lo.2
  have hnn : (decide (j1 < i1) || decide (j2 < i2) || decide (j3 < i3)) = false := by simp; omega
  rw [show compare i2 j1 = .gt from Int.compare_eq_gt.2 hgt] at o1
  rw [pat_max, pat_min]
  have HE := Lib.hid emptyf
  obtain ⟨P1, hP1⟩ : ∃ z, pat i1 = z := ⟨_, rfl⟩
  obtain ⟨Q1, hQ1⟩ : ∃ z, pat j1 = z := ⟨_, rfl⟩
  obtain ⟨P2, hP2⟩ : ∃ z, pat i2 = z := ⟨_, rfl⟩
  obtain ⟨Q2, hQ2⟩ : ∃ z, pat j2 = z := ⟨_, rfl⟩
  obtain ⟨P3, hP3⟩ : ∃ z, pat i3 = z := ⟨_, rfl⟩
  obtain ⟨Q3, hQ3⟩ : ∃ z, pat j3 = z := ⟨_, rfl⟩
  rw [hP1, hQ1] at t1 m1
  rw [hP2, hQ2] at t2 m2
  rw [hP3, hQ3] at t3 m3
  rw [hP2, hQ1] at o1
  obtain ⟨LB0, LG0_0, LG1_0, LG2_0, LR⟩ := bx4 w #[.float .f64 b1, .float .f64 b2] 28 #[.float .f64 c1, .float .f64 c2] 28 #[.float .f64 x, .float .f64 y] 28 #[.float .f64 0, .float .f64 0] 28
  have LR0 := Lib.hid (HasBlk.of (n := 2) LR.out rfl rfl)
  clear LR
  have hrow := Blk.at (W := ((((w.alloc (.cells #[.float .f64 b1, .float .f64 b2] 28)).alloc (.cells #[.float .f64 c1, .float .f64 c2] 28)).alloc (.cells #[.float .f64 x, .float .f64 y] 28)).alloc (.cells #[.float .f64 0, .float .f64 0] 28))) (g := w.heap.size + 1 + 1 + 1 + 1) (by simp) 75 #[.pointer (some ⟨w.heap.size, 0, none⟩), .pointer (some ⟨w.heap.size + 1, 0, none⟩), .pointer (some ⟨w.heap.size + 1 + 1, 0, none⟩)]
  have HRD := Lib.hid (read_three b1 b2 c1 c2 x y P1 Q1 P2 Q2 P3 Q3 w.heap.size (w.heap.size + 1) (w.heap.size + 1 + 1) (w.heap.size + 1 + 1 + 1 + 1) 3 _ _ _ _ (by omega) (by omega) (by omega) (by omega) (by omega) (by omega) (hrow.cell 0) (hrow.cell 1) (hrow.cell 2) (LG0_0.out.alloc (.cells #[.pointer (some ⟨w.heap.size, 0, none⟩), .pointer (some ⟨w.heap.size + 1, 0, none⟩), .pointer (some ⟨w.heap.size + 1 + 1, 0, none⟩)] 75)) (LG1_0.out.alloc (.cells #[.pointer (some ⟨w.heap.size, 0, none⟩), .pointer (some ⟨w.heap.size + 1, 0, none⟩), .pointer (some ⟨w.heap.size + 1 + 1, 0, none⟩)] 75)) (LG2_0.out.alloc (.cells #[.pointer (some ⟨w.heap.size, 0, none⟩), .pointer (some ⟨w.heap.size + 1, 0, none⟩), .pointer (some ⟨w.heap.size + 1 + 1, 0, none⟩)] 75)) t1 t2 t3 m1 m2 m3)
  rw [hnn] at HRD
  have LBr := Lib.hid (LB0.out.alloc (by simp <;> omega) (.cells #[.pointer (some ⟨w.heap.size, 0, none⟩), .pointer (some ⟨w.heap.size + 1, 0, none⟩), .pointer (some ⟨w.heap.size + 1 + 1, 0, none⟩)] 75))
  have LRr := Lib.hid (LR0.out.alloc (.cells #[.pointer (some ⟨w.heap.size, 0, none⟩), .pointer (some ⟨w.heap.size + 1, 0, none⟩), .pointer (some ⟨w.heap.size + 1 + 1, 0, none⟩)] 75))
  have hsz : w.heap.size ≤ ((((((w.alloc (.cells #[.float .f64 b1, .float .f64 b2] 28)).alloc (.cells #[.float .f64 c1, .float .f64 c2] 28)).alloc (.cells #[.float .f64 x, .float .f64 y] 28)).alloc (.cells #[.float .f64 0, .float .f64 0] 28))).alloc (.cells #[.pointer (some ⟨w.heap.size, 0, none⟩), .pointer (some ⟨w.heap.size + 1, 0, none⟩), .pointer (some ⟨w.heap.size + 1 + 1, 0, none⟩)] 75)).heap.size := by simp; omega
  have HSZ := Lib.hid hsz
  clear t1 t2 t3 m1 m2 m3 hrow hnn hno v1 v2 v3 hM hsz hP1 hQ1 hP2 hQ2 hP3 hQ3 r1 r2 r3 LB0 LR0 LG0_0 LG1_0 LG2_0 hgt o2
  go_enter Tryz.func29, Tryz.ntmps29
  go_wp2_with fail
  refine HRD.out.mono ?_
  rintro e w1 ⟨rfl, d0, d1, d2, kp⟩
  have LB1 := Lib.hid (kp.toBelow LBr.out HSZ.out (Nat.le_refl _) (by omega) (by omega))
  have LR1 := Lib.hid (kp.hasBlk LRr.out (by omega) (by omega) (by omega))
  have LG0_1 := Lib.hid (show Blk w1 w.heap.size 28 _ from d0)
  have LG1_1 := Lib.hid (show Blk w1 (w.heap.size + 1) 28 _ from d1)
  have LG2_1 := Lib.hid (show Blk w1 (w.heap.size + 2) 28 _ from d2)
  clear d0 d1 d2 kp LBr LRr HSZ HRD
  obtain ⟨q0_0, q0_1⟩ := LG0_1.out.c2
  obtain ⟨q1_0, q1_1⟩ := LG1_1.out.c2
  go_wp2_with fail
  refine (HE.out _).mono ?_
  rintro e w2 ⟨rfl, hbx⟩
  have LB2 := stB LB1 hbx LB1.out.size
  have LR2 := stR LR1 hbx
  have LG0_2 := stG LG0_1 hbx
  have LG1_2 := stG LG1_1 hbx
  have LG2_2 := stG LG2_1 hbx
  clear LB1 LR1 LG0_1 LG1_1 LG2_1
  clear hbx q0_0 q0_1 q1_0 q1_1
  obtain ⟨ha0, hf0, ha1, hf1⟩ := LR2.out.sf2
  obtain ⟨hk0, hk1⟩ := LR2.out.sc2 (.float .f64 9218868437227405312) (.float .f64 18442240474082181120)
  have F := Lib.hid (below_sets (w0 := w) (r := (w.heap.size + 3)) (by omega) [.float .f64 9218868437227405312, .float .f64 18442240474082181120] 0 _ LB2.out)
  simp [sets] at hk0 hk1
  go_wp2
  refine bodyPost_ret (v := .agg #[.float .f64 9218868437227405312, .float .f64 18442240474082181120]) (by simp [results, Tryz.results29, go_sem, hk0, hk1]) rfl ?_
  exact ⟨rfl, F.out⟩
theorem revmin_ge (b1 b2 c1 c2 x y : Nat) (i1 j1 i2 j2 i3 j3 : Int) (w : World) (hb1 : b1 < 18446744073709551616) (hb2 : b2 < 18446744073709551616) (hc1 : c1 < 18446744073709551616) (hc2 : c2 < 18446744073709551616) (hx : x < 18446744073709551616) (hy : y < 18446744073709551616) (r1 : rd b1 b2 = (i1, j1)) (r2 : rd c1 c2 = (i2, j2)) (r3 : rd x y = (i3, j3)) (hno : ¬ (j1 < i1 ∨ j2 < i2 ∨ j3 < i3)) (hgt : ¬ j1 < i2) (hge : i1 ≤ j2) :
    Calls Tryz.prog 29 #[.agg #[.float .f64 b1, .float .f64 b2], .agg #[.float .f64 c1, .float .f64 c2], .agg #[.float .f64 x, .float .f64 y]] w fun e w' => e = .returned (.agg #[.float .f64 (pat (it i2 M i3 j3).1), .float .f64 (pat (it i2 M i3 j3).2)]) ∧ Below w.heap.size w w' := by
  have v1 := rd_iv b1 b2
  have v2 := rd_iv c1 c2
  have v3 := rd_iv x y
  rw [r1] at v1
  rw [r2] at v2
  rw [r3] at v3
  dsimp only at v1 v2 v3
  have hM : M = 9218868437227405312 := rfl
  have t1 := fun W => readf b1 b2 W hb1 hb2
  have t2 := fun W => readf c1 c2 W hc1 hc2
  have t3 := fun W => readf x y W hx hy
  rw [r1] at t1
  rw [r2] at t2
  rw [r3] at t3
  dsimp only at t1 t2 t3
  have m1 := em_idx v1
  have m2 := em_idx v2
  have m3 := em_idx v3
  have o1 := order_pat v2.lo.1 v2.lo.2 v1.hi.1 v1.hi.2
  have o2 := order_pat v2.hi.1 v2.hi.2 v1.lo.1 v1.lo.2
  have hnn : (decide (j1 < i1) || decide (j2 < i2) || decide (j3 < i3)) = false := by simp; omega
  have w2 : Iv i2 M := by unfold Iv at *; omega
  have HI := Lib.hid fun W => inter_idx i2 M i3 j3 W w2 v3
  rw [pat_max] at HI
  have ho1 : (FloatKind.f64.format.order (pat i2) (pat j1) == some Ordering.gt) = false := by
    rw [o1]
    rcases Int.lt_trichotomy i2 j1 with h | h | h
    · rw [show compare i2 j1 = .lt from Int.compare_eq_lt.2 h]; rfl
    · rw [show compare i2 j1 = .eq from Int.compare_eq_eq.2 h]; rfl
    · exact absurd h hgt
  clear o1
  have hge2 : compare j2 i1 = .gt ∨ compare j2 i1 = .eq := by
    rcases Int.lt_trichotomy i1 j2 with h | h | h
    · exact .inl (Int.compare_eq_gt.2 h)
    · exact .inr (Int.compare_eq_eq.2 h.symm)
    · omega
  obtain ⟨z1, hz1⟩ : ∃ z, pat (it i2 M i3 j3).1 = z := ⟨_, rfl⟩
  obtain ⟨z2, hz2⟩ : ∃ z, pat (it i2 M i3 j3).2 = z := ⟨_, rfl⟩
  rw [hz1, hz2] at HI ⊢
  clear hz1 hz2
  obtain ⟨P1, hP1⟩ : ∃ z, pat i1 = z := ⟨_, rfl⟩
  obtain ⟨Q1, hQ1⟩ : ∃ z, pat j1 = z := ⟨_, rfl⟩
  obtain ⟨P2, hP2⟩ : ∃ z, pat i2 = z := ⟨_, rfl⟩
  obtain ⟨Q2, hQ2⟩ : ∃ z, pat j2 = z := ⟨_, rfl⟩
  obtain ⟨P3, hP3⟩ : ∃ z, pat i3 = z := ⟨_, rfl⟩
  obtain ⟨Q3, hQ3⟩ : ∃ z, pat j3 = z := ⟨_, rfl⟩
  rw [hP1, hQ1] at t1 m1
  rw [hP2, hQ2] at t2 m2
  rw [hP3, hQ3] at t3 m3
  rw [hP2, hQ1] at ho1
  rw [hQ2, hP1] at o2
  rw [hP2, hP3, hQ3] at HI
  obtain ⟨LB0, LG0_0, LG1_0, LG2_0, LR⟩ := bx4 w #[.float .f64 b1, .float .f64 b2] 28 #[.float .f64 c1, .float .f64 c2] 28 #[.float .f64 x, .float .f64 y] 28 #[.float .f64 0, .float .f64 0] 28
  have LR0 := Lib.hid (HasBlk.of (n := 2) LR.out rfl rfl)
  clear LR
  have hrow := Blk.at (W := ((((w.alloc (.cells #[.float .f64 b1, .float .f64 b2] 28)).alloc (.cells #[.float .f64 c1, .float .f64 c2] 28)).alloc (.cells #[.float .f64 x, .float .f64 y] 28)).alloc (.cells #[.float .f64 0, .float .f64 0] 28))) (g := w.heap.size + 1 + 1 + 1 + 1) (by simp) 75 #[.pointer (some ⟨w.heap.size, 0, none⟩), .pointer (some ⟨w.heap.size + 1, 0, none⟩), .pointer (some ⟨w.heap.size + 1 + 1, 0, none⟩)]
  have HRD := Lib.hid (read_three b1 b2 c1 c2 x y P1 Q1 P2 Q2 P3 Q3 w.heap.size (w.heap.size + 1) (w.heap.size + 1 + 1) (w.heap.size + 1 + 1 + 1 + 1) 3 _ _ _ _ (by omega) (by omega) (by omega) (by omega) (by omega) (by omega) (hrow.cell 0) (hrow.cell 1) (hrow.cell 2) (LG0_0.out.alloc (.cells #[.pointer (some ⟨w.heap.size, 0, none⟩), .pointer (some ⟨w.heap.size + 1, 0, none⟩), .pointer (some ⟨w.heap.size + 1 + 1, 0, none⟩)] 75)) (LG1_0.out.alloc (.cells #[.pointer (some ⟨w.heap.size, 0, none⟩), .pointer (some ⟨w.heap.size + 1, 0, none⟩), .pointer (some ⟨w.heap.size + 1 + 1, 0, none⟩)] 75)) (LG2_0.out.alloc (.cells #[.pointer (some ⟨w.heap.size, 0, none⟩), .pointer (some ⟨w.heap.size + 1, 0, none⟩), .pointer (some ⟨w.heap.size + 1 + 1, 0, none⟩)] 75)) t1 t2 t3 m1 m2 m3)
  rw [hnn] at HRD
  have LBr := Lib.hid (LB0.out.alloc (by simp <;> omega) (.cells #[.pointer (some ⟨w.heap.size, 0, none⟩), .pointer (some ⟨w.heap.size + 1, 0, none⟩), .pointer (some ⟨w.heap.size + 1 + 1, 0, none⟩)] 75))
  have LRr := Lib.hid (LR0.out.alloc (.cells #[.pointer (some ⟨w.heap.size, 0, none⟩), .pointer (some ⟨w.heap.size + 1, 0, none⟩), .pointer (some ⟨w.heap.size + 1 + 1, 0, none⟩)] 75))
  have hsz : w.heap.size ≤ ((((((w.alloc (.cells #[.float .f64 b1, .float .f64 b2] 28)).alloc (.cells #[.float .f64 c1, .float .f64 c2] 28)).alloc (.cells #[.float .f64 x, .float .f64 y] 28)).alloc (.cells #[.float .f64 0, .float .f64 0] 28))).alloc (.cells #[.pointer (some ⟨w.heap.size, 0, none⟩), .pointer (some ⟨w.heap.size + 1, 0, none⟩), .pointer (some ⟨w.heap.size + 1 + 1, 0, none⟩)] 75)).heap.size := by simp; omega
  have HSZ := Lib.hid hsz
  clear t1 t2 t3 m1 m2 m3 hrow hnn hno v1 v2 v3 hM hsz hP1 hQ1 hP2 hQ2 hP3 hQ3 r1 r2 r3 LB0 LR0 LG0_0 LG1_0 LG2_0 hgt hge
  go_enter Tryz.func29, Tryz.ntmps29
  go_wp2_with fail
  refine HRD.out.mono ?_
  rintro e w1 ⟨rfl, d0, d1, d2, kp⟩
  have LB1 := Lib.hid (kp.toBelow LBr.out HSZ.out (Nat.le_refl _) (by omega) (by omega))
  have LR1 := Lib.hid (kp.hasBlk LRr.out (by omega) (by omega) (by omega))
  have LG0_1 := Lib.hid (show Blk w1 w.heap.size 28 _ from d0)
  have LG1_1 := Lib.hid (show Blk w1 (w.heap.size + 1) 28 _ from d1)
  have LG2_1 := Lib.hid (show Blk w1 (w.heap.size + 2) 28 _ from d2)
  clear d0 d1 d2 kp LBr LRr HSZ HRD
  obtain ⟨q0_0, q0_1⟩ := LG0_1.out.c2
  obtain ⟨q1_0, q1_1⟩ := LG1_1.out.c2
  have HP := Lib.hid inf_pos
  have hge3 : (FloatKind.f64.format.order Q2 P1 == some Ordering.gt || FloatKind.f64.format.order Q2 P1 == some Ordering.eq) = true := by
    rw [o2]; rcases hge2 with e | e <;> rw [e] <;> rfl
  have hf1 := LG1_1.out.frozen 1
  rcases hge2 with e | e <;> rw [e] at o2 <;> clear e
  all_goals
    go_wp2_with fail
    refine (HP.out _).mono ?_
    rintro e w2 ⟨rfl, rfl⟩
    go_upto_region 5 with fail
    clear hf1 q0_0 q0_1 q1_0 q1_1
    have LB2 := Lib.hid (below_sets (w0 := w) (show w.heap.size ≤ (w.heap.size + 1) by omega) [.float .f64 9218868437227405312] 1 w1 LB1.out)
    have LR2 := Lib.hid (LR1.out.other (r := (w.heap.size + 1)) (by omega) 1 [.float .f64 9218868437227405312])
    have LG0_2 := Lib.hid (LG0_1.out.other (r := (w.heap.size + 1)) (by omega) 1 [.float .f64 9218868437227405312])
    have LG1_2 := Lib.hid (show Blk (sets w1 (w.heap.size + 1) 1 [.float .f64 9218868437227405312]) (w.heap.size + 1) 28 #[.float .f64 P2, .float .f64 9218868437227405312] from by have hbs := Blk.sets [.float .f64 9218868437227405312] 1 w1 _ LG1_1.out; simpa [laid] using hbs)
    have LG2_2 := Lib.hid (LG2_1.out.other (r := (w.heap.size + 1)) (by omega) 1 [.float .f64 9218868437227405312])
    clear LB1 LR1 LG0_1 LG1_1 LG2_1
    obtain ⟨V1, hV1⟩ : ∃ X, (sets w1 (w.heap.size + 1) 1 [.float .f64 9218868437227405312]) = X := ⟨_, rfl⟩
    rw [hV1] at LB2 LR2 LG0_2 LG1_2 LG2_2
    rw [show (w1.setCell ⟨(w.heap.size + 1), 1, none⟩ (.float .f64 9218868437227405312)) = V1 from hV1]
    clear hV1
    obtain ⟨q1_0, q1_1⟩ := LG1_2.out.c2
    obtain ⟨q2_0, q2_1⟩ := LG2_2.out.c2
    go_wp2_with fail
    refine (HI.out _).mono ?_
    rintro e w3 ⟨rfl, hbx⟩
    have LB3 := stB LB2 hbx LB2.out.size
    have LR3 := stR LR2 hbx
    have LG0_3 := stG LG0_2 hbx
    have LG1_3 := stG LG1_2 hbx
    have LG2_3 := stG LG2_2 hbx
    clear LB2 LR2 LG0_2 LG1_2 LG2_2
    clear hbx q1_0 q1_1 q2_0 q2_1
    obtain ⟨ha0, hf0, ha1, hf1⟩ := LR3.out.sf2
    obtain ⟨hk0, hk1⟩ := LR3.out.sc2 (.float .f64 z1) (.float .f64 z2)
    have F := Lib.hid (below_sets (w0 := w) (r := (w.heap.size + 3)) (by omega) [.float .f64 z1, .float .f64 z2] 0 _ LB3.out)
    simp [sets] at hk0 hk1
    go_wp2
    refine bodyPost_ret (v := .agg #[.float .f64 z1, .float .f64 z2]) (by simp [results, Tryz.results29, go_sem, hk0, hk1]) rfl ?_
    exact ⟨rfl, F.out⟩
theorem revmin_lt (b1 b2 c1 c2 x y : Nat) (i1 j1 i2 j2 i3 j3 : Int) (w : World) (hb1 : b1 < 18446744073709551616) (hb2 : b2 < 18446744073709551616) (hc1 : c1 < 18446744073709551616) (hc2 : c2 < 18446744073709551616) (hx : x < 18446744073709551616) (hy : y < 18446744073709551616) (r1 : rd b1 b2 = (i1, j1)) (r2 : rd c1 c2 = (i2, j2)) (r3 : rd x y = (i3, j3)) (hno : ¬ (j1 < i1 ∨ j2 < i2 ∨ j3 < i3)) (hgt : ¬ j1 < i2) (hge : ¬ i1 ≤ j2) :
    Calls Tryz.prog 29 #[.agg #[.float .f64 b1, .float .f64 b2], .agg #[.float .f64 c1, .float .f64 c2], .agg #[.float .f64 x, .float .f64 y]] w fun e w' => e = .returned (.agg #[.float .f64 (pat (it i2 j2 i3 j3).1), .float .f64 (pat (it i2 j2 i3 j3).2)]) ∧ Below w.heap.size w w' := by
  have v1 := rd_iv b1 b2
  have v2 := rd_iv c1 c2
  have v3 := rd_iv x y
  rw [r1] at v1
  rw [r2] at v2
  rw [r3] at v3
  dsimp only at v1 v2 v3
  have hM : M = 9218868437227405312 := rfl
  have t1 := fun W => readf b1 b2 W hb1 hb2
  have t2 := fun W => readf c1 c2 W hc1 hc2
  have t3 := fun W => readf x y W hx hy
  rw [r1] at t1
  rw [r2] at t2
  rw [r3] at t3
  dsimp only at t1 t2 t3
  have m1 := em_idx v1
  have m2 := em_idx v2
  have m3 := em_idx v3
  have o1 := order_pat v2.lo.1 v2.lo.2 v1.hi.1 v1.hi.2
  have o2 := order_pat v2.hi.1 v2.hi.2 v1.lo.1 v1.lo.2
  have hnn : (decide (j1 < i1) || decide (j2 < i2) || decide (j3 < i3)) = false := by simp; omega
  have w2 : Iv i2 j2 := by unfold Iv at *; omega
  have HI := Lib.hid fun W => inter_idx i2 j2 i3 j3 W w2 v3
  have ho1 : (FloatKind.f64.format.order (pat i2) (pat j1) == some Ordering.gt) = false := by
    rw [o1]
    rcases Int.lt_trichotomy i2 j1 with h | h | h
    · rw [show compare i2 j1 = .lt from Int.compare_eq_lt.2 h]; rfl
    · rw [show compare i2 j1 = .eq from Int.compare_eq_eq.2 h]; rfl
    · exact absurd h hgt
  clear o1
  rw [show compare j2 i1 = .lt from Int.compare_eq_lt.2 (by omega)] at o2
  obtain ⟨z1, hz1⟩ : ∃ z, pat (it i2 j2 i3 j3).1 = z := ⟨_, rfl⟩
  obtain ⟨z2, hz2⟩ : ∃ z, pat (it i2 j2 i3 j3).2 = z := ⟨_, rfl⟩
  rw [hz1, hz2] at HI ⊢
  clear hz1 hz2
  obtain ⟨P1, hP1⟩ : ∃ z, pat i1 = z := ⟨_, rfl⟩
  obtain ⟨Q1, hQ1⟩ : ∃ z, pat j1 = z := ⟨_, rfl⟩
  obtain ⟨P2, hP2⟩ : ∃ z, pat i2 = z := ⟨_, rfl⟩
  obtain ⟨Q2, hQ2⟩ : ∃ z, pat j2 = z := ⟨_, rfl⟩
  obtain ⟨P3, hP3⟩ : ∃ z, pat i3 = z := ⟨_, rfl⟩
  obtain ⟨Q3, hQ3⟩ : ∃ z, pat j3 = z := ⟨_, rfl⟩
  rw [hP1, hQ1] at t1 m1
  rw [hP2, hQ2] at t2 m2
  rw [hP3, hQ3] at t3 m3
  rw [hP2, hQ1] at ho1
  rw [hQ2, hP1] at o2
  rw [hP2, hQ2, hP3, hQ3] at HI
  obtain ⟨LB0, LG0_0, LG1_0, LG2_0, LR⟩ := bx4 w #[.float .f64 b1, .float .f64 b2] 28 #[.float .f64 c1, .float .f64 c2] 28 #[.float .f64 x, .float .f64 y] 28 #[.float .f64 0, .float .f64 0] 28
  have LR0 := Lib.hid (HasBlk.of (n := 2) LR.out rfl rfl)
  clear LR
  have hrow := Blk.at (W := ((((w.alloc (.cells #[.float .f64 b1, .float .f64 b2] 28)).alloc (.cells #[.float .f64 c1, .float .f64 c2] 28)).alloc (.cells #[.float .f64 x, .float .f64 y] 28)).alloc (.cells #[.float .f64 0, .float .f64 0] 28))) (g := w.heap.size + 1 + 1 + 1 + 1) (by simp) 75 #[.pointer (some ⟨w.heap.size, 0, none⟩), .pointer (some ⟨w.heap.size + 1, 0, none⟩), .pointer (some ⟨w.heap.size + 1 + 1, 0, none⟩)]
  have HRD := Lib.hid (read_three b1 b2 c1 c2 x y P1 Q1 P2 Q2 P3 Q3 w.heap.size (w.heap.size + 1) (w.heap.size + 1 + 1) (w.heap.size + 1 + 1 + 1 + 1) 3 _ _ _ _ (by omega) (by omega) (by omega) (by omega) (by omega) (by omega) (hrow.cell 0) (hrow.cell 1) (hrow.cell 2) (LG0_0.out.alloc (.cells #[.pointer (some ⟨w.heap.size, 0, none⟩), .pointer (some ⟨w.heap.size + 1, 0, none⟩), .pointer (some ⟨w.heap.size + 1 + 1, 0, none⟩)] 75)) (LG1_0.out.alloc (.cells #[.pointer (some ⟨w.heap.size, 0, none⟩), .pointer (some ⟨w.heap.size + 1, 0, none⟩), .pointer (some ⟨w.heap.size + 1 + 1, 0, none⟩)] 75)) (LG2_0.out.alloc (.cells #[.pointer (some ⟨w.heap.size, 0, none⟩), .pointer (some ⟨w.heap.size + 1, 0, none⟩), .pointer (some ⟨w.heap.size + 1 + 1, 0, none⟩)] 75)) t1 t2 t3 m1 m2 m3)
  rw [hnn] at HRD
  have LBr := Lib.hid (LB0.out.alloc (by simp <;> omega) (.cells #[.pointer (some ⟨w.heap.size, 0, none⟩), .pointer (some ⟨w.heap.size + 1, 0, none⟩), .pointer (some ⟨w.heap.size + 1 + 1, 0, none⟩)] 75))
  have LRr := Lib.hid (LR0.out.alloc (.cells #[.pointer (some ⟨w.heap.size, 0, none⟩), .pointer (some ⟨w.heap.size + 1, 0, none⟩), .pointer (some ⟨w.heap.size + 1 + 1, 0, none⟩)] 75))
  have hsz : w.heap.size ≤ ((((((w.alloc (.cells #[.float .f64 b1, .float .f64 b2] 28)).alloc (.cells #[.float .f64 c1, .float .f64 c2] 28)).alloc (.cells #[.float .f64 x, .float .f64 y] 28)).alloc (.cells #[.float .f64 0, .float .f64 0] 28))).alloc (.cells #[.pointer (some ⟨w.heap.size, 0, none⟩), .pointer (some ⟨w.heap.size + 1, 0, none⟩), .pointer (some ⟨w.heap.size + 1 + 1, 0, none⟩)] 75)).heap.size := by simp; omega
  have HSZ := Lib.hid hsz
  clear t1 t2 t3 m1 m2 m3 hrow hnn hno v1 v2 v3 hM hsz hP1 hQ1 hP2 hQ2 hP3 hQ3 r1 r2 r3 LB0 LR0 LG0_0 LG1_0 LG2_0 hgt hge
  go_enter Tryz.func29, Tryz.ntmps29
  go_wp2_with fail
  refine HRD.out.mono ?_
  rintro e w1 ⟨rfl, d0, d1, d2, kp⟩
  have LB1 := Lib.hid (kp.toBelow LBr.out HSZ.out (Nat.le_refl _) (by omega) (by omega))
  have LR1 := Lib.hid (kp.hasBlk LRr.out (by omega) (by omega) (by omega))
  have LG0_1 := Lib.hid (show Blk w1 w.heap.size 28 _ from d0)
  have LG1_1 := Lib.hid (show Blk w1 (w.heap.size + 1) 28 _ from d1)
  have LG2_1 := Lib.hid (show Blk w1 (w.heap.size + 2) 28 _ from d2)
  clear d0 d1 d2 kp LBr LRr HSZ HRD
  obtain ⟨q0_0, q0_1⟩ := LG0_1.out.c2
  obtain ⟨q1_0, q1_1⟩ := LG1_1.out.c2
  obtain ⟨q2_0, q2_1⟩ := LG2_1.out.c2
  go_wp2_with fail
  refine (HI.out _).mono ?_
  rintro e w3 ⟨rfl, hbx⟩
  have LB2 := stB LB1 hbx LB1.out.size
  have LR2 := stR LR1 hbx
  have LG0_2 := stG LG0_1 hbx
  have LG1_2 := stG LG1_1 hbx
  have LG2_2 := stG LG2_1 hbx
  clear LB1 LR1 LG0_1 LG1_1 LG2_1
  clear hbx q0_0 q0_1 q1_0 q1_1 q2_0 q2_1
  obtain ⟨ha0, hf0, ha1, hf1⟩ := LR2.out.sf2
  obtain ⟨hk0, hk1⟩ := LR2.out.sc2 (.float .f64 z1) (.float .f64 z2)
  have F := Lib.hid (below_sets (w0 := w) (r := (w.heap.size + 3)) (by omega) [.float .f64 z1, .float .f64 z2] 0 _ LB2.out)
  simp [sets] at hk0 hk1
  go_wp2
  refine bodyPost_ret (v := .agg #[.float .f64 z1, .float .f64 z2]) (by simp [results, Tryz.results29, go_sem, hk0, hk1]) rfl ?_
  exact ⟨rfl, F.out⟩
theorem revmin_any (b1 b2 c1 c2 x y : Nat) (w : World) (hb1 : b1 < 18446744073709551616) (hb2 : b2 < 18446744073709551616) (hc1 : c1 < 18446744073709551616) (hc2 : c2 < 18446744073709551616) (hx : x < 18446744073709551616) (hy : y < 18446744073709551616) :
    Calls Tryz.prog 29 #[.agg #[.float .f64 b1, .float .f64 b2], .agg #[.float .f64 c1, .float .f64 c2], .agg #[.float .f64 x, .float .f64 y]] w fun e w' => e = .returned (.agg #[.float .f64 (pat (rmr (rd b1 b2).1 (rd b1 b2).2 (rd c1 c2).1 (rd c1 c2).2 (rd x y).1 (rd x y).2).1), .float .f64 (pat (rmr (rd b1 b2).1 (rd b1 b2).2 (rd c1 c2).1 (rd c1 c2).2 (rd x y).1 (rd x y).2).2)]) ∧ Below w.heap.size w w' := by
  obtain ⟨i1, hi1⟩ : ∃ z, (rd b1 b2).1 = z := ⟨_, rfl⟩
  obtain ⟨j1, hj1⟩ : ∃ z, (rd b1 b2).2 = z := ⟨_, rfl⟩
  obtain ⟨i2, hi2⟩ : ∃ z, (rd c1 c2).1 = z := ⟨_, rfl⟩
  obtain ⟨j2, hj2⟩ : ∃ z, (rd c1 c2).2 = z := ⟨_, rfl⟩
  obtain ⟨i3, hi3⟩ : ∃ z, (rd x y).1 = z := ⟨_, rfl⟩
  obtain ⟨j3, hj3⟩ : ∃ z, (rd x y).2 = z := ⟨_, rfl⟩
  have r1 : rd b1 b2 = (i1, j1) := by rw [← hi1, ← hj1]
  have r2 : rd c1 c2 = (i2, j2) := by rw [← hi2, ← hj2]
  have r3 : rd x y = (i3, j3) := by rw [← hi3, ← hj3]
  rw [hi1, hj1, hi2, hj2, hi3, hj3]
  unfold rmr
  by_cases hno : j1 < i1 ∨ j2 < i2 ∨ j3 < i3
  · rw [if_pos (by omega)]
    exact revmin_none b1 b2 c1 c2 x y i1 j1 i2 j2 i3 j3 w hb1 hb2 hc1 hc2 hx hy r1 r2 r3 hno
  · by_cases hgt : j1 < i2
    · rw [if_pos (by omega)]
      exact revmin_gt b1 b2 c1 c2 x y i1 j1 i2 j2 i3 j3 w hb1 hb2 hc1 hc2 hx hy r1 r2 r3 hno hgt
    · rw [if_neg (by omega)]
      by_cases hge : i1 ≤ j2
      · rw [if_pos hge]
        exact revmin_ge b1 b2 c1 c2 x y i1 j1 i2 j2 i3 j3 w hb1 hb2 hc1 hc2 hx hy r1 r2 r3 hno hgt hge
      · rw [if_neg hge]
        exact revmin_lt b1 b2 c1 c2 x y i1 j1 i2 j2 i3 j3 w hb1 hb2 hc1 hc2 hx hy r1 r2 r3 hno hgt hge
def rmx (b c x : Int × Int) : Int × Int := (-(rmr (-b.2) (-b.1) (-c.2) (-c.1) (-x.2) (-x.1)).2, -(rmr (-b.2) (-b.1) (-c.2) (-c.1) (-x.2) (-x.1)).1)
theorem Iv.negf {i j : Int} (h : Iv i j) : Iv (-j) (-i) := by
  unfold Iv at *
  rw [M_val] at *
  omega
theorem rmr_iv {i1 j1 i2 j2 i3 j3 : Int} (h1 : Iv i1 j1) (h2 : Iv i2 j2) (h3 : Iv i3 j3) : Iv (rmr i1 j1 i2 j2 i3 j3).1 (rmr i1 j1 i2 j2 i3 j3).2 := by
  unfold rmr
  split
  · exact Iv.none
  · rename_i h
    have hM : M = 9218868437227405312 := rfl
    refine it_iv ?_ h3
    unfold Iv at *
    split <;> omega
theorem revmin_idx (i1 i2 i3 i4 i5 i6 : Int) (w : World) (hb : Iv i1 i2) (hc : Iv i3 i4) (hx : Iv i5 i6) :
    Calls Tryz.prog 29 #[.agg #[.float .f64 (pat i1), .float .f64 (pat i2)], .agg #[.float .f64 (pat i3), .float .f64 (pat i4)], .agg #[.float .f64 (pat i5), .float .f64 (pat i6)]] w
      fun e w' => e = .returned (.agg #[.float .f64 (pat (rmr i1 i2 i3 i4 i5 i6).1), .float .f64 (pat (rmr i1 i2 i3 i4 i5 i6).2)]) ∧ Below w.heap.size w w' := by
  have h := revmin_any (pat i1) (pat i2) (pat i3) (pat i4) (pat i5) (pat i6) w (pat_lt hb.lo.1 hb.lo.2) (pat_lt hb.hi.1 hb.hi.2) (pat_lt hc.lo.1 hc.lo.2) (pat_lt hc.hi.1 hc.hi.2) (pat_lt hx.lo.1 hx.lo.2) (pat_lt hx.hi.1 hx.hi.2)
  rw [rd_pat hb, rd_pat hc, rd_pat hx] at h
  exact h
theorem mirror_idxm (i j : Int) (w : World) (h : Iv i j) :
    Calls Tryz.prog 85 #[.agg #[.float .f64 (pat i), .float .f64 (pat j)]] w fun e w' => e = .returned (.agg #[.float .f64 (pat (-j)), .float .f64 (pat (-i))]) ∧ Below w.heap.size w w' := by
  have h2 := mirrorf (pat i) (pat j) w (pat_lt h.lo.1 h.lo.2) (pat_lt h.hi.1 h.hi.2)
  rw [rd_pat h] at h2
  exact h2
theorem revmax_any (b1 b2 c1 c2 x y : Nat) (w : World) (hb1 : b1 < 18446744073709551616) (hb2 : b2 < 18446744073709551616) (hc1 : c1 < 18446744073709551616) (hc2 : c2 < 18446744073709551616) (hx : x < 18446744073709551616) (hy : y < 18446744073709551616) :
    Calls Tryz.prog 30 #[.agg #[.float .f64 b1, .float .f64 b2], .agg #[.float .f64 c1, .float .f64 c2], .agg #[.float .f64 x, .float .f64 y]] w fun e w' => e = .returned (.agg #[.float .f64 (pat (rmx (rd b1 b2) (rd c1 c2) (rd x y)).1), .float .f64 (pat (rmx (rd b1 b2) (rd c1 c2) (rd x y)).2)]) ∧ Below w.heap.size w w' := by
  have HN1 := Lib.hid fun W => mirrorf b1 b2 W hb1 hb2
  have HN2 := Lib.hid fun W => mirrorf c1 c2 W hc1 hc2
  have HN3 := Lib.hid fun W => mirrorf x y W hx hy
  have v1 := (rd_iv b1 b2).negf
  have v2 := (rd_iv c1 c2).negf
  have v3 := (rd_iv x y).negf
  have vm := rmr_iv v1 v2 v3
  have HM := Lib.hid fun W => revmin_idx _ _ _ _ _ _ W v1 v2 v3
  have HN4 := Lib.hid fun W => mirror_idxm _ _ W vm
  unfold rmx
  obtain ⟨z1, hz1⟩ : ∃ z, (rmr (-(rd b1 b2).2) (-(rd b1 b2).1) (-(rd c1 c2).2) (-(rd c1 c2).1) (-(rd x y).2) (-(rd x y).1)).1 = z := ⟨_, rfl⟩
  obtain ⟨z2, hz2⟩ : ∃ z, (rmr (-(rd b1 b2).2) (-(rd b1 b2).1) (-(rd c1 c2).2) (-(rd c1 c2).1) (-(rd x y).2) (-(rd x y).1)).2 = z := ⟨_, rfl⟩
  rw [hz1, hz2] at HM HN4 ⊢
  obtain ⟨p1, e1⟩ : ∃ z, pat (-(rd b1 b2).2) = z := ⟨_, rfl⟩
  obtain ⟨p2, e2⟩ : ∃ z, pat (-(rd b1 b2).1) = z := ⟨_, rfl⟩
  obtain ⟨p3, e3⟩ : ∃ z, pat (-(rd c1 c2).2) = z := ⟨_, rfl⟩
  obtain ⟨p4, e4⟩ : ∃ z, pat (-(rd c1 c2).1) = z := ⟨_, rfl⟩
  obtain ⟨p5, e5⟩ : ∃ z, pat (-(rd x y).2) = z := ⟨_, rfl⟩
  obtain ⟨p6, e6⟩ : ∃ z, pat (-(rd x y).1) = z := ⟨_, rfl⟩
  obtain ⟨p7, e7⟩ : ∃ z, pat z1 = z := ⟨_, rfl⟩
  obtain ⟨p8, e8⟩ : ∃ z, pat z2 = z := ⟨_, rfl⟩
  obtain ⟨q1, f1⟩ : ∃ z, pat (-z2) = z := ⟨_, rfl⟩
  obtain ⟨q2, f2⟩ : ∃ z, pat (-z1) = z := ⟨_, rfl⟩
  rw [e1, e2] at HN1
  rw [e3, e4] at HN2
  rw [e5, e6] at HN3
  rw [e1, e2, e3, e4, e5, e6, e7, e8] at HM
  rw [e7, e8, f1, f2] at HN4
  dsimp only
  rw [f1, f2]
  clear v1 v2 v3 vm hz1 hz2 e1 e2 e3 e4 e5 e6 e7 e8 f1 f2
  obtain ⟨LB0, LG0_0, LG1_0, LG2_0, LR⟩ := bx4 w #[.float .f64 b1, .float .f64 b2] 28 #[.float .f64 c1, .float .f64 c2] 28 #[.float .f64 x, .float .f64 y] 28 #[.float .f64 0, .float .f64 0] 28
  have LR0 := Lib.hid (HasBlk.of (n := 2) LR.out rfl rfl)
  clear LR
  go_enter Tryz.func30, Tryz.ntmps30
  go_wp2_with fail
  refine wp_region_held_drew (S := fun W' => Blk W' w.heap.size 28 #[.float .f64 b1, .float .f64 b2] ∧ Blk W' (w.heap.size + 1) 28 #[.float .f64 c1, .float .f64 c2] ∧ Blk W' (w.heap.size + 2) 28 #[.float .f64 x, .float .f64 y] ∧ HasBlk W' (w.heap.size + 3) 28 2 ∧ Below w.heap.size w W') (by kernel_rfl) (by exact ⟨LG0_0.out.drew, LG1_0.out.drew, LG2_0.out.drew, LR0.out.drew, LB0.out.drew⟩) (fun hHeld => ?_)
  refine tk 0 ?_ (hv := by intro W2 hSw; obtain ⟨q0, q1⟩ := hSw.1.c2; go_simp; (try with_reducible rfl))
  try simp only [Act.put, lay]
  refine tk 2 ?_ (hv := by intro W2 hSw; obtain ⟨q0, q1⟩ := hSw.2.1.c2; go_simp; (try with_reducible rfl))
  try simp only [Act.put, lay]
  refine tk 4 ?_ (hv := by intro W2 hSw; obtain ⟨q0, q1⟩ := hSw.2.2.1.c2; go_simp; (try with_reducible rfl))
  try simp only [Act.put, lay]
  refine rdy 1 (fun KK hKK => ?_)
  go_simp
  refine (HN1.out _).mono ?_
  rintro e w1 ⟨rfl, hbA⟩
  go_wp2_with fail
  refine hKK.out _ _ (⟨hHeld.1.keep hbA, hHeld.2.1.keep hbA, hHeld.2.2.1.keep hbA, hHeld.2.2.2.1.keep hbA, hHeld.2.2.2.2.trans (hbA.mono hHeld.2.2.2.2.size)⟩) (fun _ => ?_)
  clear hKK KK hHeld; rename_i hHeld
  try simp only [Act.put, lay]
  refine rdy 3 (fun KK hKK => ?_)
  go_simp
  refine (HN2.out _).mono ?_
  rintro e w2 ⟨rfl, hbB⟩
  go_wp2_with fail
  refine hKK.out _ _ (⟨hHeld.1.keep hbB, hHeld.2.1.keep hbB, hHeld.2.2.1.keep hbB, hHeld.2.2.2.1.keep hbB, hHeld.2.2.2.2.trans (hbB.mono hHeld.2.2.2.2.size)⟩) (fun _ => ?_)
  clear hKK KK hHeld; rename_i hHeld
  try simp only [Act.put, lay]
  refine rdy 5 (fun KK hKK => ?_)
  go_simp
  refine (HN3.out _).mono ?_
  rintro e w3 ⟨rfl, hbC⟩
  go_wp2_with fail
  refine hKK.out _ _ (⟨hHeld.1.keep hbC, hHeld.2.1.keep hbC, hHeld.2.2.1.keep hbC, hHeld.2.2.2.1.keep hbC, hHeld.2.2.2.2.trans (hbC.mono hHeld.2.2.2.2.size)⟩) (fun _ => ?_)
  clear hKK KK hHeld; rename_i hHeld
  try simp only [Act.put, lay]
  refine rdy 6 (fun KK hKK => ?_)
  go_simp
  refine (HM.out _).mono ?_
  rintro e w4 ⟨rfl, hbD⟩
  go_wp2_with fail
  refine hKK.out _ _ (⟨hHeld.1.keep hbD, hHeld.2.1.keep hbD, hHeld.2.2.1.keep hbD, hHeld.2.2.2.1.keep hbD, hHeld.2.2.2.2.trans (hbD.mono hHeld.2.2.2.2.size)⟩) (fun _ => ?_)
  clear hKK KK hHeld; rename_i hHeld
  try simp only [Act.put, lay]
  refine rdy 7 (fun KK hKK => ?_)
  go_simp
  refine (HN4.out _).mono ?_
  rintro e w5 ⟨rfl, hbE⟩
  go_wp2_with fail
  refine hKK.out _ _ (⟨hHeld.1.keep hbE, hHeld.2.1.keep hbE, hHeld.2.2.1.keep hbE, hHeld.2.2.2.1.keep hbE, hHeld.2.2.2.2.trans (hbE.mono hHeld.2.2.2.2.size)⟩) (fun _ => ?_)
  clear hKK KK hHeld; rename_i hHeld
  try simp only [Act.put, lay]
  refine rdy 8 (fun KK hKK => ?_)
  have ha0 := hHeld.2.2.2.1.someCell 0 (by decide); have hf0 := hHeld.2.2.2.1.frozen 0; have ha1 := hHeld.2.2.2.1.someCell 1 (by decide); have hf1 := hHeld.2.2.2.1.frozen 1; have HK := Lib.hid (hHeld.2.2.2.1.setCell [.float .f64 q1, .float .f64 q2] rfl); have F := Lib.hid (below_sets (w0 := w) (r := (w.heap.size + 3)) (by omega) [.float .f64 q1, .float .f64 q2] 0 _ hHeld.2.2.2.2)
  go_simp
  refine hKK.out _ _ (⟨hHeld.1.other (by omega) 0 [.float .f64 q1, .float .f64 q2], hHeld.2.1.other (by omega) 0 [.float .f64 q1, .float .f64 q2], hHeld.2.2.1.other (by omega) 0 [.float .f64 q1, .float .f64 q2], hHeld.2.2.2.1.sets [.float .f64 q1, .float .f64 q2] rfl rfl, below_sets (by omega) [.float .f64 q1, .float .f64 q2] 0 _ hHeld.2.2.2.2⟩) (fun _ => ?_)
  clear hKK KK hHeld; rename_i hHeld
  try simp only [Act.put, lay]
  refine wpAnyH_done (by kernel_rfl) ?_ _
  have hk0 := HK.out 0 (by decide)
  have hk1 := HK.out 1 (by decide)
  simp [sets] at hk0 hk1
  clear hHeld HK hbA hbB hbC hbD hbE
  clear LB0 LR0 LG0_0 LG1_0 LG2_0
  go_wp2
  refine bodyPost_ret (v := .agg #[.float .f64 q1, .float .f64 q2]) (by simp [results, Tryz.results30, go_sem, hk0, hk1]) rfl ?_
  exact ⟨rfl, F.out⟩
end Go.Proofs.YthlmlmfebpjgdaaGreatDoor

namespace Go.Proofs.YthlmlmfebpjgdaaGreatDoor
open Go.RowKit Ieee
theorem R_stay {r e : Int} (hr : Rep r) {l : Nat} (h1 : 2^(54 + l) ≤ r.natAbs) (h2 : r.natAbs < 2^(55 + l)) (he : e.natAbs * 2^55 < r.natAbs) : R (r + e) = r := by
  have p0 : 2^(55 + l) = 2^55 * 2^l := Nat.pow_add 2 55 l
  have p1 : 2^(54 + l) = 2^54 * 2^l := Nat.pow_add 2 54 l
  have p2 : 2^(52 + (l + 1)) = 2^53 * 2^l := by rw [show 52 + (l + 1) = 53 + l from by omega, Nat.pow_add]
  have p3 : 2^(l + 1) = 2 * 2^l := by rw [Nat.pow_succ, Nat.mul_comm]
  have hl : 0 < 2^l := Nat.two_pow_pos l
  have near := R_nearest (n := r + e) hr
  have he2 : e.natAbs < 2^l := by
    have : e.natAbs * 2^55 < 2^l * 2^55 := by rw [Nat.mul_comm (2^l)]; omega
    exact Nat.lt_of_mul_lt_mul_right this
  have hd : (R (r + e) - r).natAbs < 2^(l + 1) := by omega
  have k1 := rep_dvd (k := l + 1) hr (by omega)
  have k2 := rep_dvd (k := l + 1) (R_rep (r + e)) (by omega)
  obtain ⟨a, ha⟩ := k1
  obtain ⟨b, hb⟩ := k2
  have e1 : R (r + e) - r = 2^(l + 1) * (b - a) := by rw [hb]; conv => lhs; rw [ha]
                                                      rw [Int.mul_sub]
  rw [e1, Int.natAbs_mul, Int.natAbs_pow] at hd
  have h0 : (b - a).natAbs = 0 := by
    rcases Nat.eq_zero_or_pos (b - a).natAbs with h | h
    · exact h
    · exfalso
      have : 2^(l + 1) * 1 ≤ 2^(l + 1) * (b - a).natAbs := Nat.mul_le_mul_left _ h
      have e2 : (2 : Int).natAbs = 2 := rfl
      rw [e2] at hd
      omega
  have : b = a := by omega
  rw [this, Int.sub_self, Int.mul_zero] at e1
  omega
theorem R_stays {r e : Int} (hr : Rep r) (h1 : 2^54 ≤ r.natAbs) (he : e.natAbs * 2^55 < r.natAbs) : R (r + e) = r := by
  have n0 : r.natAbs ≠ 0 := by have := Nat.two_pow_pos 54; omega
  have a := Nat.log2_self_le n0
  have b := @Nat.lt_log2_self r.natAbs
  have c : 54 ≤ r.natAbs.log2 := (Nat.le_log2 n0).2 h1
  obtain ⟨l, hl⟩ : ∃ l, r.natAbs.log2 = 54 + l := ⟨_, (Nat.add_sub_cancel' c).symm⟩
  rw [hl] at a b
  exact R_stay hr a (by rw [show 54 + l + 1 = 55 + l from by omega] at b; exact b) he
theorem add_nought {x y : Nat} {m : Int} (hx : Fl x m) (hy : Fl y 0) : (∃ r, FloatKind.f64.format.add x y = some r ∧ Fl r m) ∧ ∃ r, FloatKind.f64.format.add y x = some r ∧ Fl r m := by
  have hM : M = 9218868437227405312 := rfl
  have h1 := idx_natAbs x
  have hf : rungOf x < M := hx.fin
  have e : near (val (idx x)) 0 = idx x := near_val_zero (by omega) (by omega)
  have key : ∀ r, Is r (idx x) → Fl r m := fun r h => by
    have h2 := idx_natAbs r
    rw [h.idx] at h2
    exact ⟨h.lt, by unfold fin; omega, by rw [h.idx, hx.val]⟩
  constructor
  · obtain ⟨r, hr, hi⟩ := add_fin hx.fin hy.fin
    rw [hy.val, Int.add_zero, e] at hi
    exact ⟨r, hr, key r hi⟩
  · obtain ⟨r, hr, hi⟩ := add_fin hy.fin hx.fin
    rw [hy.val, Int.zero_add, e] at hi
    exact ⟨r, hr, key r hi⟩
theorem fma_good {d : Int} (hd : d = -1 ∨ d = 1) {s f e : Nat} {N P Z n : Int} (hn : n = P + Z) (fs : Fl s (R n)) (ff : Fl f (n - R n)) (fe : Fl e (N - P)) (hc : N - P = 0 ∨ (n - R n = 0 ∧ 2^54 ≤ (R n).natAbs ∧ (N - P).natAbs * 2^55 < (R n).natAbs)) :
    ∃ g, FloatKind.f64.format.add e f = some g ∧ rungOf g ≤ M ∧ nud d (idx s) (idx g) = rndI d (((N + Z : Int) : Rat) * 2^(-1074 : Int)) := by
  rcases hc with h | ⟨h, h2, h3⟩
  · rw [h] at fe
    obtain ⟨g, hg, fg⟩ := (add_nought ff fe).2
    have e1 : N + Z = n := by omega
    refine ⟨g, hg, Nat.le_of_lt fg.fin, ?_⟩
    rw [e1]
    exact nud_n hd fs fg
  · rw [h] at ff
    obtain ⟨g, hg, fg⟩ := (add_nought fe ff).1
    have e1 : R (N + Z) = R n := by
      rw [show N + Z = R n + (N - P) from by omega]
      exact R_stays (R_rep n) h2 h3
    refine ⟨g, hg, Nat.le_of_lt fg.fin, ?_⟩
    rw [← e1] at fs
    rw [show N - P = N + Z - R (N + Z) from by rw [e1]; omega] at fg
    exact nud_n hd fs fg
end Go.Proofs.YthlmlmfebpjgdaaGreatDoor
