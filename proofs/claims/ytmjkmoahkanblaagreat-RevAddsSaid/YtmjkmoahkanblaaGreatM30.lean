/-
Walks: package rev, AddRev, SubRev1, SubRev2.
What the program makes of AddRev, SubRev1, SubRev2 is what chapter 10 says: plain law.
-/
import Derived.Test.YtmjkmoahkanblaaGreatM28
import Derived.Test.YtmjkmoahkanblaaGreatPAddT
import Derived.Test.YtmjkmoahkanblaaGreatM24
set_option linter.unusedSimpArgs false
set_option linter.unusedVariables false

namespace Go.Proofs.YtmjkmoahkanblaaGreat
open Go.RowKit
attribute [local go_sem] run_store_float

theorem Kp.toBl {g0 g1 g2 B : Nat} {w0 w w' : World} (h : Kp g0 g1 g2 w w') (hb : Below B w0 w) (hB : B ≤ w.heap.size) (h0 : B ≤ g0) (h1 : B ≤ g1) (h2 : B ≤ g2) : Below B w0 w' :=
  ⟨h.os.trans hb.os, h.tape.trans hb.tape, h.output.trans hb.output, Nat.le_trans hb.size h.size, fun k hk => (h.block k (by omega) (by omega) (by omega) (by omega)).trans (hb.block k hk)⟩
theorem Kp.hasBk {g0 g1 g2 r n : Nat} {t : TypeId} {w w' : World} (h : Kp g0 g1 g2 w w') (hr : HasBlk w r t n) (h0 : r ≠ g0) (h1 : r ≠ g1) (h2 : r ≠ g2) : HasBlk w' r t n := by
  obtain ⟨cs, a, b⟩ := hr
  exact ⟨cs, (h.block r a.lt h0 h1 h2).trans a, b⟩
theorem Iv.negg {i j : Int} (h : Iv i j) : Iv (-j) (-i) := by
  unfold Iv at *
  rw [M_val] at *
  omega
theorem ad_bounds {d i j : Int} (hd : d = -1 ∨ d = 1) (hi : -(M : Int) ≤ i ∧ i ≤ M) (hj : -(M : Int) ≤ j ∧ j ≤ M) : -(M : Int) ≤ ad d i j ∧ ad d i j ≤ M := by
  unfold ad
  split
  · exact hi
  · split
    · exact hj
    · rcases hd with rfl | rfl
      · have := rndI_down (fl i + fl j); omega
      · have := rndI_up (fl i + fl j); omega
/-- What the program makes of AddRev. -/
def rar (i1 j1 i2 j2 i3 j3 : Int) : Int × Int := if j1 < i1 ∨ j2 < i2 ∨ j3 < i3 then ((M : Int), -(M : Int)) else ct i3 j3 (ad (-1) i2 (-j1)) (ad 1 i2 (-j1)) (ad (-1) j2 (-i1)) (ad 1 j2 (-i1))

set_option maxHeartbeats 6400000 in
theorem revadd_none (b1 b2 c1 c2 x y : Nat) (i1 j1 i2 j2 i3 j3 : Int) (w : World) (hb1 : b1 < 18446744073709551616) (hb2 : b2 < 18446744073709551616) (hc1 : c1 < 18446744073709551616) (hc2 : c2 < 18446744073709551616) (hx : x < 18446744073709551616) (hy : y < 18446744073709551616) (r1 : rd b1 b2 = (i1, j1)) (r2 : rd c1 c2 = (i2, j2)) (r3 : rd x y = (i3, j3)) (hno : j1 < i1 ∨ j2 < i2 ∨ j3 < i3) :
    Calls Tryz.prog 13 #[.agg #[.float .f64 b1, .float .f64 b2], .agg #[.float .f64 c1, .float .f64 c2], .agg #[.float .f64 x, .float .f64 y]] w fun e w' => e = .returned (.agg #[.float .f64 (pat (((M : Int), -(M : Int))).1), .float .f64 (pat (((M : Int), -(M : Int))).2)]) ∧ Below w.heap.size w w' := by
  have v1 := rd_iv b1 b2
  have v2 := rd_iv c1 c2
  have v3 := rd_iv x y
  rw [r1] at v1
  rw [r2] at v2
  rw [r3] at v3
  dsimp only at v1 v2 v3
  have hM : M = 9218868437227405312 := rfl
  have t1 := fun W => readf b1 b2 W hb1 hb2
  have t2 := fun W => readf c1 c2 W hc1 hc2
  have t3 := fun W => readf x y W hx hy
  rw [r1] at t1
  rw [r2] at t2
  rw [r3] at t3
  dsimp only at t1 t2 t3
  have m1 := em_idx v1
  have m2 := em_idx v2
  have m3 := em_idx v3
  have hnn : (decide (j1 < i1) || decide (j2 < i2) || decide (j3 < i3)) = true := by simp; omega
  rw [pat_max, pat_min]
  have HE := Lib.hid emptyf
  obtain ⟨P1, hP1⟩ : ∃ z, pat i1 = z := ⟨_, rfl⟩
  obtain ⟨Q1, hQ1⟩ : ∃ z, pat j1 = z := ⟨_, rfl⟩
  obtain ⟨P2, hP2⟩ : ∃ z, pat i2 = z := ⟨_, rfl⟩
  obtain ⟨Q2, hQ2⟩ : ∃ z, pat j2 = z := ⟨_, rfl⟩
  obtain ⟨P3, hP3⟩ : ∃ z, pat i3 = z := ⟨_, rfl⟩
  obtain ⟨Q3, hQ3⟩ : ∃ z, pat j3 = z := ⟨_, rfl⟩
  rw [hP1, hQ1] at t1 m1
  rw [hP2, hQ2] at t2 m2
  rw [hP3, hQ3] at t3 m3
  have LB0 := Lib.hid (show Below w.heap.size w ((((w.alloc (.cells #[.float .f64 b1, .float .f64 b2] 29)).alloc (.cells #[.float .f64 c1, .float .f64 c2] 29)).alloc (.cells #[.float .f64 x, .float .f64 y] 29)).alloc (.cells #[.float .f64 0, .float .f64 0] 29)) from ((((below_alloc w _).alloc (by simp <;> omega) _).alloc (by simp <;> omega) _).alloc (by simp <;> omega) _))
  have LG0_0 := Lib.hid (((((Blk.at (W := w) (g := w.heap.size) (by simp <;> omega) 29 #[.float .f64 b1, .float .f64 b2]).alloc (.cells #[.float .f64 c1, .float .f64 c2] 29)).alloc (.cells #[.float .f64 x, .float .f64 y] 29)).alloc (.cells #[.float .f64 0, .float .f64 0] 29)))
  have LG1_0 := Lib.hid ((((Blk.at (W := (w.alloc (.cells #[.float .f64 b1, .float .f64 b2] 29))) (g := (w.heap.size + 1)) (by simp <;> omega) 29 #[.float .f64 c1, .float .f64 c2]).alloc (.cells #[.float .f64 x, .float .f64 y] 29)).alloc (.cells #[.float .f64 0, .float .f64 0] 29)))
  have LG2_0 := Lib.hid (((Blk.at (W := ((w.alloc (.cells #[.float .f64 b1, .float .f64 b2] 29)).alloc (.cells #[.float .f64 c1, .float .f64 c2] 29))) (g := (w.heap.size + 2)) (by simp <;> omega) 29 #[.float .f64 x, .float .f64 y]).alloc (.cells #[.float .f64 0, .float .f64 0] 29)))
  have LR0 := Lib.hid (HasBlk.of (n := 2) (Blk.at (W := (((w.alloc (.cells #[.float .f64 b1, .float .f64 b2] 29)).alloc (.cells #[.float .f64 c1, .float .f64 c2] 29)).alloc (.cells #[.float .f64 x, .float .f64 y] 29))) (g := (w.heap.size + 3)) (by simp <;> omega) 29 #[.float .f64 0, .float .f64 0]) rfl rfl)
  have hrow := Blk.at (W := ((((w.alloc (.cells #[.float .f64 b1, .float .f64 b2] 29)).alloc (.cells #[.float .f64 c1, .float .f64 c2] 29)).alloc (.cells #[.float .f64 x, .float .f64 y] 29)).alloc (.cells #[.float .f64 0, .float .f64 0] 29))) (g := w.heap.size + 1 + 1 + 1 + 1) (by simp) 51 #[.pointer (some ⟨w.heap.size, 0, none⟩), .pointer (some ⟨w.heap.size + 1, 0, none⟩), .pointer (some ⟨w.heap.size + 1 + 1, 0, none⟩)]
  have HRD := Lib.hid (read_three b1 b2 c1 c2 x y P1 Q1 P2 Q2 P3 Q3 w.heap.size (w.heap.size + 1) (w.heap.size + 1 + 1) (w.heap.size + 1 + 1 + 1 + 1) 3 _ _ _ _ (by omega) (by omega) (by omega) (by omega) (by omega) (by omega) (hrow.cell 0) (hrow.cell 1) (hrow.cell 2) (LG0_0.out.alloc (.cells #[.pointer (some ⟨w.heap.size, 0, none⟩), .pointer (some ⟨w.heap.size + 1, 0, none⟩), .pointer (some ⟨w.heap.size + 1 + 1, 0, none⟩)] 51)) (LG1_0.out.alloc (.cells #[.pointer (some ⟨w.heap.size, 0, none⟩), .pointer (some ⟨w.heap.size + 1, 0, none⟩), .pointer (some ⟨w.heap.size + 1 + 1, 0, none⟩)] 51)) (LG2_0.out.alloc (.cells #[.pointer (some ⟨w.heap.size, 0, none⟩), .pointer (some ⟨w.heap.size + 1, 0, none⟩), .pointer (some ⟨w.heap.size + 1 + 1, 0, none⟩)] 51)) t1 t2 t3 m1 m2 m3)
  rw [hnn] at HRD
  have LBr := Lib.hid (LB0.out.alloc (by simp <;> omega) (.cells #[.pointer (some ⟨w.heap.size, 0, none⟩), .pointer (some ⟨w.heap.size + 1, 0, none⟩), .pointer (some ⟨w.heap.size + 1 + 1, 0, none⟩)] 51))
  have LRr := Lib.hid (LR0.out.alloc (.cells #[.pointer (some ⟨w.heap.size, 0, none⟩), .pointer (some ⟨w.heap.size + 1, 0, none⟩), .pointer (some ⟨w.heap.size + 1 + 1, 0, none⟩)] 51))
  have hsz : w.heap.size ≤ ((((((w.alloc (.cells #[.float .f64 b1, .float .f64 b2] 29)).alloc (.cells #[.float .f64 c1, .float .f64 c2] 29)).alloc (.cells #[.float .f64 x, .float .f64 y] 29)).alloc (.cells #[.float .f64 0, .float .f64 0] 29))).alloc (.cells #[.pointer (some ⟨w.heap.size, 0, none⟩), .pointer (some ⟨w.heap.size + 1, 0, none⟩), .pointer (some ⟨w.heap.size + 1 + 1, 0, none⟩)] 51)).heap.size := by simp; omega
  have HSZ := Lib.hid hsz
  clear t1 t2 t3 m1 m2 m3 hrow hnn hno v1 v2 v3 hM hsz hP1 hQ1 hP2 hQ2 hP3 hQ3 r1 r2 r3 LB0 LR0 LG0_0 LG1_0 LG2_0
  go_enter Tryz.func13, Tryz.ntmps13
  go_wp2_with fail
  refine HRD.out.mono ?_
  rintro e w1 ⟨rfl, d0, d1, d2, kp⟩
  have LB1 := Lib.hid (kp.toBl LBr.out HSZ.out (Nat.le_refl _) (by omega) (by omega))
  have LR1 := Lib.hid (kp.hasBk LRr.out (by omega) (by omega) (by omega))
  have LG0_1 := Lib.hid (show Blk w1 w.heap.size 29 _ from d0)
  have LG1_1 := Lib.hid (show Blk w1 (w.heap.size + 1) 29 _ from d1)
  have LG2_1 := Lib.hid (show Blk w1 (w.heap.size + 2) 29 _ from d2)
  clear d0 d1 d2 kp LBr LRr HSZ HRD
  go_wp2_with fail
  refine (HE.out _).mono ?_
  rintro e w2 ⟨rfl, hbx⟩
  have LB2 := Lib.hid (LB1.out.trans (hbx.mono LB1.out.size))
  have LR2 := Lib.hid (LR1.out.keep hbx)
  have LG0_2 := Lib.hid (LG0_1.out.keep hbx)
  have LG1_2 := Lib.hid (LG1_1.out.keep hbx)
  have LG2_2 := Lib.hid (LG2_1.out.keep hbx)
  clear LB1 LR1 LG0_1 LG1_1 LG2_1
  clear hbx
  have ha0 := LR2.out.someCell 0 (by decide)
  have hf0 := LR2.out.frozen 0
  have ha1 := LR2.out.someCell 1 (by decide)
  have hf1 := LR2.out.frozen 1
  have hk0 := LR2.out.setCell [.float .f64 9218868437227405312, .float .f64 18442240474082181120] rfl 0 (by decide)
  have hk1 := LR2.out.setCell [.float .f64 9218868437227405312, .float .f64 18442240474082181120] rfl 1 (by decide)
  have F := Lib.hid (below_sets (w0 := w) (r := (w.heap.size + 3)) (by omega) [.float .f64 9218868437227405312, .float .f64 18442240474082181120] 0 _ LB2.out)
  simp [sets] at hk0 hk1
  go_wp2
  refine bodyPost_ret (v := .agg #[.float .f64 9218868437227405312, .float .f64 18442240474082181120]) (by simp [results, Tryz.results13, go_sem, hk0, hk1]) rfl ?_
  exact ⟨rfl, F.out⟩

set_option maxHeartbeats 6400000 in
theorem revadd_some (b1 b2 c1 c2 x y : Nat) (i1 j1 i2 j2 i3 j3 : Int) (w : World) (hb1 : b1 < 18446744073709551616) (hb2 : b2 < 18446744073709551616) (hc1 : c1 < 18446744073709551616) (hc2 : c2 < 18446744073709551616) (hx : x < 18446744073709551616) (hy : y < 18446744073709551616) (r1 : rd b1 b2 = (i1, j1)) (r2 : rd c1 c2 = (i2, j2)) (r3 : rd x y = (i3, j3)) (hno : ¬ (j1 < i1 ∨ j2 < i2 ∨ j3 < i3)) :
    Calls Tryz.prog 13 #[.agg #[.float .f64 b1, .float .f64 b2], .agg #[.float .f64 c1, .float .f64 c2], .agg #[.float .f64 x, .float .f64 y]] w fun e w' => e = .returned (.agg #[.float .f64 (pat (ct i3 j3 (ad (-1) i2 (-j1)) (ad 1 i2 (-j1)) (ad (-1) j2 (-i1)) (ad 1 j2 (-i1))).1), .float .f64 (pat (ct i3 j3 (ad (-1) i2 (-j1)) (ad 1 i2 (-j1)) (ad (-1) j2 (-i1)) (ad 1 j2 (-i1))).2)]) ∧ Below w.heap.size w w' := by
  have v1 := rd_iv b1 b2
  have v2 := rd_iv c1 c2
  have v3 := rd_iv x y
  rw [r1] at v1
  rw [r2] at v2
  rw [r3] at v3
  dsimp only at v1 v2 v3
  have hM : M = 9218868437227405312 := rfl
  have t1 := fun W => readf b1 b2 W hb1 hb2
  have t2 := fun W => readf c1 c2 W hc1 hc2
  have t3 := fun W => readf x y W hx hy
  rw [r1] at t1
  rw [r2] at t2
  rw [r3] at t3
  dsimp only at t1 t2 t3
  have m1 := em_idx v1
  have m2 := em_idx v2
  have m3 := em_idx v3
  have hnn : (decide (j1 < i1) || decide (j2 < i2) || decide (j3 < i3)) = false := by simp; omega
  have n1 : NoCl i2 (-j1) := by unfold NoCl; unfold Iv at v1 v2; omega
  have n2 : NoCl j2 (-i1) := by unfold NoCl; unfold Iv at v1 v2; omega
  have g1 : -(M : Int) ≤ -j1 ∧ -j1 ≤ M := by have := v1.hi; omega
  have g2 : -(M : Int) ≤ -i1 ∧ -i1 ≤ M := by have := v1.lo; omega
  have HS1 := Lib.hid fun W => rsub_pat (-1) i2 j1 W (.inl rfl) v2.lo v1.hi n1
  have HS2 := Lib.hid fun W => rsub_pat 1 i2 j1 W (.inr rfl) v2.lo v1.hi n1
  have HS3 := Lib.hid fun W => rsub_pat (-1) j2 i1 W (.inl rfl) v2.hi v1.lo n2
  have HS4 := Lib.hid fun W => rsub_pat 1 j2 i1 W (.inr rfl) v2.hi v1.lo n2
  have HC := Lib.hid fun W => rcut_any i3 j3 _ _ _ _ W v3.lo v3.hi (ad_bounds (.inl rfl) v2.lo g1) (ad_bounds (.inr rfl) v2.lo g1) (ad_bounds (.inl rfl) v2.hi g2) (ad_bounds (.inr rfl) v2.hi g2)
  clear n1 n2 g1 g2
  obtain ⟨z1, hz1⟩ : ∃ z, pat (ct i3 j3 (ad (-1) i2 (-j1)) (ad 1 i2 (-j1)) (ad (-1) j2 (-i1)) (ad 1 j2 (-i1))).1 = z := ⟨_, rfl⟩
  obtain ⟨z2, hz2⟩ : ∃ z, pat (ct i3 j3 (ad (-1) i2 (-j1)) (ad 1 i2 (-j1)) (ad (-1) j2 (-i1)) (ad 1 j2 (-i1))).2 = z := ⟨_, rfl⟩
  rw [hz1, hz2] at HC ⊢
  clear hz1 hz2
  obtain ⟨A1, hA1⟩ : ∃ z, pat (ad (-1) i2 (-j1)) = z := ⟨_, rfl⟩
  obtain ⟨A2, hA2⟩ : ∃ z, pat (ad 1 i2 (-j1)) = z := ⟨_, rfl⟩
  obtain ⟨A3, hA3⟩ : ∃ z, pat (ad (-1) j2 (-i1)) = z := ⟨_, rfl⟩
  obtain ⟨A4, hA4⟩ : ∃ z, pat (ad 1 j2 (-i1)) = z := ⟨_, rfl⟩
  rw [hA1] at HS1 HC
  rw [hA2] at HS2 HC
  rw [hA3] at HS3 HC
  rw [hA4] at HS4 HC
  clear hA1 hA2 hA3 hA4
  obtain ⟨P1, hP1⟩ : ∃ z, pat i1 = z := ⟨_, rfl⟩
  obtain ⟨Q1, hQ1⟩ : ∃ z, pat j1 = z := ⟨_, rfl⟩
  obtain ⟨P2, hP2⟩ : ∃ z, pat i2 = z := ⟨_, rfl⟩
  obtain ⟨Q2, hQ2⟩ : ∃ z, pat j2 = z := ⟨_, rfl⟩
  obtain ⟨P3, hP3⟩ : ∃ z, pat i3 = z := ⟨_, rfl⟩
  obtain ⟨Q3, hQ3⟩ : ∃ z, pat j3 = z := ⟨_, rfl⟩
  rw [hP1, hQ1] at t1 m1
  rw [hP2, hQ2] at t2 m2
  rw [hP3, hQ3] at t3 m3
  rw [hP2, hQ1] at HS1 HS2
  rw [hQ2, hP1] at HS3 HS4
  rw [hP3, hQ3] at HC
  have LB0 := Lib.hid (show Below w.heap.size w ((((w.alloc (.cells #[.float .f64 b1, .float .f64 b2] 29)).alloc (.cells #[.float .f64 c1, .float .f64 c2] 29)).alloc (.cells #[.float .f64 x, .float .f64 y] 29)).alloc (.cells #[.float .f64 0, .float .f64 0] 29)) from ((((below_alloc w _).alloc (by simp <;> omega) _).alloc (by simp <;> omega) _).alloc (by simp <;> omega) _))
  have LG0_0 := Lib.hid (((((Blk.at (W := w) (g := w.heap.size) (by simp <;> omega) 29 #[.float .f64 b1, .float .f64 b2]).alloc (.cells #[.float .f64 c1, .float .f64 c2] 29)).alloc (.cells #[.float .f64 x, .float .f64 y] 29)).alloc (.cells #[.float .f64 0, .float .f64 0] 29)))
  have LG1_0 := Lib.hid ((((Blk.at (W := (w.alloc (.cells #[.float .f64 b1, .float .f64 b2] 29))) (g := (w.heap.size + 1)) (by simp <;> omega) 29 #[.float .f64 c1, .float .f64 c2]).alloc (.cells #[.float .f64 x, .float .f64 y] 29)).alloc (.cells #[.float .f64 0, .float .f64 0] 29)))
  have LG2_0 := Lib.hid (((Blk.at (W := ((w.alloc (.cells #[.float .f64 b1, .float .f64 b2] 29)).alloc (.cells #[.float .f64 c1, .float .f64 c2] 29))) (g := (w.heap.size + 2)) (by simp <;> omega) 29 #[.float .f64 x, .float .f64 y]).alloc (.cells #[.float .f64 0, .float .f64 0] 29)))
  have LR0 := Lib.hid (HasBlk.of (n := 2) (Blk.at (W := (((w.alloc (.cells #[.float .f64 b1, .float .f64 b2] 29)).alloc (.cells #[.float .f64 c1, .float .f64 c2] 29)).alloc (.cells #[.float .f64 x, .float .f64 y] 29))) (g := (w.heap.size + 3)) (by simp <;> omega) 29 #[.float .f64 0, .float .f64 0]) rfl rfl)
  have hrow := Blk.at (W := ((((w.alloc (.cells #[.float .f64 b1, .float .f64 b2] 29)).alloc (.cells #[.float .f64 c1, .float .f64 c2] 29)).alloc (.cells #[.float .f64 x, .float .f64 y] 29)).alloc (.cells #[.float .f64 0, .float .f64 0] 29))) (g := w.heap.size + 1 + 1 + 1 + 1) (by simp) 51 #[.pointer (some ⟨w.heap.size, 0, none⟩), .pointer (some ⟨w.heap.size + 1, 0, none⟩), .pointer (some ⟨w.heap.size + 1 + 1, 0, none⟩)]
  have HRD := Lib.hid (read_three b1 b2 c1 c2 x y P1 Q1 P2 Q2 P3 Q3 w.heap.size (w.heap.size + 1) (w.heap.size + 1 + 1) (w.heap.size + 1 + 1 + 1 + 1) 3 _ _ _ _ (by omega) (by omega) (by omega) (by omega) (by omega) (by omega) (hrow.cell 0) (hrow.cell 1) (hrow.cell 2) (LG0_0.out.alloc (.cells #[.pointer (some ⟨w.heap.size, 0, none⟩), .pointer (some ⟨w.heap.size + 1, 0, none⟩), .pointer (some ⟨w.heap.size + 1 + 1, 0, none⟩)] 51)) (LG1_0.out.alloc (.cells #[.pointer (some ⟨w.heap.size, 0, none⟩), .pointer (some ⟨w.heap.size + 1, 0, none⟩), .pointer (some ⟨w.heap.size + 1 + 1, 0, none⟩)] 51)) (LG2_0.out.alloc (.cells #[.pointer (some ⟨w.heap.size, 0, none⟩), .pointer (some ⟨w.heap.size + 1, 0, none⟩), .pointer (some ⟨w.heap.size + 1 + 1, 0, none⟩)] 51)) t1 t2 t3 m1 m2 m3)
  rw [hnn] at HRD
  have LBr := Lib.hid (LB0.out.alloc (by simp <;> omega) (.cells #[.pointer (some ⟨w.heap.size, 0, none⟩), .pointer (some ⟨w.heap.size + 1, 0, none⟩), .pointer (some ⟨w.heap.size + 1 + 1, 0, none⟩)] 51))
  have LRr := Lib.hid (LR0.out.alloc (.cells #[.pointer (some ⟨w.heap.size, 0, none⟩), .pointer (some ⟨w.heap.size + 1, 0, none⟩), .pointer (some ⟨w.heap.size + 1 + 1, 0, none⟩)] 51))
  have hsz : w.heap.size ≤ ((((((w.alloc (.cells #[.float .f64 b1, .float .f64 b2] 29)).alloc (.cells #[.float .f64 c1, .float .f64 c2] 29)).alloc (.cells #[.float .f64 x, .float .f64 y] 29)).alloc (.cells #[.float .f64 0, .float .f64 0] 29))).alloc (.cells #[.pointer (some ⟨w.heap.size, 0, none⟩), .pointer (some ⟨w.heap.size + 1, 0, none⟩), .pointer (some ⟨w.heap.size + 1 + 1, 0, none⟩)] 51)).heap.size := by simp; omega
  have HSZ := Lib.hid hsz
  clear t1 t2 t3 m1 m2 m3 hrow hnn hno v1 v2 v3 hM hsz hP1 hQ1 hP2 hQ2 hP3 hQ3 r1 r2 r3 LB0 LR0 LG0_0 LG1_0 LG2_0
  go_enter Tryz.func13, Tryz.ntmps13
  go_wp2_with fail
  refine HRD.out.mono ?_
  rintro e w1 ⟨rfl, d0, d1, d2, kp⟩
  have LB1 := Lib.hid (kp.toBl LBr.out HSZ.out (Nat.le_refl _) (by omega) (by omega))
  have LR1 := Lib.hid (kp.hasBk LRr.out (by omega) (by omega) (by omega))
  have LG0_1 := Lib.hid (show Blk w1 w.heap.size 29 _ from d0)
  have LG1_1 := Lib.hid (show Blk w1 (w.heap.size + 1) 29 _ from d1)
  have LG2_1 := Lib.hid (show Blk w1 (w.heap.size + 2) 29 _ from d2)
  clear d0 d1 d2 kp LBr LRr HSZ HRD
  go_wp2_with fail
  refine wp_region_held_drew (S := fun W' => Blk W' w.heap.size 29 #[.float .f64 P1, .float .f64 Q1] ∧ Blk W' (w.heap.size + 1) 29 #[.float .f64 P2, .float .f64 Q2] ∧ Blk W' (w.heap.size + 2) 29 #[.float .f64 P3, .float .f64 Q3] ∧ HasBlk W' (w.heap.size + 3) 29 2 ∧ Below w.heap.size w W') (by kernel_rfl) (by exact ⟨LG0_1.out.drew, LG1_1.out.drew, LG2_1.out.drew, LR1.out.drew, LB1.out.drew⟩) (fun hHeld => ?_)
  refine wpAnyH_take (i := 0) (v := ?_) rfl (by kernel_rfl) (by kernel_rfl) (by kernel_rfl) (fun _ _ _ h => h) (Or.inl ⟨by rfl, ?_⟩) (by assumption) ?_
  rotate_left
  · (intro W2 hSw; (try dsimp only at hSw); have q0 : _ = some (.float .f64 P3 : Value) := hSw.2.2.1.cell 0; have q1 : _ = some (.float .f64 Q3 : Value) := hSw.2.2.1.cell 1; go_simp; (try with_reducible rfl))
  try simp only [Act.put, List.getElem_toArray, List.getElem_cons_succ, List.getElem_cons_zero, List.setIfInBounds_toArray, List.set_cons_zero, List.set_cons_succ]
  refine wpAnyH_take (i := 1) (v := ?_) rfl (by kernel_rfl) (by kernel_rfl) (by kernel_rfl) (fun _ _ _ h => h) (Or.inl ⟨by rfl, ?_⟩) (by assumption) ?_
  rotate_left
  · (intro W2 hSw; go_simp; (try with_reducible rfl))
  try simp only [Act.put, List.getElem_toArray, List.getElem_cons_succ, List.getElem_cons_zero, List.setIfInBounds_toArray, List.set_cons_zero, List.set_cons_succ]
  refine wpAnyH_take (i := 2) (v := ?_) rfl (by kernel_rfl) (by kernel_rfl) (by kernel_rfl) (fun _ _ _ h => h) (Or.inl ⟨by rfl, ?_⟩) (by assumption) ?_
  rotate_left
  · (intro W2 hSw; (try dsimp only at hSw); have q0 : _ = some (.float .f64 P2 : Value) := hSw.2.1.cell 0; have q1 : _ = some (.float .f64 Q2 : Value) := hSw.2.1.cell 1; go_simp; (try with_reducible rfl))
  try simp only [Act.put, List.getElem_toArray, List.getElem_cons_succ, List.getElem_cons_zero, List.setIfInBounds_toArray, List.set_cons_zero, List.set_cons_succ]
  refine wpAnyH_take (i := 3) (v := ?_) rfl (by kernel_rfl) (by kernel_rfl) (by kernel_rfl) (fun _ _ _ h => h) (Or.inl ⟨by rfl, ?_⟩) (by assumption) ?_
  rotate_left
  · (intro W2 hSw; go_simp; (try with_reducible rfl))
  try simp only [Act.put, List.getElem_toArray, List.getElem_cons_succ, List.getElem_cons_zero, List.setIfInBounds_toArray, List.set_cons_zero, List.set_cons_succ]
  refine wpAnyH_take (i := 4) (v := ?_) rfl (by kernel_rfl) (by kernel_rfl) (by kernel_rfl) (fun _ _ _ h => h) (Or.inl ⟨by rfl, ?_⟩) (by assumption) ?_
  rotate_left
  · (intro W2 hSw; (try dsimp only at hSw); have q0 : _ = some (.float .f64 P1 : Value) := hSw.1.cell 0; have q1 : _ = some (.float .f64 Q1 : Value) := hSw.1.cell 1; go_simp; (try with_reducible rfl))
  try simp only [Act.put, List.getElem_toArray, List.getElem_cons_succ, List.getElem_cons_zero, List.setIfInBounds_toArray, List.set_cons_zero, List.set_cons_succ]
  refine wpAnyH_take (i := 6) (v := ?_) rfl (by kernel_rfl) (by kernel_rfl) (by kernel_rfl) (fun _ _ _ h => h) (Or.inl ⟨by rfl, ?_⟩) (by assumption) ?_
  rotate_left
  · (intro W2 hSw; go_simp; (try with_reducible rfl))
  try simp only [Act.put, List.getElem_toArray, List.getElem_cons_succ, List.getElem_cons_zero, List.setIfInBounds_toArray, List.set_cons_zero, List.set_cons_succ]
  refine wpAnyH_take (i := 7) (v := ?_) rfl (by kernel_rfl) (by kernel_rfl) (by kernel_rfl) (fun _ _ _ h => h) (Or.inl ⟨by rfl, ?_⟩) (by assumption) ?_
  rotate_left
  · (intro W2 hSw; (try dsimp only at hSw); have q0 : _ = some (.float .f64 P2 : Value) := hSw.2.1.cell 0; have q1 : _ = some (.float .f64 Q2 : Value) := hSw.2.1.cell 1; go_simp; (try with_reducible rfl))
  try simp only [Act.put, List.getElem_toArray, List.getElem_cons_succ, List.getElem_cons_zero, List.setIfInBounds_toArray, List.set_cons_zero, List.set_cons_succ]
  refine wpAnyH_take (i := 8) (v := ?_) rfl (by kernel_rfl) (by kernel_rfl) (by kernel_rfl) (fun _ _ _ h => h) (Or.inl ⟨by rfl, ?_⟩) (by assumption) ?_
  rotate_left
  · (intro W2 hSw; go_simp; (try with_reducible rfl))
  try simp only [Act.put, List.getElem_toArray, List.getElem_cons_succ, List.getElem_cons_zero, List.setIfInBounds_toArray, List.set_cons_zero, List.set_cons_succ]
  refine wpAnyH_take (i := 9) (v := ?_) rfl (by kernel_rfl) (by kernel_rfl) (by kernel_rfl) (fun _ _ _ h => h) (Or.inl ⟨by rfl, ?_⟩) (by assumption) ?_
  rotate_left
  · (intro W2 hSw; (try dsimp only at hSw); have q0 : _ = some (.float .f64 P1 : Value) := hSw.1.cell 0; have q1 : _ = some (.float .f64 Q1 : Value) := hSw.1.cell 1; go_simp; (try with_reducible rfl))
  try simp only [Act.put, List.getElem_toArray, List.getElem_cons_succ, List.getElem_cons_zero, List.setIfInBounds_toArray, List.set_cons_zero, List.set_cons_succ]
  refine wpAnyH_take (i := 12) (v := ?_) rfl (by kernel_rfl) (by kernel_rfl) (by kernel_rfl) (fun _ _ _ h => h) (Or.inl ⟨by rfl, ?_⟩) (by assumption) ?_
  rotate_left
  · (intro W2 hSw; go_simp; (try with_reducible rfl))
  try simp only [Act.put, List.getElem_toArray, List.getElem_cons_succ, List.getElem_cons_zero, List.setIfInBounds_toArray, List.set_cons_zero, List.set_cons_succ]
  refine wpAnyH_take (i := 13) (v := ?_) rfl (by kernel_rfl) (by kernel_rfl) (by kernel_rfl) (fun _ _ _ h => h) (Or.inl ⟨by rfl, ?_⟩) (by assumption) ?_
  rotate_left
  · (intro W2 hSw; (try dsimp only at hSw); have q0 : _ = some (.float .f64 P2 : Value) := hSw.2.1.cell 0; have q1 : _ = some (.float .f64 Q2 : Value) := hSw.2.1.cell 1; go_simp; (try with_reducible rfl))
  try simp only [Act.put, List.getElem_toArray, List.getElem_cons_succ, List.getElem_cons_zero, List.setIfInBounds_toArray, List.set_cons_zero, List.set_cons_succ]
  refine wpAnyH_take (i := 14) (v := ?_) rfl (by kernel_rfl) (by kernel_rfl) (by kernel_rfl) (fun _ _ _ h => h) (Or.inl ⟨by rfl, ?_⟩) (by assumption) ?_
  rotate_left
  · (intro W2 hSw; go_simp; (try with_reducible rfl))
  try simp only [Act.put, List.getElem_toArray, List.getElem_cons_succ, List.getElem_cons_zero, List.setIfInBounds_toArray, List.set_cons_zero, List.set_cons_succ]
  refine wpAnyH_take (i := 15) (v := ?_) rfl (by kernel_rfl) (by kernel_rfl) (by kernel_rfl) (fun _ _ _ h => h) (Or.inl ⟨by rfl, ?_⟩) (by assumption) ?_
  rotate_left
  · (intro W2 hSw; (try dsimp only at hSw); have q0 : _ = some (.float .f64 P1 : Value) := hSw.1.cell 0; have q1 : _ = some (.float .f64 Q1 : Value) := hSw.1.cell 1; go_simp; (try with_reducible rfl))
  try simp only [Act.put, List.getElem_toArray, List.getElem_cons_succ, List.getElem_cons_zero, List.setIfInBounds_toArray, List.set_cons_zero, List.set_cons_succ]
  refine wpAnyH_take (i := 17) (v := ?_) rfl (by kernel_rfl) (by kernel_rfl) (by kernel_rfl) (fun _ _ _ h => h) (Or.inl ⟨by rfl, ?_⟩) (by assumption) ?_
  rotate_left
  · (intro W2 hSw; go_simp; (try with_reducible rfl))
  try simp only [Act.put, List.getElem_toArray, List.getElem_cons_succ, List.getElem_cons_zero, List.setIfInBounds_toArray, List.set_cons_zero, List.set_cons_succ]
  refine wpAnyH_take (i := 18) (v := ?_) rfl (by kernel_rfl) (by kernel_rfl) (by kernel_rfl) (fun _ _ _ h => h) (Or.inl ⟨by rfl, ?_⟩) (by assumption) ?_
  rotate_left
  · (intro W2 hSw; (try dsimp only at hSw); have q0 : _ = some (.float .f64 P2 : Value) := hSw.2.1.cell 0; have q1 : _ = some (.float .f64 Q2 : Value) := hSw.2.1.cell 1; go_simp; (try with_reducible rfl))
  try simp only [Act.put, List.getElem_toArray, List.getElem_cons_succ, List.getElem_cons_zero, List.setIfInBounds_toArray, List.set_cons_zero, List.set_cons_succ]
  refine wpAnyH_take (i := 19) (v := ?_) rfl (by kernel_rfl) (by kernel_rfl) (by kernel_rfl) (fun _ _ _ h => h) (Or.inl ⟨by rfl, ?_⟩) (by assumption) ?_
  rotate_left
  · (intro W2 hSw; go_simp; (try with_reducible rfl))
  try simp only [Act.put, List.getElem_toArray, List.getElem_cons_succ, List.getElem_cons_zero, List.setIfInBounds_toArray, List.set_cons_zero, List.set_cons_succ]
  refine wpAnyH_take (i := 20) (v := ?_) rfl (by kernel_rfl) (by kernel_rfl) (by kernel_rfl) (fun _ _ _ h => h) (Or.inl ⟨by rfl, ?_⟩) (by assumption) ?_
  rotate_left
  · (intro W2 hSw; (try dsimp only at hSw); have q0 : _ = some (.float .f64 P1 : Value) := hSw.1.cell 0; have q1 : _ = some (.float .f64 Q1 : Value) := hSw.1.cell 1; go_simp; (try with_reducible rfl))
  try simp only [Act.put, List.getElem_toArray, List.getElem_cons_succ, List.getElem_cons_zero, List.setIfInBounds_toArray, List.set_cons_zero, List.set_cons_succ]
  refine wpAnyH_ready (rs := [5]) (by kernel_rfl) (by simp) ?_
  refine AllReadyH.cons rfl (fun KK hKK => ?_) AllReadyH.nil
  go_simp
  refine (HS1.out _).mono ?_
  rintro e w2 ⟨rfl, hbA⟩
  go_wp2_with fail
  refine hKK.out _ _ (⟨hHeld.1.keep hbA, hHeld.2.1.keep hbA, hHeld.2.2.1.keep hbA, hHeld.2.2.2.1.keep hbA, hHeld.2.2.2.2.trans (hbA.mono hHeld.2.2.2.2.size)⟩) (fun _ => ?_)
  clear hKK KK hHeld; rename_i hHeld
  try simp only [Act.put, List.getElem_toArray, List.getElem_cons_succ, List.getElem_cons_zero, List.setIfInBounds_toArray, List.set_cons_zero, List.set_cons_succ]
  refine wpAnyH_ready (rs := [10]) (by kernel_rfl) (by simp) ?_
  refine AllReadyH.cons rfl (fun KK hKK => ?_) AllReadyH.nil
  go_simp
  refine (HS2.out _).mono ?_
  rintro e w3 ⟨rfl, hbB⟩
  go_wp2_with fail
  refine hKK.out _ _ (⟨hHeld.1.keep hbB, hHeld.2.1.keep hbB, hHeld.2.2.1.keep hbB, hHeld.2.2.2.1.keep hbB, hHeld.2.2.2.2.trans (hbB.mono hHeld.2.2.2.2.size)⟩) (fun _ => ?_)
  clear hKK KK hHeld; rename_i hHeld
  try simp only [Act.put, List.getElem_toArray, List.getElem_cons_succ, List.getElem_cons_zero, List.setIfInBounds_toArray, List.set_cons_zero, List.set_cons_succ]
  refine wpAnyH_take (i := 11) (v := ?_) rfl (by kernel_rfl) (by kernel_rfl) (by kernel_rfl) (fun _ _ _ h => h) (Or.inl ⟨by rfl, ?_⟩) (by assumption) ?_
  rotate_left
  · (intro W2 hSw; go_simp; (try with_reducible rfl))
  try simp only [Act.put, List.getElem_toArray, List.getElem_cons_succ, List.getElem_cons_zero, List.setIfInBounds_toArray, List.set_cons_zero, List.set_cons_succ]
  refine wpAnyH_ready (rs := [16]) (by kernel_rfl) (by simp) ?_
  refine AllReadyH.cons rfl (fun KK hKK => ?_) AllReadyH.nil
  go_simp
  refine (HS3.out _).mono ?_
  rintro e w4 ⟨rfl, hbC⟩
  go_wp2_with fail
  refine hKK.out _ _ (⟨hHeld.1.keep hbC, hHeld.2.1.keep hbC, hHeld.2.2.1.keep hbC, hHeld.2.2.2.1.keep hbC, hHeld.2.2.2.2.trans (hbC.mono hHeld.2.2.2.2.size)⟩) (fun _ => ?_)
  clear hKK KK hHeld; rename_i hHeld
  try simp only [Act.put, List.getElem_toArray, List.getElem_cons_succ, List.getElem_cons_zero, List.setIfInBounds_toArray, List.set_cons_zero, List.set_cons_succ]
  refine wpAnyH_ready (rs := [21]) (by kernel_rfl) (by simp) ?_
  refine AllReadyH.cons rfl (fun KK hKK => ?_) AllReadyH.nil
  go_simp
  refine (HS4.out _).mono ?_
  rintro e w5 ⟨rfl, hbD⟩
  go_wp2_with fail
  refine hKK.out _ _ (⟨hHeld.1.keep hbD, hHeld.2.1.keep hbD, hHeld.2.2.1.keep hbD, hHeld.2.2.2.1.keep hbD, hHeld.2.2.2.2.trans (hbD.mono hHeld.2.2.2.2.size)⟩) (fun _ => ?_)
  clear hKK KK hHeld; rename_i hHeld
  try simp only [Act.put, List.getElem_toArray, List.getElem_cons_succ, List.getElem_cons_zero, List.setIfInBounds_toArray, List.set_cons_zero, List.set_cons_succ]
  refine wpAnyH_take (i := 22) (v := ?_) rfl (by kernel_rfl) (by kernel_rfl) (by kernel_rfl) (fun _ _ _ h => h) (Or.inl ⟨by rfl, ?_⟩) (by assumption) ?_
  rotate_left
  · (intro W2 hSw; go_simp; (try with_reducible rfl))
  try simp only [Act.put, List.getElem_toArray, List.getElem_cons_succ, List.getElem_cons_zero, List.setIfInBounds_toArray, List.set_cons_zero, List.set_cons_succ]
  refine wpAnyH_ready (rs := [23]) (by kernel_rfl) (by simp) ?_
  refine AllReadyH.cons rfl (fun KK hKK => ?_) AllReadyH.nil
  go_simp
  refine (HC.out _).mono ?_
  rintro e w6 ⟨rfl, hbE⟩
  go_wp2_with fail
  refine hKK.out _ _ (⟨hHeld.1.keep hbE, hHeld.2.1.keep hbE, hHeld.2.2.1.keep hbE, hHeld.2.2.2.1.keep hbE, hHeld.2.2.2.2.trans (hbE.mono hHeld.2.2.2.2.size)⟩) (fun _ => ?_)
  clear hKK KK hHeld; rename_i hHeld
  try simp only [Act.put, List.getElem_toArray, List.getElem_cons_succ, List.getElem_cons_zero, List.setIfInBounds_toArray, List.set_cons_zero, List.set_cons_succ]
  refine wpAnyH_ready (rs := [24]) (by kernel_rfl) (by simp) ?_
  refine AllReadyH.cons rfl (fun KK hKK => ?_) AllReadyH.nil
  have ha0 := hHeld.2.2.2.1.someCell 0 (by decide); have hf0 := hHeld.2.2.2.1.frozen 0; have ha1 := hHeld.2.2.2.1.someCell 1 (by decide); have hf1 := hHeld.2.2.2.1.frozen 1; have HK := Lib.hid (hHeld.2.2.2.1.setCell [.float .f64 z1, .float .f64 z2] rfl); have F := Lib.hid (below_sets (w0 := w) (r := (w.heap.size + 3)) (by omega) [.float .f64 z1, .float .f64 z2] 0 _ hHeld.2.2.2.2)
  go_simp
  refine hKK.out _ _ (⟨hHeld.1.other (by omega) 0 [.float .f64 z1, .float .f64 z2], hHeld.2.1.other (by omega) 0 [.float .f64 z1, .float .f64 z2], hHeld.2.2.1.other (by omega) 0 [.float .f64 z1, .float .f64 z2], hHeld.2.2.2.1.sets [.float .f64 z1, .float .f64 z2] rfl rfl, below_sets (by omega) [.float .f64 z1, .float .f64 z2] 0 _ hHeld.2.2.2.2⟩) (fun _ => ?_)
  clear hKK KK hHeld; rename_i hHeld
  try simp only [Act.put, List.getElem_toArray, List.getElem_cons_succ, List.getElem_cons_zero, List.setIfInBounds_toArray, List.set_cons_zero, List.set_cons_succ]
  refine wpAnyH_done (by kernel_rfl) ?_ _
  have hk0 := HK.out 0 (by decide)
  have hk1 := HK.out 1 (by decide)
  simp [sets] at hk0 hk1
  clear hHeld HK hbA hbB hbC hbD hbE
  clear LB1 LR1 LG0_1 LG1_1 LG2_1
  go_wp2
  refine bodyPost_ret (v := .agg #[.float .f64 z1, .float .f64 z2]) (by simp [results, Tryz.results13, go_sem, hk0, hk1]) rfl ?_
  exact ⟨rfl, F.out⟩

theorem revadd_any (b1 b2 c1 c2 x y : Nat) (w : World) (hb1 : b1 < 18446744073709551616) (hb2 : b2 < 18446744073709551616) (hc1 : c1 < 18446744073709551616) (hc2 : c2 < 18446744073709551616) (hx : x < 18446744073709551616) (hy : y < 18446744073709551616) :
    Calls Tryz.prog 13 #[.agg #[.float .f64 b1, .float .f64 b2], .agg #[.float .f64 c1, .float .f64 c2], .agg #[.float .f64 x, .float .f64 y]] w fun e w' => e = .returned (.agg #[.float .f64 (pat (rar (rd b1 b2).1 (rd b1 b2).2 (rd c1 c2).1 (rd c1 c2).2 (rd x y).1 (rd x y).2).1), .float .f64 (pat (rar (rd b1 b2).1 (rd b1 b2).2 (rd c1 c2).1 (rd c1 c2).2 (rd x y).1 (rd x y).2).2)]) ∧ Below w.heap.size w w' := by
  unfold rar
  by_cases hno : (rd b1 b2).2 < (rd b1 b2).1 ∨ (rd c1 c2).2 < (rd c1 c2).1 ∨ (rd x y).2 < (rd x y).1
  · rw [if_pos hno]
    exact revadd_none b1 b2 c1 c2 x y _ _ _ _ _ _ w hb1 hb2 hc1 hc2 hx hy rfl rfl rfl hno
  · rw [if_neg hno]
    exact revadd_some b1 b2 c1 c2 x y _ _ _ _ _ _ w hb1 hb2 hc1 hc2 hx hy rfl rfl rfl hno
theorem revadd_idx (i1 j1 i2 j2 : Int) (x y : Nat) (w : World) (hb : Iv i1 j1) (hc : Iv i2 j2) (hx : x < 18446744073709551616) (hy : y < 18446744073709551616) :
    Calls Tryz.prog 13 #[.agg #[.float .f64 (pat i1), .float .f64 (pat j1)], .agg #[.float .f64 (pat i2), .float .f64 (pat j2)], .agg #[.float .f64 x, .float .f64 y]] w fun e w' => e = .returned (.agg #[.float .f64 (pat (rar i1 j1 i2 j2 (rd x y).1 (rd x y).2).1), .float .f64 (pat (rar i1 j1 i2 j2 (rd x y).1 (rd x y).2).2)]) ∧ Below w.heap.size w w' := by
  have h := revadd_any (pat i1) (pat j1) (pat i2) (pat j2) x y w (pat_lt hb.lo.1 hb.lo.2) (pat_lt hb.hi.1 hb.hi.2) (pat_lt hc.lo.1 hc.lo.2) (pat_lt hc.hi.1 hc.hi.2) hx hy
  rw [rd_pat hb, rd_pat hc] at h
  exact h

set_option maxHeartbeats 6400000 in
theorem revsub1_any (b1 b2 c1 c2 x y : Nat) (w : World) (hb1 : b1 < 18446744073709551616) (hb2 : b2 < 18446744073709551616) (hc1 : c1 < 18446744073709551616) (hc2 : c2 < 18446744073709551616) (hx : x < 18446744073709551616) (hy : y < 18446744073709551616) :
    Calls Tryz.prog 15 #[.agg #[.float .f64 b1, .float .f64 b2], .agg #[.float .f64 c1, .float .f64 c2], .agg #[.float .f64 x, .float .f64 y]] w fun e w' => e = .returned (.agg #[.float .f64 (pat (rar (-(rd b1 b2).2) (-(rd b1 b2).1) (rd c1 c2).1 (rd c1 c2).2 (rd x y).1 (rd x y).2).1), .float .f64 (pat (rar (-(rd b1 b2).2) (-(rd b1 b2).1) (rd c1 c2).1 (rd c1 c2).2 (rd x y).1 (rd x y).2).2)]) ∧ Below w.heap.size w w' := by
  have HN1 := Lib.hid fun W => mirrorf b1 b2 W hb1 hb2
  have h := fun W => revadd_any (pat (-(rd b1 b2).2)) (pat (-(rd b1 b2).1)) c1 c2 x y W (pat_lt (rd_iv b1 b2).negg.lo.1 (rd_iv b1 b2).negg.lo.2) (pat_lt (rd_iv b1 b2).negg.hi.1 (rd_iv b1 b2).negg.hi.2) hc1 hc2 hx hy
  rw [rd_pat (rd_iv b1 b2).negg] at h
  have HM := Lib.hid h
  clear h
  obtain ⟨z1, hz1⟩ : ∃ z, pat (rar (-(rd b1 b2).2) (-(rd b1 b2).1) (rd c1 c2).1 (rd c1 c2).2 (rd x y).1 (rd x y).2).1 = z := ⟨_, rfl⟩
  obtain ⟨z2, hz2⟩ : ∃ z, pat (rar (-(rd b1 b2).2) (-(rd b1 b2).1) (rd c1 c2).1 (rd c1 c2).2 (rd x y).1 (rd x y).2).2 = z := ⟨_, rfl⟩
  obtain ⟨p1, e1⟩ : ∃ z, pat (-(rd b1 b2).2) = z := ⟨_, rfl⟩
  obtain ⟨p2, e2⟩ : ∃ z, pat (-(rd b1 b2).1) = z := ⟨_, rfl⟩
  rw [e1, e2] at HN1 HM
  simp only [hz1, hz2] at HM ⊢
  clear hz1 hz2 e1 e2
  have LB0 := Lib.hid (show Below w.heap.size w ((((w.alloc (.cells #[.float .f64 b1, .float .f64 b2] 29)).alloc (.cells #[.float .f64 c1, .float .f64 c2] 29)).alloc (.cells #[.float .f64 x, .float .f64 y] 29)).alloc (.cells #[.float .f64 0, .float .f64 0] 29)) from ((((below_alloc w _).alloc (by simp <;> omega) _).alloc (by simp <;> omega) _).alloc (by simp <;> omega) _))
  have LG0_0 := Lib.hid (((((Blk.at (W := w) (g := w.heap.size) (by simp <;> omega) 29 #[.float .f64 b1, .float .f64 b2]).alloc (.cells #[.float .f64 c1, .float .f64 c2] 29)).alloc (.cells #[.float .f64 x, .float .f64 y] 29)).alloc (.cells #[.float .f64 0, .float .f64 0] 29)))
  have LG1_0 := Lib.hid ((((Blk.at (W := (w.alloc (.cells #[.float .f64 b1, .float .f64 b2] 29))) (g := (w.heap.size + 1)) (by simp <;> omega) 29 #[.float .f64 c1, .float .f64 c2]).alloc (.cells #[.float .f64 x, .float .f64 y] 29)).alloc (.cells #[.float .f64 0, .float .f64 0] 29)))
  have LG2_0 := Lib.hid (((Blk.at (W := ((w.alloc (.cells #[.float .f64 b1, .float .f64 b2] 29)).alloc (.cells #[.float .f64 c1, .float .f64 c2] 29))) (g := (w.heap.size + 2)) (by simp <;> omega) 29 #[.float .f64 x, .float .f64 y]).alloc (.cells #[.float .f64 0, .float .f64 0] 29)))
  have LR0 := Lib.hid (HasBlk.of (n := 2) (Blk.at (W := (((w.alloc (.cells #[.float .f64 b1, .float .f64 b2] 29)).alloc (.cells #[.float .f64 c1, .float .f64 c2] 29)).alloc (.cells #[.float .f64 x, .float .f64 y] 29))) (g := (w.heap.size + 3)) (by simp <;> omega) 29 #[.float .f64 0, .float .f64 0]) rfl rfl)
  go_enter Tryz.func15, Tryz.ntmps15
  go_wp2_with fail
  refine wp_region_held_drew (S := fun W' => Blk W' w.heap.size 29 #[.float .f64 b1, .float .f64 b2] ∧ Blk W' (w.heap.size + 1) 29 #[.float .f64 c1, .float .f64 c2] ∧ Blk W' (w.heap.size + 2) 29 #[.float .f64 x, .float .f64 y] ∧ HasBlk W' (w.heap.size + 3) 29 2 ∧ Below w.heap.size w W') (by kernel_rfl) (by exact ⟨LG0_0.out.drew, LG1_0.out.drew, LG2_0.out.drew, LR0.out.drew, LB0.out.drew⟩) (fun hHeld => ?_)
  refine wpAnyH_take (i := 0) (v := ?_) rfl (by kernel_rfl) (by kernel_rfl) (by kernel_rfl) (fun _ _ _ h => h) (Or.inl ⟨by rfl, ?_⟩) (by assumption) ?_
  rotate_left
  · (intro W2 hSw; (try dsimp only at hSw); have q0 : _ = some (.float .f64 b1 : Value) := hSw.1.cell 0; have q1 : _ = some (.float .f64 b2 : Value) := hSw.1.cell 1; go_simp; (try with_reducible rfl))
  try simp only [Act.put, List.getElem_toArray, List.getElem_cons_succ, List.getElem_cons_zero, List.setIfInBounds_toArray, List.set_cons_zero, List.set_cons_succ]
  refine wpAnyH_take (i := 2) (v := ?_) rfl (by kernel_rfl) (by kernel_rfl) (by kernel_rfl) (fun _ _ _ h => h) (Or.inl ⟨by rfl, ?_⟩) (by assumption) ?_
  rotate_left
  · (intro W2 hSw; (try dsimp only at hSw); have q0 : _ = some (.float .f64 c1 : Value) := hSw.2.1.cell 0; have q1 : _ = some (.float .f64 c2 : Value) := hSw.2.1.cell 1; go_simp; (try with_reducible rfl))
  try simp only [Act.put, List.getElem_toArray, List.getElem_cons_succ, List.getElem_cons_zero, List.setIfInBounds_toArray, List.set_cons_zero, List.set_cons_succ]
  refine wpAnyH_take (i := 3) (v := ?_) rfl (by kernel_rfl) (by kernel_rfl) (by kernel_rfl) (fun _ _ _ h => h) (Or.inl ⟨by rfl, ?_⟩) (by assumption) ?_
  rotate_left
  · (intro W2 hSw; (try dsimp only at hSw); have q0 : _ = some (.float .f64 x : Value) := hSw.2.2.1.cell 0; have q1 : _ = some (.float .f64 y : Value) := hSw.2.2.1.cell 1; go_simp; (try with_reducible rfl))
  try simp only [Act.put, List.getElem_toArray, List.getElem_cons_succ, List.getElem_cons_zero, List.setIfInBounds_toArray, List.set_cons_zero, List.set_cons_succ]
  refine wpAnyH_ready (rs := [1]) (by kernel_rfl) (by simp) ?_
  refine AllReadyH.cons rfl (fun KK hKK => ?_) AllReadyH.nil
  go_simp
  refine (HN1.out _).mono ?_
  rintro e w1 ⟨rfl, hbA⟩
  go_wp2_with fail
  refine hKK.out _ _ (⟨hHeld.1.keep hbA, hHeld.2.1.keep hbA, hHeld.2.2.1.keep hbA, hHeld.2.2.2.1.keep hbA, hHeld.2.2.2.2.trans (hbA.mono hHeld.2.2.2.2.size)⟩) (fun _ => ?_)
  clear hKK KK hHeld; rename_i hHeld
  try simp only [Act.put, List.getElem_toArray, List.getElem_cons_succ, List.getElem_cons_zero, List.setIfInBounds_toArray, List.set_cons_zero, List.set_cons_succ]
  refine wpAnyH_ready (rs := [4]) (by kernel_rfl) (by simp) ?_
  refine AllReadyH.cons rfl (fun KK hKK => ?_) AllReadyH.nil
  go_simp
  refine (HM.out _).mono ?_
  rintro e w3 ⟨rfl, hbC⟩
  go_wp2_with fail
  refine hKK.out _ _ (⟨hHeld.1.keep hbC, hHeld.2.1.keep hbC, hHeld.2.2.1.keep hbC, hHeld.2.2.2.1.keep hbC, hHeld.2.2.2.2.trans (hbC.mono hHeld.2.2.2.2.size)⟩) (fun _ => ?_)
  clear hKK KK hHeld; rename_i hHeld
  try simp only [Act.put, List.getElem_toArray, List.getElem_cons_succ, List.getElem_cons_zero, List.setIfInBounds_toArray, List.set_cons_zero, List.set_cons_succ]
  refine wpAnyH_ready (rs := [5]) (by kernel_rfl) (by simp) ?_
  refine AllReadyH.cons rfl (fun KK hKK => ?_) AllReadyH.nil
  have ha0 := hHeld.2.2.2.1.someCell 0 (by decide); have hf0 := hHeld.2.2.2.1.frozen 0; have ha1 := hHeld.2.2.2.1.someCell 1 (by decide); have hf1 := hHeld.2.2.2.1.frozen 1; have HK := Lib.hid (hHeld.2.2.2.1.setCell [.float .f64 z1, .float .f64 z2] rfl); have F := Lib.hid (below_sets (w0 := w) (r := (w.heap.size + 3)) (by omega) [.float .f64 z1, .float .f64 z2] 0 _ hHeld.2.2.2.2)
  go_simp
  refine hKK.out _ _ (⟨hHeld.1.other (by omega) 0 [.float .f64 z1, .float .f64 z2], hHeld.2.1.other (by omega) 0 [.float .f64 z1, .float .f64 z2], hHeld.2.2.1.other (by omega) 0 [.float .f64 z1, .float .f64 z2], hHeld.2.2.2.1.sets [.float .f64 z1, .float .f64 z2] rfl rfl, below_sets (by omega) [.float .f64 z1, .float .f64 z2] 0 _ hHeld.2.2.2.2⟩) (fun _ => ?_)
  clear hKK KK hHeld; rename_i hHeld
  try simp only [Act.put, List.getElem_toArray, List.getElem_cons_succ, List.getElem_cons_zero, List.setIfInBounds_toArray, List.set_cons_zero, List.set_cons_succ]
  refine wpAnyH_done (by kernel_rfl) ?_ _
  have hk0 := HK.out 0 (by decide)
  have hk1 := HK.out 1 (by decide)
  simp [sets] at hk0 hk1
  clear hHeld HK hbA hbC
  clear LB0 LR0 LG0_0 LG1_0 LG2_0
  go_wp2
  refine bodyPost_ret (v := .agg #[.float .f64 z1, .float .f64 z2]) (by simp [results, Tryz.results15, go_sem, hk0, hk1]) rfl ?_
  exact ⟨rfl, F.out⟩

set_option maxHeartbeats 6400000 in
theorem revsub2_any (b1 b2 c1 c2 x y : Nat) (w : World) (hb1 : b1 < 18446744073709551616) (hb2 : b2 < 18446744073709551616) (hc1 : c1 < 18446744073709551616) (hc2 : c2 < 18446744073709551616) (hx : x < 18446744073709551616) (hy : y < 18446744073709551616) :
    Calls Tryz.prog 17 #[.agg #[.float .f64 b1, .float .f64 b2], .agg #[.float .f64 c1, .float .f64 c2], .agg #[.float .f64 x, .float .f64 y]] w fun e w' => e = .returned (.agg #[.float .f64 (pat (rar (-(rd b1 b2).2) (-(rd b1 b2).1) (-(rd c1 c2).2) (-(rd c1 c2).1) (rd x y).1 (rd x y).2).1), .float .f64 (pat (rar (-(rd b1 b2).2) (-(rd b1 b2).1) (-(rd c1 c2).2) (-(rd c1 c2).1) (rd x y).1 (rd x y).2).2)]) ∧ Below w.heap.size w w' := by
  have HN1 := Lib.hid fun W => mirrorf b1 b2 W hb1 hb2
  have HN2 := Lib.hid fun W => mirrorf c1 c2 W hc1 hc2
  have HM := Lib.hid fun W => revadd_idx _ _ _ _ x y W (rd_iv b1 b2).negg (rd_iv c1 c2).negg hx hy
  obtain ⟨p3, e3⟩ : ∃ z, pat (-(rd c1 c2).2) = z := ⟨_, rfl⟩
  obtain ⟨p4, e4⟩ : ∃ z, pat (-(rd c1 c2).1) = z := ⟨_, rfl⟩
  rw [e3, e4] at HN2 HM
  clear e3 e4
  obtain ⟨z1, hz1⟩ : ∃ z, pat (rar (-(rd b1 b2).2) (-(rd b1 b2).1) (-(rd c1 c2).2) (-(rd c1 c2).1) (rd x y).1 (rd x y).2).1 = z := ⟨_, rfl⟩
  obtain ⟨z2, hz2⟩ : ∃ z, pat (rar (-(rd b1 b2).2) (-(rd b1 b2).1) (-(rd c1 c2).2) (-(rd c1 c2).1) (rd x y).1 (rd x y).2).2 = z := ⟨_, rfl⟩
  obtain ⟨p1, e1⟩ : ∃ z, pat (-(rd b1 b2).2) = z := ⟨_, rfl⟩
  obtain ⟨p2, e2⟩ : ∃ z, pat (-(rd b1 b2).1) = z := ⟨_, rfl⟩
  rw [e1, e2] at HN1 HM
  simp only [hz1, hz2] at HM ⊢
  clear hz1 hz2 e1 e2
  have LB0 := Lib.hid (show Below w.heap.size w ((((w.alloc (.cells #[.float .f64 b1, .float .f64 b2] 29)).alloc (.cells #[.float .f64 c1, .float .f64 c2] 29)).alloc (.cells #[.float .f64 x, .float .f64 y] 29)).alloc (.cells #[.float .f64 0, .float .f64 0] 29)) from ((((below_alloc w _).alloc (by simp <;> omega) _).alloc (by simp <;> omega) _).alloc (by simp <;> omega) _))
  have LG0_0 := Lib.hid (((((Blk.at (W := w) (g := w.heap.size) (by simp <;> omega) 29 #[.float .f64 b1, .float .f64 b2]).alloc (.cells #[.float .f64 c1, .float .f64 c2] 29)).alloc (.cells #[.float .f64 x, .float .f64 y] 29)).alloc (.cells #[.float .f64 0, .float .f64 0] 29)))
  have LG1_0 := Lib.hid ((((Blk.at (W := (w.alloc (.cells #[.float .f64 b1, .float .f64 b2] 29))) (g := (w.heap.size + 1)) (by simp <;> omega) 29 #[.float .f64 c1, .float .f64 c2]).alloc (.cells #[.float .f64 x, .float .f64 y] 29)).alloc (.cells #[.float .f64 0, .float .f64 0] 29)))
  have LG2_0 := Lib.hid (((Blk.at (W := ((w.alloc (.cells #[.float .f64 b1, .float .f64 b2] 29)).alloc (.cells #[.float .f64 c1, .float .f64 c2] 29))) (g := (w.heap.size + 2)) (by simp <;> omega) 29 #[.float .f64 x, .float .f64 y]).alloc (.cells #[.float .f64 0, .float .f64 0] 29)))
  have LR0 := Lib.hid (HasBlk.of (n := 2) (Blk.at (W := (((w.alloc (.cells #[.float .f64 b1, .float .f64 b2] 29)).alloc (.cells #[.float .f64 c1, .float .f64 c2] 29)).alloc (.cells #[.float .f64 x, .float .f64 y] 29))) (g := (w.heap.size + 3)) (by simp <;> omega) 29 #[.float .f64 0, .float .f64 0]) rfl rfl)
  go_enter Tryz.func17, Tryz.ntmps17
  go_wp2_with fail
  refine wp_region_held_drew (S := fun W' => Blk W' w.heap.size 29 #[.float .f64 b1, .float .f64 b2] ∧ Blk W' (w.heap.size + 1) 29 #[.float .f64 c1, .float .f64 c2] ∧ Blk W' (w.heap.size + 2) 29 #[.float .f64 x, .float .f64 y] ∧ HasBlk W' (w.heap.size + 3) 29 2 ∧ Below w.heap.size w W') (by kernel_rfl) (by exact ⟨LG0_0.out.drew, LG1_0.out.drew, LG2_0.out.drew, LR0.out.drew, LB0.out.drew⟩) (fun hHeld => ?_)
  refine wpAnyH_take (i := 0) (v := ?_) rfl (by kernel_rfl) (by kernel_rfl) (by kernel_rfl) (fun _ _ _ h => h) (Or.inl ⟨by rfl, ?_⟩) (by assumption) ?_
  rotate_left
  · (intro W2 hSw; (try dsimp only at hSw); have q0 : _ = some (.float .f64 b1 : Value) := hSw.1.cell 0; have q1 : _ = some (.float .f64 b2 : Value) := hSw.1.cell 1; go_simp; (try with_reducible rfl))
  try simp only [Act.put, List.getElem_toArray, List.getElem_cons_succ, List.getElem_cons_zero, List.setIfInBounds_toArray, List.set_cons_zero, List.set_cons_succ]
  refine wpAnyH_take (i := 2) (v := ?_) rfl (by kernel_rfl) (by kernel_rfl) (by kernel_rfl) (fun _ _ _ h => h) (Or.inl ⟨by rfl, ?_⟩) (by assumption) ?_
  rotate_left
  · (intro W2 hSw; (try dsimp only at hSw); have q0 : _ = some (.float .f64 c1 : Value) := hSw.2.1.cell 0; have q1 : _ = some (.float .f64 c2 : Value) := hSw.2.1.cell 1; go_simp; (try with_reducible rfl))
  try simp only [Act.put, List.getElem_toArray, List.getElem_cons_succ, List.getElem_cons_zero, List.setIfInBounds_toArray, List.set_cons_zero, List.set_cons_succ]
  refine wpAnyH_take (i := 4) (v := ?_) rfl (by kernel_rfl) (by kernel_rfl) (by kernel_rfl) (fun _ _ _ h => h) (Or.inl ⟨by rfl, ?_⟩) (by assumption) ?_
  rotate_left
  · (intro W2 hSw; (try dsimp only at hSw); have q0 : _ = some (.float .f64 x : Value) := hSw.2.2.1.cell 0; have q1 : _ = some (.float .f64 y : Value) := hSw.2.2.1.cell 1; go_simp; (try with_reducible rfl))
  try simp only [Act.put, List.getElem_toArray, List.getElem_cons_succ, List.getElem_cons_zero, List.setIfInBounds_toArray, List.set_cons_zero, List.set_cons_succ]
  refine wpAnyH_ready (rs := [1]) (by kernel_rfl) (by simp) ?_
  refine AllReadyH.cons rfl (fun KK hKK => ?_) AllReadyH.nil
  go_simp
  refine (HN1.out _).mono ?_
  rintro e w1 ⟨rfl, hbA⟩
  go_wp2_with fail
  refine hKK.out _ _ (⟨hHeld.1.keep hbA, hHeld.2.1.keep hbA, hHeld.2.2.1.keep hbA, hHeld.2.2.2.1.keep hbA, hHeld.2.2.2.2.trans (hbA.mono hHeld.2.2.2.2.size)⟩) (fun _ => ?_)
  clear hKK KK hHeld; rename_i hHeld
  try simp only [Act.put, List.getElem_toArray, List.getElem_cons_succ, List.getElem_cons_zero, List.setIfInBounds_toArray, List.set_cons_zero, List.set_cons_succ]
  refine wpAnyH_ready (rs := [3]) (by kernel_rfl) (by simp) ?_
  refine AllReadyH.cons rfl (fun KK hKK => ?_) AllReadyH.nil
  go_simp
  refine (HN2.out _).mono ?_
  rintro e w2 ⟨rfl, hbB⟩
  go_wp2_with fail
  refine hKK.out _ _ (⟨hHeld.1.keep hbB, hHeld.2.1.keep hbB, hHeld.2.2.1.keep hbB, hHeld.2.2.2.1.keep hbB, hHeld.2.2.2.2.trans (hbB.mono hHeld.2.2.2.2.size)⟩) (fun _ => ?_)
  clear hKK KK hHeld; rename_i hHeld
  try simp only [Act.put, List.getElem_toArray, List.getElem_cons_succ, List.getElem_cons_zero, List.setIfInBounds_toArray, List.set_cons_zero, List.set_cons_succ]
  refine wpAnyH_ready (rs := [5]) (by kernel_rfl) (by simp) ?_
  refine AllReadyH.cons rfl (fun KK hKK => ?_) AllReadyH.nil
  go_simp
  refine (HM.out _).mono ?_
  rintro e w3 ⟨rfl, hbC⟩
  go_wp2_with fail
  refine hKK.out _ _ (⟨hHeld.1.keep hbC, hHeld.2.1.keep hbC, hHeld.2.2.1.keep hbC, hHeld.2.2.2.1.keep hbC, hHeld.2.2.2.2.trans (hbC.mono hHeld.2.2.2.2.size)⟩) (fun _ => ?_)
  clear hKK KK hHeld; rename_i hHeld
  try simp only [Act.put, List.getElem_toArray, List.getElem_cons_succ, List.getElem_cons_zero, List.setIfInBounds_toArray, List.set_cons_zero, List.set_cons_succ]
  refine wpAnyH_ready (rs := [6]) (by kernel_rfl) (by simp) ?_
  refine AllReadyH.cons rfl (fun KK hKK => ?_) AllReadyH.nil
  have ha0 := hHeld.2.2.2.1.someCell 0 (by decide); have hf0 := hHeld.2.2.2.1.frozen 0; have ha1 := hHeld.2.2.2.1.someCell 1 (by decide); have hf1 := hHeld.2.2.2.1.frozen 1; have HK := Lib.hid (hHeld.2.2.2.1.setCell [.float .f64 z1, .float .f64 z2] rfl); have F := Lib.hid (below_sets (w0 := w) (r := (w.heap.size + 3)) (by omega) [.float .f64 z1, .float .f64 z2] 0 _ hHeld.2.2.2.2)
  go_simp
  refine hKK.out _ _ (⟨hHeld.1.other (by omega) 0 [.float .f64 z1, .float .f64 z2], hHeld.2.1.other (by omega) 0 [.float .f64 z1, .float .f64 z2], hHeld.2.2.1.other (by omega) 0 [.float .f64 z1, .float .f64 z2], hHeld.2.2.2.1.sets [.float .f64 z1, .float .f64 z2] rfl rfl, below_sets (by omega) [.float .f64 z1, .float .f64 z2] 0 _ hHeld.2.2.2.2⟩) (fun _ => ?_)
  clear hKK KK hHeld; rename_i hHeld
  try simp only [Act.put, List.getElem_toArray, List.getElem_cons_succ, List.getElem_cons_zero, List.setIfInBounds_toArray, List.set_cons_zero, List.set_cons_succ]
  refine wpAnyH_done (by kernel_rfl) ?_ _
  have hk0 := HK.out 0 (by decide)
  have hk1 := HK.out 1 (by decide)
  simp [sets] at hk0 hk1
  clear hHeld HK hbA hbB hbC
  clear LB0 LR0 LG0_0 LG1_0 LG2_0
  go_wp2
  refine bodyPost_ret (v := .agg #[.float .f64 z1, .float .f64 z2]) (by simp [results, Tryz.results17, go_sem, hk0, hk1]) rfl ?_
  exact ⟨rfl, F.out⟩

end Go.Proofs.YtmjkmoahkanblaaGreat

namespace Go.Proofs.YtmjkmoahkanblaaGreat
open Go.RowKit

theorem ad_comm {d i j : Int} (h : NoCl i j) : ad d i j = ad d j i := by
  have hM : M = 9218868437227405312 := rfl
  obtain ⟨h1, h2⟩ := h
  unfold ad
  by_cases c1 : i = M ∨ i = -(M : Int)
  · rw [if_pos c1]
    by_cases c2 : j = M ∨ j = -(M : Int)
    · rw [if_pos c2]; omega
    · rw [if_neg c2, if_pos c1]
  · rw [if_neg c1]
    by_cases c2 : j = M ∨ j = -(M : Int)
    · rw [if_pos c2, if_pos c2]
    · rw [if_neg c2, if_neg c2, if_neg c1, Rat.add_comm]
theorem rar_add {i1 j1 i2 j2 i3 j3 : Int} (h1 : Iv i1 j1) (h2 : Iv i2 j2) (h3 : Iv i3 j3) : rar i1 j1 i2 j2 i3 j3 = Fadd i2 j2 (-j1) (-i1) i3 j3 := by
  rw [Fadd_ct h2 h1.nega h3]
  unfold rar
  by_cases c : j1 < i1 ∨ j2 < i2 ∨ j3 < i3
  · rw [if_pos c, if_pos (by omega)]
  · rw [if_neg c, if_neg (by omega)]
theorem rar_sub1 {i1 j1 i2 j2 i3 j3 : Int} (h1 : Iv i1 j1) (h2 : Iv i2 j2) (h3 : Iv i3 j3) : rar (-j1) (-i1) i2 j2 i3 j3 = Fadd i2 j2 i1 j1 i3 j3 := by
  rw [rar_add h1.nega h2 h3, Int.neg_neg, Int.neg_neg]
theorem rar_sub2 {i1 j1 i2 j2 i3 j3 : Int} (h1 : Iv i1 j1) (h2 : Iv i2 j2) (h3 : Iv i3 j3) : rar (-j1) (-i1) (-j2) (-i2) i3 j3 = Fadd i1 j1 (-j2) (-i2) i3 j3 := by
  have hM : M = 9218868437227405312 := rfl
  rw [rar_add h1.nega h2.nega h3, Int.neg_neg, Int.neg_neg, Fadd_ct h2.nega h1 h3, Fadd_ct h1 h2.nega h3]
  by_cases c : j1 < i1 ∨ j2 < i2 ∨ j3 < i3
  · rw [if_pos (by omega), if_pos (by omega)]
  · rw [if_neg (by omega), if_neg (by omega)]
    unfold Iv at h1 h2
    have n1 : NoCl (-j2) i1 := by unfold NoCl; omega
    have n2 : NoCl (-i2) j1 := by unfold NoCl; omega
    rw [ad_comm (d := -1) n1, ad_comm (d := 1) n1, ad_comm (d := -1) n2, ad_comm (d := 1) n2]

end Go.Proofs.YtmjkmoahkanblaaGreat
