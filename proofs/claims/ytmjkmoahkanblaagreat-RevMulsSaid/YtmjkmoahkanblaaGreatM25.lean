/-
Walks: package rev, FMARev, MulRev.
What positive, factor, FMARev, MulRev of the program answer, by indexes; a piece turned over.
Walks: package vergeref6, None.
-/
import Derived.Test.YtmjkmoahkanblaaGreatM03
import Derived.Test.YtmjkmoahkanblaaGreatM22
import Derived.Test.YtmjkmoahkanblaaGreatM23
import Derived.Test.YtmjkmoahkanblaaGreatPLessT
import Derived.Test.YtmjkmoahkanblaaGreatPIntsT
import Derived.Test.YtmjkmoahkanblaaGreatM05
set_option linter.unusedSimpArgs false
set_option linter.unusedVariables false

namespace Go.Proofs.YtmjkmoahkanblaaGreat
open Go.RowKit
attribute [local go_sem] run_store_float

set_option maxHeartbeats 6400000 in
theorem fmarev_none (b1 b2 z1 z2 c1 c2 x y P1 Q1 P2 Q2 P3 Q3 P4 Q4 : Nat) (d1 d2 d3 d4 : Bool) (w : World) (t1 : ∀ W, Calls Tryz.prog 119 #[.agg #[.float .f64 b1, .float .f64 b2]] W fun e w' => e = .returned (.agg #[.float .f64 P1, .float .f64 Q1]) ∧ Below W.heap.size W w') (m1 : Em d1 P1 Q1) (t2 : ∀ W, Calls Tryz.prog 119 #[.agg #[.float .f64 z1, .float .f64 z2]] W fun e w' => e = .returned (.agg #[.float .f64 P2, .float .f64 Q2]) ∧ Below W.heap.size W w') (m2 : Em d2 P2 Q2) (t3 : ∀ W, Calls Tryz.prog 119 #[.agg #[.float .f64 c1, .float .f64 c2]] W fun e w' => e = .returned (.agg #[.float .f64 P3, .float .f64 Q3]) ∧ Below W.heap.size W w') (m3 : Em d3 P3 Q3) (t4 : ∀ W, Calls Tryz.prog 119 #[.agg #[.float .f64 x, .float .f64 y]] W fun e w' => e = .returned (.agg #[.float .f64 P4, .float .f64 Q4]) ∧ Below W.heap.size W w') (m4 : Em d4 P4 Q4) (hnn : (d1 || d2 || d3 || d4) = true) :
    Calls Tryz.prog 44 #[.agg #[.float .f64 b1, .float .f64 b2], .agg #[.float .f64 z1, .float .f64 z2], .agg #[.float .f64 c1, .float .f64 c2], .agg #[.float .f64 x, .float .f64 y]] w fun e w' => e = .returned (.agg #[.float .f64 9218868437227405312, .float .f64 18442240474082181120]) ∧ Below w.heap.size w w' := by
  have HE := Lib.hid emptyf
  obtain ⟨LB0, LG0_0, LG1_0, LG2_0, LG3_0, LR⟩ := bx5 w #[.float .f64 b1, .float .f64 b2] 29 #[.float .f64 z1, .float .f64 z2] 29 #[.float .f64 c1, .float .f64 c2] 29 #[.float .f64 x, .float .f64 y] 29 #[.float .f64 0, .float .f64 0] 29
  have LR0 := Lib.hid (HasBlk.of (n := 2) LR.out rfl rfl)
  clear LR
  have hrow := Blk.at (W := (((((w.alloc (.cells #[.float .f64 b1, .float .f64 b2] 29)).alloc (.cells #[.float .f64 z1, .float .f64 z2] 29)).alloc (.cells #[.float .f64 c1, .float .f64 c2] 29)).alloc (.cells #[.float .f64 x, .float .f64 y] 29)).alloc (.cells #[.float .f64 0, .float .f64 0] 29))) (g := w.heap.size + 1 + 1 + 1 + 1 + 1) (by simp) 51 #[.pointer (some ⟨w.heap.size, 0, none⟩), .pointer (some ⟨w.heap.size + 1, 0, none⟩), .pointer (some ⟨w.heap.size + 1 + 1, 0, none⟩), .pointer (some ⟨w.heap.size + 1 + 1 + 1, 0, none⟩)]
  have HRD := Lib.hid (read_n w.heap.size 4 (w.heap.size + 1 + 1 + 1 + 1 + 1) 4 (fun k : Nat => if k = 0 then (b1, b2) else if k = 1 then (z1, z2) else if k = 2 then (c1, c2) else (x, y)) (fun k : Nat => if k = 0 then (P1, Q1) else if k = 1 then (P2, Q2) else if k = 2 then (P3, Q3) else (P4, Q4)) (fun k : Nat => if k = 0 then d1 else if k = 1 then d2 else if k = 2 then d3 else d4) _ (by omega) (by omega)
    (fun k hk => by match k, hk with | 0, _ => exact hrow.cell 0 | 1, _ => exact hrow.cell 1 | 2, _ => exact hrow.cell 2 | 3, _ => exact hrow.cell 3)
    (fun k hk => by match k, hk with | 0, _ => exact LG0_0.out.alloc (.cells #[.pointer (some ⟨w.heap.size, 0, none⟩), .pointer (some ⟨w.heap.size + 1, 0, none⟩), .pointer (some ⟨w.heap.size + 1 + 1, 0, none⟩), .pointer (some ⟨w.heap.size + 1 + 1 + 1, 0, none⟩)] 51) | 1, _ => exact LG1_0.out.alloc (.cells #[.pointer (some ⟨w.heap.size, 0, none⟩), .pointer (some ⟨w.heap.size + 1, 0, none⟩), .pointer (some ⟨w.heap.size + 1 + 1, 0, none⟩), .pointer (some ⟨w.heap.size + 1 + 1 + 1, 0, none⟩)] 51) | 2, _ => exact LG2_0.out.alloc (.cells #[.pointer (some ⟨w.heap.size, 0, none⟩), .pointer (some ⟨w.heap.size + 1, 0, none⟩), .pointer (some ⟨w.heap.size + 1 + 1, 0, none⟩), .pointer (some ⟨w.heap.size + 1 + 1 + 1, 0, none⟩)] 51) | 3, _ => exact LG3_0.out.alloc (.cells #[.pointer (some ⟨w.heap.size, 0, none⟩), .pointer (some ⟨w.heap.size + 1, 0, none⟩), .pointer (some ⟨w.heap.size + 1 + 1, 0, none⟩), .pointer (some ⟨w.heap.size + 1 + 1 + 1, 0, none⟩)] 51))
    (fun k hk => by match k, hk with | 0, _ => exact t1 | 1, _ => exact t2 | 2, _ => exact t3 | 3, _ => exact t4)
    (fun k hk => by match k, hk with | 0, _ => exact m1 | 1, _ => exact m2 | 2, _ => exact m3 | 3, _ => exact m4))
  rw [show anyB (fun k : Nat => if k = 0 then d1 else if k = 1 then d2 else if k = 2 then d3 else d4) 4 = (d1 || d2 || d3 || d4) from by simp [anyB], hnn] at HRD
  have LBr := Lib.hid (LB0.out.alloc (by simp <;> omega) (.cells #[.pointer (some ⟨w.heap.size, 0, none⟩), .pointer (some ⟨w.heap.size + 1, 0, none⟩), .pointer (some ⟨w.heap.size + 1 + 1, 0, none⟩), .pointer (some ⟨w.heap.size + 1 + 1 + 1, 0, none⟩)] 51))
  have LRr := Lib.hid (LR0.out.alloc (.cells #[.pointer (some ⟨w.heap.size, 0, none⟩), .pointer (some ⟨w.heap.size + 1, 0, none⟩), .pointer (some ⟨w.heap.size + 1 + 1, 0, none⟩), .pointer (some ⟨w.heap.size + 1 + 1 + 1, 0, none⟩)] 51))
  have HSZ := Lib.hid (show w.heap.size ≤ (((((((w.alloc (.cells #[.float .f64 b1, .float .f64 b2] 29)).alloc (.cells #[.float .f64 z1, .float .f64 z2] 29)).alloc (.cells #[.float .f64 c1, .float .f64 c2] 29)).alloc (.cells #[.float .f64 x, .float .f64 y] 29)).alloc (.cells #[.float .f64 0, .float .f64 0] 29))).alloc (.cells #[.pointer (some ⟨w.heap.size, 0, none⟩), .pointer (some ⟨w.heap.size + 1, 0, none⟩), .pointer (some ⟨w.heap.size + 1 + 1, 0, none⟩), .pointer (some ⟨w.heap.size + 1 + 1 + 1, 0, none⟩)] 51)).heap.size by simp; omega)
  clear t1 t2 t3 t4 m1 m2 m3 m4 hrow hnn LB0 LR0 LG0_0 LG1_0 LG2_0 LG3_0
  go_enter Tryz.func44, Tryz.ntmps44
  go_wp2_with fail
  refine HRD.out.mono ?_
  rintro e w1 ⟨rfl, hd, kp⟩
  have LB1 := Lib.hid (kp.toBl LBr.out HSZ.out (Nat.le_refl _))
  have LR1 := Lib.hid (kp.hasBk LRr.out (by omega))
  have LG0_1 := Lib.hid (show Blk w1 w.heap.size 29 #[.float .f64 P1, .float .f64 Q1] from hd 0 (by omega))
  have LG1_1 := Lib.hid (show Blk w1 (w.heap.size + 1) 29 #[.float .f64 P2, .float .f64 Q2] from hd 1 (by omega))
  have LG2_1 := Lib.hid (show Blk w1 (w.heap.size + 2) 29 #[.float .f64 P3, .float .f64 Q3] from hd 2 (by omega))
  have LG3_1 := Lib.hid (show Blk w1 (w.heap.size + 3) 29 #[.float .f64 P4, .float .f64 Q4] from hd 3 (by omega))
  clear hd kp LBr LRr HSZ HRD
  go_wp2_with fail
  refine (HE.out _).mono ?_
  rintro e w2 ⟨rfl, hbx⟩
  have LB2 := stB LB1 hbx LB1.out.size
  have LR2 := stR LR1 hbx
  have LG0_2 := stG LG0_1 hbx
  have LG1_2 := stG LG1_1 hbx
  have LG2_2 := stG LG2_1 hbx
  have LG3_2 := stG LG3_1 hbx
  clear LB1 LR1 LG0_1 LG1_1 LG2_1 LG3_1
  clear hbx
  obtain ⟨ha0, hf0, ha1, hf1⟩ := LR2.out.sf2
  have HKK := Lib.hid (LR2.out.setCell [.float .f64 9218868437227405312, .float .f64 18442240474082181120] rfl)
  have hk0 := HKK.out 0 (by decide)
  have hk1 := HKK.out 1 (by decide)
  clear HKK
  have F := Lib.hid (below_sets (w0 := w) (r := (w.heap.size + 4)) (by omega) [.float .f64 9218868437227405312, .float .f64 18442240474082181120] 0 _ LB2.out)
  simp [sets] at hk0 hk1
  go_wp2
  refine bodyPost_ret (v := .agg #[.float .f64 9218868437227405312, .float .f64 18442240474082181120]) (by simp [results, Tryz.results44, go_sem, hk0, hk1]) rfl ?_
  exact ⟨rfl, F.out⟩

set_option maxHeartbeats 6400000 in
theorem fmarev_some (b1 b2 z1 z2 c1 c2 x y P1 Q1 P2 Q2 P3 Q3 P4 Q4 : Nat) (d1 d2 d3 d4 : Bool) (s1 s2 : Int) (y1 y2 : Rat) (r1 r2 : Nat) (w : World) (t1 : ∀ W, Calls Tryz.prog 119 #[.agg #[.float .f64 b1, .float .f64 b2]] W fun e w' => e = .returned (.agg #[.float .f64 P1, .float .f64 Q1]) ∧ Below W.heap.size W w') (m1 : Em d1 P1 Q1) (t2 : ∀ W, Calls Tryz.prog 119 #[.agg #[.float .f64 z1, .float .f64 z2]] W fun e w' => e = .returned (.agg #[.float .f64 P2, .float .f64 Q2]) ∧ Below W.heap.size W w') (m2 : Em d2 P2 Q2) (t3 : ∀ W, Calls Tryz.prog 119 #[.agg #[.float .f64 c1, .float .f64 c2]] W fun e w' => e = .returned (.agg #[.float .f64 P3, .float .f64 Q3]) ∧ Below W.heap.size W w') (m3 : Em d3 P3 Q3) (t4 : ∀ W, Calls Tryz.prog 119 #[.agg #[.float .f64 x, .float .f64 y]] W fun e w' => e = .returned (.agg #[.float .f64 P4, .float .f64 Q4]) ∧ Below W.heap.size W w') (m4 : Em d4 P4 Q4) (hnn : (d1 || d2 || d3 || d4) = false)
    (L1 : ∀ W, Calls Tryz.prog 63 #[.float .f64 P3, .float .f64 Q2] W (NewExI W s1 y1)) (L2 : ∀ W, Calls Tryz.prog 63 #[.float .f64 Q3, .float .f64 P2] W (NewExI W s2 y2))
    (FA : ∀ (g1 : Bool) (A1 : Option Addr) (n1 c1 : Nat) (E1 : Int) (g2 : Bool) (A2 : Option Addr) (n2 c2 : Nat) (E2 : Int) W, ExI W s1 g1 A1 n1 c1 E1 y1 → ExI W s2 g2 A2 n2 c2 E2 y2 → Calls Tryz.prog 116 #[.agg #[.float .f64 P1, .float .f64 Q1], .agg #[.int .i64 s1, .bool g1, .slice A1 n1 c1, .int .i64 E1], .agg #[.int .i64 s2, .bool g2, .slice A2 n2 c2, .int .i64 E2], .agg #[.float .f64 P4, .float .f64 Q4]] W fun e w' => e = .returned (.agg #[.float .f64 r1, .float .f64 r2]) ∧ Below W.heap.size W w') :
    Calls Tryz.prog 44 #[.agg #[.float .f64 b1, .float .f64 b2], .agg #[.float .f64 z1, .float .f64 z2], .agg #[.float .f64 c1, .float .f64 c2], .agg #[.float .f64 x, .float .f64 y]] w fun e w' => e = .returned (.agg #[.float .f64 r1, .float .f64 r2]) ∧ Below w.heap.size w w' := by
  have HL1 := Lib.hid L1
  have HL2 := Lib.hid L2
  have HF := Lib.hid FA
  clear L1 L2 FA
  obtain ⟨LB0, LG0_0, LG1_0, LG2_0, LG3_0, LR⟩ := bx5 w #[.float .f64 b1, .float .f64 b2] 29 #[.float .f64 z1, .float .f64 z2] 29 #[.float .f64 c1, .float .f64 c2] 29 #[.float .f64 x, .float .f64 y] 29 #[.float .f64 0, .float .f64 0] 29
  have LR0 := Lib.hid (HasBlk.of (n := 2) LR.out rfl rfl)
  clear LR
  have hrow := Blk.at (W := (((((w.alloc (.cells #[.float .f64 b1, .float .f64 b2] 29)).alloc (.cells #[.float .f64 z1, .float .f64 z2] 29)).alloc (.cells #[.float .f64 c1, .float .f64 c2] 29)).alloc (.cells #[.float .f64 x, .float .f64 y] 29)).alloc (.cells #[.float .f64 0, .float .f64 0] 29))) (g := w.heap.size + 1 + 1 + 1 + 1 + 1) (by simp) 51 #[.pointer (some ⟨w.heap.size, 0, none⟩), .pointer (some ⟨w.heap.size + 1, 0, none⟩), .pointer (some ⟨w.heap.size + 1 + 1, 0, none⟩), .pointer (some ⟨w.heap.size + 1 + 1 + 1, 0, none⟩)]
  have HRD := Lib.hid (read_n w.heap.size 4 (w.heap.size + 1 + 1 + 1 + 1 + 1) 4 (fun k : Nat => if k = 0 then (b1, b2) else if k = 1 then (z1, z2) else if k = 2 then (c1, c2) else (x, y)) (fun k : Nat => if k = 0 then (P1, Q1) else if k = 1 then (P2, Q2) else if k = 2 then (P3, Q3) else (P4, Q4)) (fun k : Nat => if k = 0 then d1 else if k = 1 then d2 else if k = 2 then d3 else d4) _ (by omega) (by omega)
    (fun k hk => by match k, hk with | 0, _ => exact hrow.cell 0 | 1, _ => exact hrow.cell 1 | 2, _ => exact hrow.cell 2 | 3, _ => exact hrow.cell 3)
    (fun k hk => by match k, hk with | 0, _ => exact LG0_0.out.alloc (.cells #[.pointer (some ⟨w.heap.size, 0, none⟩), .pointer (some ⟨w.heap.size + 1, 0, none⟩), .pointer (some ⟨w.heap.size + 1 + 1, 0, none⟩), .pointer (some ⟨w.heap.size + 1 + 1 + 1, 0, none⟩)] 51) | 1, _ => exact LG1_0.out.alloc (.cells #[.pointer (some ⟨w.heap.size, 0, none⟩), .pointer (some ⟨w.heap.size + 1, 0, none⟩), .pointer (some ⟨w.heap.size + 1 + 1, 0, none⟩), .pointer (some ⟨w.heap.size + 1 + 1 + 1, 0, none⟩)] 51) | 2, _ => exact LG2_0.out.alloc (.cells #[.pointer (some ⟨w.heap.size, 0, none⟩), .pointer (some ⟨w.heap.size + 1, 0, none⟩), .pointer (some ⟨w.heap.size + 1 + 1, 0, none⟩), .pointer (some ⟨w.heap.size + 1 + 1 + 1, 0, none⟩)] 51) | 3, _ => exact LG3_0.out.alloc (.cells #[.pointer (some ⟨w.heap.size, 0, none⟩), .pointer (some ⟨w.heap.size + 1, 0, none⟩), .pointer (some ⟨w.heap.size + 1 + 1, 0, none⟩), .pointer (some ⟨w.heap.size + 1 + 1 + 1, 0, none⟩)] 51))
    (fun k hk => by match k, hk with | 0, _ => exact t1 | 1, _ => exact t2 | 2, _ => exact t3 | 3, _ => exact t4)
    (fun k hk => by match k, hk with | 0, _ => exact m1 | 1, _ => exact m2 | 2, _ => exact m3 | 3, _ => exact m4))
  rw [show anyB (fun k : Nat => if k = 0 then d1 else if k = 1 then d2 else if k = 2 then d3 else d4) 4 = (d1 || d2 || d3 || d4) from by simp [anyB], hnn] at HRD
  have LBr := Lib.hid (LB0.out.alloc (by simp <;> omega) (.cells #[.pointer (some ⟨w.heap.size, 0, none⟩), .pointer (some ⟨w.heap.size + 1, 0, none⟩), .pointer (some ⟨w.heap.size + 1 + 1, 0, none⟩), .pointer (some ⟨w.heap.size + 1 + 1 + 1, 0, none⟩)] 51))
  have LRr := Lib.hid (LR0.out.alloc (.cells #[.pointer (some ⟨w.heap.size, 0, none⟩), .pointer (some ⟨w.heap.size + 1, 0, none⟩), .pointer (some ⟨w.heap.size + 1 + 1, 0, none⟩), .pointer (some ⟨w.heap.size + 1 + 1 + 1, 0, none⟩)] 51))
  have HSZ := Lib.hid (show w.heap.size ≤ (((((((w.alloc (.cells #[.float .f64 b1, .float .f64 b2] 29)).alloc (.cells #[.float .f64 z1, .float .f64 z2] 29)).alloc (.cells #[.float .f64 c1, .float .f64 c2] 29)).alloc (.cells #[.float .f64 x, .float .f64 y] 29)).alloc (.cells #[.float .f64 0, .float .f64 0] 29))).alloc (.cells #[.pointer (some ⟨w.heap.size, 0, none⟩), .pointer (some ⟨w.heap.size + 1, 0, none⟩), .pointer (some ⟨w.heap.size + 1 + 1, 0, none⟩), .pointer (some ⟨w.heap.size + 1 + 1 + 1, 0, none⟩)] 51)).heap.size by simp; omega)
  clear t1 t2 t3 t4 m1 m2 m3 m4 hrow hnn LB0 LR0 LG0_0 LG1_0 LG2_0 LG3_0
  go_enter Tryz.func44, Tryz.ntmps44
  go_wp2_with fail
  refine HRD.out.mono ?_
  rintro e w1 ⟨rfl, hd, kp⟩
  have LB1 := Lib.hid (kp.toBl LBr.out HSZ.out (Nat.le_refl _))
  have LR1 := Lib.hid (kp.hasBk LRr.out (by omega))
  have LG0_1 := Lib.hid (show Blk w1 w.heap.size 29 #[.float .f64 P1, .float .f64 Q1] from hd 0 (by omega))
  have LG1_1 := Lib.hid (show Blk w1 (w.heap.size + 1) 29 #[.float .f64 P2, .float .f64 Q2] from hd 1 (by omega))
  have LG2_1 := Lib.hid (show Blk w1 (w.heap.size + 2) 29 #[.float .f64 P3, .float .f64 Q3] from hd 2 (by omega))
  have LG3_1 := Lib.hid (show Blk w1 (w.heap.size + 3) 29 #[.float .f64 P4, .float .f64 Q4] from hd 3 (by omega))
  clear hd kp LBr LRr HSZ HRD
  go_wp2_with fail
  refine wp_region_held_drew (S := fun W' => Blk W' w.heap.size 29 #[.float .f64 P1, .float .f64 Q1] ∧ Blk W' (w.heap.size + 1) 29 #[.float .f64 P2, .float .f64 Q2] ∧ Blk W' (w.heap.size + 2) 29 #[.float .f64 P3, .float .f64 Q3] ∧ Blk W' (w.heap.size + 3) 29 #[.float .f64 P4, .float .f64 Q4] ∧ HasBlk W' (w.heap.size + 4) 29 2 ∧ Below w.heap.size w W') (by kernel_rfl) (by exact ⟨LG0_1.out.drew, LG1_1.out.drew, LG2_1.out.drew, LG3_1.out.drew, LR1.out.drew, LB1.out.drew⟩) (fun hHeld => ?_)
  refine tk 0 ?_ (hv := by intro W2 hSw; obtain ⟨q0, q1⟩ := hSw.1.c2; go_simp; (try with_reducible rfl))
  try simp only [Act.put, lay]
  refine tk 1 ?_
  try simp only [Act.put, lay]
  refine tk 2 ?_ (hv := by intro W2 hSw; obtain ⟨q0, q1⟩ := hSw.2.2.1.c2; go_simp; (try with_reducible rfl))
  try simp only [Act.put, lay]
  refine tk 3 ?_
  try simp only [Act.put, lay]
  refine tk 4 ?_ (hv := by intro W2 hSw; obtain ⟨q0, q1⟩ := hSw.2.1.c2; go_simp; (try with_reducible rfl))
  try simp only [Act.put, lay]
  refine tk 6 ?_
  try simp only [Act.put, lay]
  refine tk 7 ?_ (hv := by intro W2 hSw; obtain ⟨q0, q1⟩ := hSw.2.2.1.c2; go_simp; (try with_reducible rfl))
  try simp only [Act.put, lay]
  refine tk 8 ?_
  try simp only [Act.put, lay]
  refine tk 9 ?_ (hv := by intro W2 hSw; obtain ⟨q0, q1⟩ := hSw.2.1.c2; go_simp; (try with_reducible rfl))
  try simp only [Act.put, lay]
  refine tk 11 ?_ (hv := by intro W2 hSw; obtain ⟨q0, q1⟩ := hSw.2.2.2.1.c2; go_simp; (try with_reducible rfl))
  try simp only [Act.put, lay]
  refine rdy 5 (fun KK hKK => ?_)
  go_simp
  refine (HL1.out _).mono ?_
  rintro e w2 ⟨g1, A1, n1, c1, E1, rfl, he1, hbA⟩
  go_wp2_with fail
  refine hKK.out _ _ (⟨hHeld.1.keep hbA, hHeld.2.1.keep hbA, hHeld.2.2.1.keep hbA, hHeld.2.2.2.1.keep hbA, hHeld.2.2.2.2.1.keep hbA, hHeld.2.2.2.2.2.trans (hbA.mono hHeld.2.2.2.2.2.size)⟩) (fun _ => ?_)
  clear hKK KK hHeld; rename_i hHeld
  try simp only [Act.put, lay]
  refine rdy 10 (fun KK hKK => ?_)
  go_simp
  refine (HL2.out _).mono ?_
  rintro e w3 ⟨g2, A2, n2, c2, E2, rfl, he2, hbB⟩
  go_wp2_with fail
  refine hKK.out _ _ (⟨hHeld.1.keep hbB, hHeld.2.1.keep hbB, hHeld.2.2.1.keep hbB, hHeld.2.2.2.1.keep hbB, hHeld.2.2.2.2.1.keep hbB, hHeld.2.2.2.2.2.trans (hbB.mono hHeld.2.2.2.2.2.size)⟩) (fun _ => ?_)
  clear hKK KK hHeld; rename_i hHeld
  try simp only [Act.put, lay]
  refine rdy 12 (fun KK hKK => ?_)
  go_simp
  refine (HF.out _ _ _ _ _ _ _ _ _ _ _ (he1.below hbB) he2).mono ?_
  rintro e w4 ⟨rfl, hbC⟩
  go_wp2_with fail
  refine hKK.out _ _ (⟨hHeld.1.keep hbC, hHeld.2.1.keep hbC, hHeld.2.2.1.keep hbC, hHeld.2.2.2.1.keep hbC, hHeld.2.2.2.2.1.keep hbC, hHeld.2.2.2.2.2.trans (hbC.mono hHeld.2.2.2.2.2.size)⟩) (fun _ => ?_)
  clear hKK KK hHeld; rename_i hHeld
  try simp only [Act.put, lay]
  refine rdy 13 (fun KK hKK => ?_)
  have ha0 := hHeld.2.2.2.2.1.someCell 0 (by decide); have hf0 := hHeld.2.2.2.2.1.frozen 0; have ha1 := hHeld.2.2.2.2.1.someCell 1 (by decide); have hf1 := hHeld.2.2.2.2.1.frozen 1; have HK := Lib.hid (hHeld.2.2.2.2.1.setCell [.float .f64 r1, .float .f64 r2] rfl); have F := Lib.hid (below_sets (w0 := w) (r := (w.heap.size + 4)) (by omega) [.float .f64 r1, .float .f64 r2] 0 _ hHeld.2.2.2.2.2)
  go_simp
  refine hKK.out _ _ (⟨hHeld.1.other (by omega) 0 [.float .f64 r1, .float .f64 r2], hHeld.2.1.other (by omega) 0 [.float .f64 r1, .float .f64 r2], hHeld.2.2.1.other (by omega) 0 [.float .f64 r1, .float .f64 r2], hHeld.2.2.2.1.other (by omega) 0 [.float .f64 r1, .float .f64 r2], hHeld.2.2.2.2.1.sets [.float .f64 r1, .float .f64 r2] rfl rfl, below_sets (by omega) [.float .f64 r1, .float .f64 r2] 0 _ hHeld.2.2.2.2.2⟩) (fun _ => ?_)
  clear hKK KK hHeld; rename_i hHeld
  try simp only [Act.put, lay]
  refine wpAnyH_done (by kernel_rfl) ?_ _
  have hk0 := HK.out 0 (by decide)
  have hk1 := HK.out 1 (by decide)
  simp [sets] at hk0 hk1
  clear hHeld HK he1 hbA he2 hbB hbC
  clear LB1 LR1 LG0_1 LG1_1 LG2_1 LG3_1
  go_wp2
  refine bodyPost_ret (v := .agg #[.float .f64 r1, .float .f64 r2]) (by simp [results, Tryz.results44, go_sem, hk0, hk1]) rfl ?_
  exact ⟨rfl, F.out⟩

set_option maxHeartbeats 1600000 in
theorem mulrev_walk (b1 b2 c1 c2 x y r1 r2 : Nat) (w : World) (H : ∀ W, Calls Tryz.prog 44 #[.agg #[.float .f64 b1, .float .f64 b2], .agg #[.float .f64 0, .float .f64 0], .agg #[.float .f64 c1, .float .f64 c2], .agg #[.float .f64 x, .float .f64 y]] W fun e w' => e = .returned (.agg #[.float .f64 r1, .float .f64 r2]) ∧ Below W.heap.size W w') :
    Calls Tryz.prog 29 #[.agg #[.float .f64 b1, .float .f64 b2], .agg #[.float .f64 c1, .float .f64 c2], .agg #[.float .f64 x, .float .f64 y]] w fun e w' => e = .returned (.agg #[.float .f64 r1, .float .f64 r2]) ∧ Below w.heap.size w w' := by
  have K := Lib.hid H
  clear H
  obtain ⟨LB0, LG0_0, LG1_0, LG2_0, LR⟩ := bx4 w #[.float .f64 b1, .float .f64 b2] 29 #[.float .f64 c1, .float .f64 c2] 29 #[.float .f64 x, .float .f64 y] 29 #[.float .f64 0, .float .f64 0] 29
  have LR0 := Lib.hid (HasBlk.of (n := 2) LR.out rfl rfl)
  clear LR
  go_enter Tryz.func29, Tryz.ntmps29
  obtain ⟨q0_0, q0_1⟩ := LG0_0.out.c2
  obtain ⟨q1_0, q1_1⟩ := LG1_0.out.c2
  obtain ⟨q2_0, q2_1⟩ := LG2_0.out.c2
  go_wp2_with fail
  refine (K.out _).mono ?_
  rintro e w1 ⟨rfl, hb1⟩
  have LB1 := stB LB0 hb1 LB0.out.size
  have LR1 := stR LR0 hb1
  have LG0_1 := stG LG0_0 hb1
  have LG1_1 := stG LG1_0 hb1
  have LG2_1 := stG LG2_0 hb1
  clear LB0 LR0 LG0_0 LG1_0 LG2_0
  clear hb1 K q0_0 q0_1 q1_0 q1_1 q2_0 q2_1
  obtain ⟨ha0, hf0, ha1, hf1⟩ := LR1.out.sf2
  have HKK := Lib.hid (LR1.out.setCell [.float .f64 r1, .float .f64 r2] rfl)
  have hk0 := HKK.out 0 (by decide)
  have hk1 := HKK.out 1 (by decide)
  clear HKK
  have F := Lib.hid (below_sets (w0 := w) (r := (w.heap.size + 3)) (by omega) [.float .f64 r1, .float .f64 r2] 0 _ LB1.out)
  simp [sets] at hk0 hk1
  go_wp2
  refine bodyPost_ret (v := .agg #[.float .f64 r1, .float .f64 r2]) (by simp [results, Tryz.results29, go_sem, hk0, hk1]) rfl ?_
  exact ⟨rfl, F.out⟩

end Go.Proofs.YtmjkmoahkanblaaGreat

namespace Go.Proofs.YtmjkmoahkanblaaGreat
open Go.RowKit

theorem rc_neg2 (x y : Rat) : rc (-x) (-y) = - rc x y := by
  unfold rc
  by_cases h : x < y
  · have h1 : ¬ -x < -y := by grind
    have h2 : -y < -x := by grind
    rw [if_neg h1, if_pos h2, if_pos h]; rfl
  · by_cases h' : y < x
    · have h1 : -x < -y := by grind
      rw [if_pos h1, if_neg h, if_pos h']
    · have h1 : ¬ -x < -y := by grind
      have h2 : ¬ -y < -x := by grind
      rw [if_neg h1, if_neg h2, if_neg h, if_neg h']; rfl
theorem ec_neg2 (s : Int) (x : Rat) (t : Int) (y : Rat) : ec (-s) (-x) (-t) (-y) = - ec s x t y := by
  unfold ec
  by_cases h : s = t
  · subst h
    rw [if_pos rfl, if_pos rfl, rc_neg2]
    by_cases h0 : s = 0
    · subst h0; simp
    · rw [if_neg (by omega), if_neg h0]; rfl
  · rw [if_neg (show ¬ -s = -t by omega), if_neg h]
    by_cases h2 : s < t
    · rw [if_neg (show ¬ -s < -t by omega), if_pos h2]; rfl
    · rw [if_pos (show -s < -t by omega), if_neg h2]
theorem ec_turn (i t : Int) (y : Rat) : ec (es i) (ex i) (-t) (-y) = - ec (es (-i)) (ex (-i)) t y := by
  have h := ec_neg2 (es (-i)) (ex (-i)) t y
  rw [es_neg, ex_neg, Int.neg_neg, Rat.neg_neg] at h
  rw [h, es_neg, ex_neg]
/-- A piece turned over. -/
theorem pf_neg (sa : Int) (xa : Rat) (oa : Bool) (sb : Int) (xb : Rat) (ob : Bool) (i j : Int) :
    pf (-sb) (-xb) ob (-sa) (-xa) oa i j = (-(pf sa xa oa sb xb ob (-j) (-i)).2, -(pf sa xa oa sb xb ob (-j) (-i)).1) := by
  have a := rndI_neg (d := 1) (.inr rfl) xb
  have b := rndI_neg (d := -1) (.inl rfl) xa
  rw [show (-(1 : Int)) = -1 from rfl] at a
  rw [show (- -1 : Int) = 1 from rfl] at b
  unfold pf
  by_cases hji : j < i
  · rw [if_pos hji, if_pos (show -i < -j by omega)]; simp
  · rw [if_neg hji, if_neg (show ¬ -i < -j by omega), ec_turn, ec_turn, ec_turn, ec_turn, a, b]
    unfold wg
    obtain ⟨c1, h1⟩ : ∃ z, ec (es (-i)) (ex (-i)) sa xa = z := ⟨_, rfl⟩
    obtain ⟨c2, h2⟩ : ∃ z, ec (es (-j)) (ex (-j)) sb xb = z := ⟨_, rfl⟩
    obtain ⟨c3, h3⟩ : ∃ z, ec (es (-i)) (ex (-i)) sb xb = z := ⟨_, rfl⟩
    obtain ⟨c4, h4⟩ : ∃ z, ec (es (-j)) (ex (-j)) sa xa = z := ⟨_, rfl⟩
    rw [h1, h2, h3, h4]
    by_cases hc : 0 < c2 ∨ (c2 = 0 ∧ ob = true) ∨ c1 < 0 ∨ (c1 = 0 ∧ oa = true)
    · rw [if_pos hc, if_pos (by rcases hc with h | ⟨h, o⟩ | h | ⟨h, o⟩; exact .inr (.inr (.inl (by omega))); exact .inr (.inr (.inr ⟨by omega, o⟩)); exact .inl (by omega); exact .inr (.inl ⟨by omega, o⟩))]
      simp
    · rw [if_neg hc, if_neg (by rintro (h | ⟨h, o⟩ | h | ⟨h, o⟩); exact hc (.inr (.inr (.inl (by omega)))); exact hc (.inr (.inr (.inr ⟨by omega, o⟩))); exact hc (.inl (by omega)); exact hc (.inr (.inl ⟨by omega, o⟩)))]
      by_cases k1 : c3 ≤ 0 <;> by_cases k2 : 0 ≤ c4
      · rw [if_neg (by omega), if_neg (by omega), if_neg (by omega), if_neg (by omega)]; simp
      · rw [if_neg (show ¬ -c3 < 0 by omega), if_pos (show 0 < -c4 by omega), if_pos (show c4 < 0 by omega), if_neg (show ¬ 0 < c3 by omega)]; simp
      · rw [if_pos (show -c3 < 0 by omega), if_neg (show ¬ 0 < -c4 by omega), if_neg (show ¬ c4 < 0 by omega), if_pos (show 0 < c3 by omega)]; simp
      · rw [if_pos (show -c3 < 0 by omega), if_pos (show 0 < -c4 by omega), if_pos (show c4 < 0 by omega), if_pos (show 0 < c3 by omega)]

/-- What positive answers. -/
def po (b1 b2 : Int) (s1 : Int) (x1 : Rat) (s2 : Int) (x2 : Rat) (i j : Int) : Int × Int :=
  if b2 ≤ 0 then ((M : Int), -(M : Int)) else ctO (decide (0 < esx s1 x1) || decide (esx s2 x2 < 0)) i j (pA s1 x1 b1 b2).1 (pA s1 x1 b1 b2).2 (pB s2 x2 b1 b2).1 (pB s2 x2 b1 b2).2
theorem ov_rng {s : Int} {x : Rat} {j : Int} (hs : s = 0 ∨ s = 1 ∨ s = -1) : (-(M : Int) ≤ (ov s x j).1 ∧ (ov s x j).1 ≤ M) ∧ (-(M : Int) ≤ (ov s x j).2 ∧ (ov s x j).2 ≤ M) := by
  have hM : (M : Int) = 9218868437227405312 := rfl
  unfold ov
  have a := rndI_down (x / fl j)
  have b := rndI_up (x / fl j)
  split
  · rcases hs with h | h | h <;> subst h <;> dsimp only <;> omega
  · split <;> dsimp only <;> omega
theorem pA_rng {s : Int} {x : Rat} {b1 b2 : Int} (hs : s = 0 ∨ s = 1 ∨ s = -1) : (-(M : Int) ≤ (pA s x b1 b2).1 ∧ (pA s x b1 b2).1 ≤ M) ∧ (-(M : Int) ≤ (pA s x b1 b2).2 ∧ (pA s x b1 b2).2 ≤ M) := by
  have hM : (M : Int) = 9218868437227405312 := rfl
  unfold pA
  split
  · exact ov_rng hs
  · split
    · exact ov_rng hs
    · dsimp only; omega
theorem pB_rng {s : Int} {x : Rat} {b1 b2 : Int} (hs : s = 0 ∨ s = 1 ∨ s = -1) : (-(M : Int) ≤ (pB s x b1 b2).1 ∧ (pB s x b1 b2).1 ≤ M) ∧ (-(M : Int) ≤ (pB s x b1 b2).2 ∧ (pB s x b1 b2).2 ≤ M) := by
  have hM : (M : Int) = 9218868437227405312 := rfl
  unfold pB
  split
  · exact ov_rng hs
  · split
    · exact ov_rng hs
    · dsimp only; omega
theorem positive_any (b1 b2 : Int) (s1 : Int) (g1 : Bool) (A1 : Option Addr) (n1 c1 : Nat) (E1 : Int) (x1 : Rat) (s2 : Int) (g2 : Bool) (A2 : Option Addr) (n2 c2 : Nat) (E2 : Int) (x2 : Rat) (i j : Int) (w : World)
    (hb1 : -(M : Int) ≤ b1 ∧ b1 ≤ M) (hb2 : -(M : Int) ≤ b2 ∧ b2 ≤ M) (hi : -(M : Int) ≤ i ∧ i ≤ M) (hj : -(M : Int) ≤ j ∧ j ≤ M) (h1 : ExI w s1 g1 A1 n1 c1 E1 x1) (h2 : ExI w s2 g2 A2 n2 c2 E2 x2) :
    Calls Tryz.prog 84 #[.agg #[.float .f64 (pat b1), .float .f64 (pat b2)], .agg #[.int .i64 s1, .bool g1, .slice A1 n1 c1, .int .i64 E1], .agg #[.int .i64 s2, .bool g2, .slice A2 n2 c2, .int .i64 E2], .agg #[.float .f64 (pat i), .float .f64 (pat j)]] w
      fun e w' => e = .returned (.agg #[.float .f64 (pat (po b1 b2 s1 x1 s2 x2 i j).1), .float .f64 (pat (po b1 b2 s1 x1 s2 x2 i j).2)]) ∧ Below w.heap.size w w' := by
  have hM : (M : Int) = 9218868437227405312 := rfl
  unfold po
  by_cases h0 : b2 ≤ 0
  · rw [if_pos h0, pat_max, pat_min]
    refine positive_none _ _ s1 g1 A1 n1 c1 E1 s2 g2 A2 n2 c2 E2 _ _ w ?_
    by_cases hz : b2 = 0
    · exact .inr (ord0_eq hz)
    · exact .inl (ord0_lt hb2 (by omega))
  · rw [if_neg h0]
    have hmx := fun W ts t => run_maxf hb1 (show -(M : Int) ≤ 0 ∧ (0 : Int) ≤ M by omega) W ts t
    rw [pat_zero] at hmx
    have hF : -(M : Int) ≤ max b1 0 ∧ max b1 0 ≤ M := by omega
    have of : (FloatKind.f64.format.order (pat (max b1 0)) 0 == some Ordering.gt) = decide (0 < b1) := by
      by_cases h : 0 < b1
      · rw [ord0_gt hF (by omega), decide_eq_true h]; rfl
      · rw [ord0_eq (by omega), decide_eq_false h]; rfl
    have S1 := fun W => sign_any s1 g1 A1 n1 c1 E1 W
    have S2 := fun W => sign_any s2 g2 A2 n2 c2 E2 W
    rw [h1.sg] at S1
    rw [h2.sg] at S2
    refine positive_walk _ _ s1 g1 A1 n1 c1 E1 s2 g2 A2 n2 c2 E2 _ _ x1 x2 _ _ _ _ _ _ _ _ _ _ _ _ _ w (ord0_gt hb2 (by omega)) hmx of S1 S2 rfl rfl rfl h1 h2 ⟨fun hc W he => ?_, fun hc hf W he => ?_, fun hc hf => ?_⟩ ⟨fun hc W he => ?_, fun hc hf W he => ?_, fun hc hf => ?_⟩ (fun W => rcut2_any _ i j _ _ _ _ W hi hj (pA_rng (by have := h1.1; omega)).1 (pA_rng (by have := h1.1; omega)).2 (pB_rng (by have := h2.1; omega)).1 (pB_rng (by have := h2.1; omega)).2)
    · have h := over_any s1 g1 A1 n1 c1 E1 x1 b2 W he (by omega) hb2.2
      unfold pA
      rw [if_pos (of_decide_eq_true hc)]
      exact h
    · have hb0 := of_decide_eq_true hf
      have h := over_any s1 g1 A1 n1 c1 E1 x1 b1 W he hb0 hb1.2
      unfold pA
      rw [if_neg (of_decide_eq_false hc), if_pos hb0, show max b1 0 = b1 from by omega]
      exact h
    · unfold pA
      rw [if_neg (of_decide_eq_false hc), if_neg (of_decide_eq_false hf)]
      exact ⟨pat_min, pat_min⟩
    · have h := over_any s2 g2 A2 n2 c2 E2 x2 b2 W he (by omega) hb2.2
      unfold pB
      rw [if_pos (of_decide_eq_true hc)]
      exact h
    · have hb0 := of_decide_eq_true hf
      have h := over_any s2 g2 A2 n2 c2 E2 x2 b1 W he hb0 hb1.2
      unfold pB
      rw [if_neg (of_decide_eq_false hc), if_pos hb0, show max b1 0 = b1 from by omega]
      exact h
    · unfold pB
      rw [if_neg (of_decide_eq_false hc), if_neg (of_decide_eq_false hf)]
      exact ⟨pat_max, pat_max⟩

/-- The conditions on a numerator's ends and a divisor's. -/
structure NumOk (s1 : Int) (x1 : Rat) (s2 : Int) (x2 : Rat) : Prop where
  a1 : s1 = 0 ∨ s1 = -1
  a2 : s1 ≠ 0 → x1 = 0
  b1 : s2 = 0 ∨ s2 = 1
  b2 : s2 ≠ 0 → x2 = 0
  le : s1 = 0 → s2 = 0 → x1 ≤ x2
/-- What Within makes of the quotients by what of b lies above 0. -/
def PF (b1 b2 : Int) (s1 : Int) (x1 : Rat) (s2 : Int) (x2 : Rat) (i j : Int) : Int × Int :=
  if b2 ≤ 0 then ((M : Int), -(M : Int)) else pf (qA s1 x1 b1 b2).1 (qA s1 x1 b1 b2).2.1 (qA s1 x1 b1 b2).2.2 (qB s2 x2 b1 b2).1 (qB s2 x2 b1 b2).2.1 (qB s2 x2 b1 b2).2.2 i j
def Ne (i j : Int) : Prop := -(M : Int) ≤ i ∧ i ≤ j ∧ j ≤ M ∧ i < M ∧ -(M : Int) < j
theorem Ne.iv {i j : Int} (h : Ne i j) : Iv i j := .inl h
theorem Ne.neg {i j : Int} (h : Ne i j) : Ne (-j) (-i) := by unfold Ne at *; omega
theorem po_PF {b1 b2 s1 s2 : Int} {x1 x2 : Rat} {i j : Int} (k : NumOk s1 x1 s2 x2) (hb : Ne b1 b2) (hx : Ne i j) : po b1 b2 s1 x1 s2 x2 i j = PF b1 b2 s1 x1 s2 x2 i j := by
  unfold po PF
  by_cases h : b2 ≤ 0
  · rw [if_pos h, if_pos h]
  · rw [if_neg h, if_neg h]
    unfold Ne at hb hx
    exact ct_pf k.a1 k.a2 k.b1 k.b2 k.le hb.2.1 (by omega) hb.2.2.1 hb.2.2.2.1 i j hx
theorem PF_iv {b1 b2 s1 s2 : Int} {x1 x2 : Rat} (k : NumOk s1 x1 s2 x2) (hb : Ne b1 b2) (i j : Int) (hx : Iv i j) : Iv (PF b1 b2 s1 x1 s2 x2 i j).1 (PF b1 b2 s1 x1 s2 x2 i j).2 := by
  unfold PF
  by_cases h : b2 ≤ 0
  · rw [if_pos h]; exact Iv.none
  · rw [if_neg h]
    unfold Ne at hb
    refine pf_iv ?_ ?_ ?_ i j hx
    · rcases qA_kind k.a1 k.a2 hb.2.1 (by omega) hb.2.2.1 hb.2.2.2.1 with k | k | k | k <;> omega
    · rcases qB_kind k.b1 k.b2 hb.2.1 (by omega) hb.2.2.1 hb.2.2.2.1 with k | k | k | k <;> omega
    · exact q_le k.a1 k.a2 k.b1 k.b2 k.le hb.2.1 (by omega) hb.2.2.1 hb.2.2.2.1
/-- What factor answers. -/
def fa (b1 b2 : Int) (s1 : Int) (x1 : Rat) (s2 : Int) (x2 : Rat) (i j : Int) : Int × Int :=
  if (b1 ≤ 0 ∧ 0 ≤ b2) ∧ esx s1 x1 ≤ 0 ∧ 0 ≤ esx s2 x2 then (i, j)
  else (min (PF b1 b2 s1 x1 s2 x2 i j).1 (-(PF (-b2) (-b1) s1 x1 s2 x2 (-j) (-i)).2), max (PF b1 b2 s1 x1 s2 x2 i j).2 (-(PF (-b2) (-b1) s1 x1 s2 x2 (-j) (-i)).1))
theorem mirror_idx (i j : Int) (w : World) (h : Iv i j) : Calls Tryz.prog 59 #[.agg #[.float .f64 (pat i), .float .f64 (pat j)]] w fun e w' => e = .returned (.agg #[.float .f64 (pat (-j)), .float .f64 (pat (-i))]) ∧ Below w.heap.size w w' := by
  have h2 := mirrorf (pat i) (pat j) w (pat_lt h.lo.1 h.lo.2) (pat_lt h.hi.1 h.hi.2)
  rw [rd_pat h] at h2
  exact h2
theorem factor_any (b1 b2 : Int) (s1 : Int) (g1 : Bool) (A1 : Option Addr) (n1 c1 : Nat) (E1 : Int) (x1 : Rat) (s2 : Int) (g2 : Bool) (A2 : Option Addr) (n2 c2 : Nat) (E2 : Int) (x2 : Rat) (i j : Int) (w : World)
    (hb : Ne b1 b2) (hx : Ne i j) (k : NumOk s1 x1 s2 x2) (h1 : ExI w s1 g1 A1 n1 c1 E1 x1) (h2 : ExI w s2 g2 A2 n2 c2 E2 x2) :
    Calls Tryz.prog 116 #[.agg #[.float .f64 (pat b1), .float .f64 (pat b2)], .agg #[.int .i64 s1, .bool g1, .slice A1 n1 c1, .int .i64 E1], .agg #[.int .i64 s2, .bool g2, .slice A2 n2 c2, .int .i64 E2], .agg #[.float .f64 (pat i), .float .f64 (pat j)]] w
      fun e w' => e = .returned (.agg #[.float .f64 (pat (fa b1 b2 s1 x1 s2 x2 i j).1), .float .f64 (pat (fa b1 b2 s1 x1 s2 x2 i j).2)]) ∧ Below w.heap.size w w' := by
  have S1 := fun W => sign_any s1 g1 A1 n1 c1 E1 W
  have S2 := fun W => sign_any s2 g2 A2 n2 c2 E2 W
  rw [h1.sg] at S1
  rw [h2.sg] at S2
  have P1 := fun W e1 e2 => positive_any b1 b2 s1 g1 A1 n1 c1 E1 x1 s2 g2 A2 n2 c2 E2 x2 i j W hb.iv.lo hb.iv.hi hx.iv.lo hx.iv.hi e1 e2
  have P2 := fun W e1 e2 => positive_any (-b2) (-b1) s1 g1 A1 n1 c1 E1 x1 s2 g2 A2 n2 c2 E2 x2 (-j) (-i) W hb.neg.iv.lo hb.neg.iv.hi hx.neg.iv.lo hx.neg.iv.hi e1 e2
  rw [po_PF k hb hx] at P1
  rw [po_PF k hb.neg hx.neg] at P2
  have v1 := PF_iv k hb i j hx.iv
  have v2 := PF_iv k hb.neg (-j) (-i) hx.neg.iv
  have v3 : Iv (-(PF (-b2) (-b1) s1 x1 s2 x2 (-j) (-i)).2) (-(PF (-b2) (-b1) s1 x1 s2 x2 (-j) (-i)).1) := v2.negg
  have h := factor_walk _ _ s1 g1 A1 n1 c1 E1 s2 g2 A2 n2 c2 E2 _ _ x1 x2 _ _ _ _ _ _ _ _ _ _ _ _ _ _ _ _ w S1 S2 h1 h2 (fun W => has_any b1 b2 W hb.iv.lo hb.iv.hi) rfl P1 (fun W => mirror_idx b1 b2 W hb.iv) (fun W => mirror_idx i j W hx.iv) P2 (fun W => mirror_idx _ _ W v2) (fun W => hullf _ _ _ _ W v1 v3)
  refine h.mono ?_
  rintro e w' ⟨rfl, hb'⟩
  refine ⟨?_, hb'⟩
  unfold fa
  by_cases hc : (b1 ≤ 0 ∧ 0 ≤ b2) ∧ esx s1 x1 ≤ 0 ∧ 0 ≤ esx s2 x2
  · rw [if_pos hc, decide_eq_true hc.1, decide_eq_true hc.2.1, decide_eq_true hc.2.2]; rfl
  · rw [if_neg hc]
    have : (decide (b1 ≤ 0 ∧ 0 ≤ b2) && decide (esx s1 x1 ≤ 0) && decide (0 ≤ esx s2 x2)) = false := by
      rw [Bool.eq_false_iff]
      intro h
      simp only [Bool.and_eq_true, decide_eq_true_eq] at h
      exact hc ⟨h.1.1, h.1.2, h.2⟩
    rw [this]; rfl

theorem ne_or {i j : Int} (h : Iv i j) (h2 : ¬ j < i) : Ne i j := by
  rcases h with h | ⟨rfl, rfl⟩
  · exact h
  · have hM : (M : Int) = 9218868437227405312 := rfl
    omega
/-- The numerator of a fused one. -/
theorem numok_sum {i j i' j' : Int} (h : Ne i j) (h' : Ne i' j') : NumOk (es2 (es i) (es i')) (ex2 (es i) (ex i) (es i') (ex i')) (es2 (es j) (es j')) (ex2 (es j) (ex j) (es j') (ex j')) := by
  have hM : (M : Int) = 9218868437227405312 := rfl
  unfold Ne at h h'
  have e1 : es i = 0 ∨ es i = -1 := by unfold es; split <;> (try split) <;> omega
  have e2 : es i' = 0 ∨ es i' = -1 := by unfold es; split <;> (try split) <;> omega
  have e3 : es j = 0 ∨ es j = 1 := by unfold es; split <;> (try split) <;> omega
  have e4 : es j' = 0 ∨ es j' = 1 := by unfold es; split <;> (try split) <;> omega
  have z : ∀ k : Int, es k ≠ 0 → ex k = 0 := fun k hk => by unfold ex; rw [if_neg hk]
  have nz : ∀ a b : Int, es2 (es a) (es b) ≠ 0 → ex2 (es a) (ex a) (es b) (ex b) = 0 := fun a b hk => by
    unfold es2 at hk
    unfold ex2
    by_cases ha : es a ≠ 0
    · rw [if_pos ha]; exact z a ha
    · rw [if_neg ha] at hk
      rw [if_neg ha, if_pos hk]; exact z b hk
  have v0 : ∀ a b : Int, es2 (es a) (es b) = 0 → es a = 0 ∧ es b = 0 := fun a b hk => by
    unfold es2 at hk
    by_cases ha : es a = 0
    · rw [if_neg (by omega)] at hk; exact ⟨ha, hk⟩
    · rw [if_pos ha] at hk; exact absurd hk ha
  refine ⟨?_, nz _ _, ?_, nz _ _, fun p q => ?_⟩
  · unfold es2; split <;> omega
  · unfold es2; split <;> omega
  · obtain ⟨p1, p2⟩ := v0 _ _ p
    obtain ⟨q1, q2⟩ := v0 _ _ q
    unfold ex2
    rw [if_neg (by omega), if_neg (by omega), if_neg (by omega), if_neg (by omega), ex_zero p1, ex_zero p2, ex_zero q1, ex_zero q2]
    have a := fl_le_iff.2 h.2.1
    have b := fl_le_iff.2 h'.2.1
    grind
theorem numok_idx {i j : Int} (h : Ne i j) : NumOk (es i) (ex i) (es j) (ex j) := by
  have hM : (M : Int) = 9218868437227405312 := rfl
  unfold Ne at h
  refine ⟨by unfold es; split <;> (try split) <;> omega, fun hk => by unfold ex; rw [if_neg hk], by unfold es; split <;> (try split) <;> omega, fun hk => by unfold ex; rw [if_neg hk], fun p q => ?_⟩
  rw [ex_zero p, ex_zero q]
  exact fl_le_iff.2 h.2.1
/-- What FMARev answers. -/
def fmr (i1 j1 iz jz i2 j2 i3 j3 : Int) : Int × Int :=
  if j1 < i1 ∨ jz < iz ∨ j2 < i2 ∨ j3 < i3 then ((M : Int), -(M : Int))
  else fa i1 j1 (es2 (es i2) (es (-jz))) (ex2 (es i2) (ex i2) (es (-jz)) (ex (-jz))) (es2 (es j2) (es (-iz))) (ex2 (es j2) (ex j2) (es (-iz)) (ex (-iz))) i3 j3
theorem fmarev_any (b1 b2 z1 z2 c1 c2 x y : Nat) (w : World) (hb1 : b1 < 18446744073709551616) (hb2 : b2 < 18446744073709551616) (hz1 : z1 < 18446744073709551616) (hz2 : z2 < 18446744073709551616) (hc1 : c1 < 18446744073709551616) (hc2 : c2 < 18446744073709551616) (hx : x < 18446744073709551616) (hy : y < 18446744073709551616) :
    Calls Tryz.prog 44 #[.agg #[.float .f64 b1, .float .f64 b2], .agg #[.float .f64 z1, .float .f64 z2], .agg #[.float .f64 c1, .float .f64 c2], .agg #[.float .f64 x, .float .f64 y]] w fun e w' =>
      e = .returned (.agg #[.float .f64 (pat (fmr (rd b1 b2).1 (rd b1 b2).2 (rd z1 z2).1 (rd z1 z2).2 (rd c1 c2).1 (rd c1 c2).2 (rd x y).1 (rd x y).2).1), .float .f64 (pat (fmr (rd b1 b2).1 (rd b1 b2).2 (rd z1 z2).1 (rd z1 z2).2 (rd c1 c2).1 (rd c1 c2).2 (rd x y).1 (rd x y).2).2)]) ∧ Below w.heap.size w w' := by
  have v1 := rd_iv b1 b2
  have v2 := rd_iv z1 z2
  have v3 := rd_iv c1 c2
  have v4 := rd_iv x y
  have t1 := fun W => readf b1 b2 W hb1 hb2
  have t2 := fun W => readf z1 z2 W hz1 hz2
  have t3 := fun W => readf c1 c2 W hc1 hc2
  have t4 := fun W => readf x y W hx hy
  obtain ⟨⟨i1, j1⟩, r1⟩ : ∃ z, rd b1 b2 = z := ⟨_, rfl⟩
  obtain ⟨⟨iz, jz⟩, r2⟩ : ∃ z, rd z1 z2 = z := ⟨_, rfl⟩
  obtain ⟨⟨i2, j2⟩, r3⟩ : ∃ z, rd c1 c2 = z := ⟨_, rfl⟩
  obtain ⟨⟨i3, j3⟩, r4⟩ : ∃ z, rd x y = z := ⟨_, rfl⟩
  rw [r1] at v1 t1
  rw [r2] at v2 t2
  rw [r3] at v3 t3
  rw [r4] at v4 t4
  rw [r1, r2, r3, r4]
  dsimp only at *
  have m1 := em_idx v1
  have m2 := em_idx v2
  have m3 := em_idx v3
  have m4 := em_idx v4
  unfold fmr
  by_cases hno : j1 < i1 ∨ jz < iz ∨ j2 < i2 ∨ j3 < i3
  · rw [if_pos hno, pat_max, pat_min]
    exact fmarev_none _ _ _ _ _ _ _ _ _ _ _ _ _ _ _ _ _ _ _ _ w t1 m1 t2 m2 t3 m3 t4 m4 (by simp; omega)
  · rw [if_neg hno]
    have n1 := ne_or v1 (by omega)
    have n2 := ne_or v2 (by omega)
    have n3 := ne_or v3 (by omega)
    have n4 := ne_or v4 (by omega)
    have k := numok_sum n3 n2.neg
    have L1 := fun W => less_gen i2 jz W v3.lo v2.hi
    have L2 := fun W => less_gen j2 iz W v3.hi v2.lo
    exact fmarev_some _ _ _ _ _ _ _ _ _ _ _ _ _ _ _ _ _ _ _ _ _ _ _ _ _ _ w t1 m1 t2 m2 t3 m3 t4 m4 (by simp; omega) L1 L2 (fun g1 A1 n1' c1' E1 g2 A2 n2' c2' E2 W e1 e2 => factor_any i1 j1 _ g1 A1 n1' c1' E1 _ _ g2 A2 n2' c2' E2 _ i3 j3 W n1 n4 k e1 e2)
/-- What MulRev answers. -/
def mlr (i1 j1 i2 j2 i3 j3 : Int) : Int × Int :=
  if j1 < i1 ∨ j2 < i2 ∨ j3 < i3 then ((M : Int), -(M : Int)) else fa i1 j1 (es i2) (ex i2) (es j2) (ex j2) i3 j3
theorem fmr_mlr {i1 j1 i2 j2 i3 j3 : Int} (h2 : Iv i2 j2) : fmr i1 j1 0 0 i2 j2 i3 j3 = mlr i1 j1 i2 j2 i3 j3 := by
  unfold fmr mlr
  by_cases hno : j1 < i1 ∨ j2 < i2 ∨ j3 < i3
  · rw [if_pos hno, if_pos (by omega)]
  · rw [if_neg hno, if_neg (by omega)]
    have e1 : ∀ k : Int, es2 (es k) (es (-0)) = es k := fun k => by
      unfold es2
      rw [show es (-0) = 0 from es_nought]
      split
      · rfl
      · omega
    have e2 : ∀ k : Int, ex2 (es k) (ex k) (es (-0)) (ex (-0)) = ex k := fun k => by
      unfold ex2
      rw [show es (-0) = 0 from es_nought, show ex (-0) = 0 from ex_nought]
      split
      · rfl
      · rw [if_neg (by omega)]; grind
    rw [e1, e1, e2, e2]
theorem rd_nought : rd 0 0 = (0, 0) := by
  have h := rd_pat (i := 0) (j := 0) (.inl (by have hM : (M : Int) = 9218868437227405312 := rfl; omega))
  rwa [pat_zero] at h
theorem mulrev_any (b1 b2 c1 c2 x y : Nat) (w : World) (hb1 : b1 < 18446744073709551616) (hb2 : b2 < 18446744073709551616) (hc1 : c1 < 18446744073709551616) (hc2 : c2 < 18446744073709551616) (hx : x < 18446744073709551616) (hy : y < 18446744073709551616) :
    Calls Tryz.prog 29 #[.agg #[.float .f64 b1, .float .f64 b2], .agg #[.float .f64 c1, .float .f64 c2], .agg #[.float .f64 x, .float .f64 y]] w fun e w' =>
      e = .returned (.agg #[.float .f64 (pat (mlr (rd b1 b2).1 (rd b1 b2).2 (rd c1 c2).1 (rd c1 c2).2 (rd x y).1 (rd x y).2).1), .float .f64 (pat (mlr (rd b1 b2).1 (rd b1 b2).2 (rd c1 c2).1 (rd c1 c2).2 (rd x y).1 (rd x y).2).2)]) ∧ Below w.heap.size w w' := by
  refine mulrev_walk b1 b2 c1 c2 x y _ _ w fun W => ?_
  have h := fmarev_any b1 b2 0 0 c1 c2 x y W hb1 hb2 (by omega) (by omega) hc1 hc2 hx hy
  rw [rd_nought, fmr_mlr (rd_iv c1 c2)] at h
  exact h

end Go.Proofs.YtmjkmoahkanblaaGreat

namespace Go.Proofs.YtmjkmoahkanblaaGreat
open Go.RowKit

set_option maxHeartbeats 3200000 in
theorem none6 (w : World) : Calls Tryz.prog 125 #[] w (NewSet w 1 true 0 0 0 0) := by
  have HF := Lib.hid fun W => finite_nat 0 W (by omega)
  obtain ⟨LB0, LR⟩ := bx1 w #[.bool false, .int .i64 0, .bool false, .slice none 0 0, .slice none 0 0, .int .i64 0, .bool false, .slice none 0 0, .slice none 0 0] 69
  have LR0 := Lib.hid (HasBlk.of (n := 9) LR.out rfl rfl)
  clear LR
  go_enter Tryz.func125, Tryz.ntmps125
  go_wp2_with fail
  refine (HF.out _).mono ?_
  rintro e w1 ⟨g3, A3, n3, c3, B3, m3, d3, rfl, h3, hb3⟩
  have LB1 := stB LB0 hb3 LB0.out.size
  have LR1 := stR LR0 hb3
  clear LB0 LR0
  go_wp2_with fail
  refine (HF.out _).mono ?_
  rintro e w2 ⟨g4, A4, n4, c4, B4, m4, d4, rfl, h4, hb4⟩
  have LB2 := stB LB1 hb4 LB1.out.size
  have LR2 := stR LR1 hb4
  clear LB1 LR1
  have FR1 := Lib.hid (LR2.out.rat (h3.below hb4) [.bool true, .int .i64 0, .bool g3, .slice A3 n3 c3, .slice B3 m3 d3, .int .i64 0, .bool g4, .slice A4 n4 c4, .slice B4 m4 d4])
  have FR2 := Lib.hid (LR2.out.rat h4 [.bool true, .int .i64 0, .bool g3, .slice A3 n3 c3, .slice B3 m3 d3, .int .i64 0, .bool g4, .slice A4 n4 c4, .slice B4 m4 d4])
  clear h3 h4 hb3 hb4 HF
  obtain ⟨ha0, hf0, ha1, hf1, ha2, hf2, ha3, hf3, ha4, hf4, ha5, hf5, ha6, hf6, ha7, hf7, ha8, hf8⟩ := LR2.out.sf9
  have HKK := Lib.hid (LR2.out.setCell [.bool true, .int .i64 0, .bool g3, .slice A3 n3 c3, .slice B3 m3 d3, .int .i64 0, .bool g4, .slice A4 n4 c4, .slice B4 m4 d4] rfl)
  have hk0 := HKK.out 0 (by decide)
  have hk1 := HKK.out 1 (by decide)
  have hk2 := HKK.out 2 (by decide)
  have hk3 := HKK.out 3 (by decide)
  have hk4 := HKK.out 4 (by decide)
  have hk5 := HKK.out 5 (by decide)
  have hk6 := HKK.out 6 (by decide)
  have hk7 := HKK.out 7 (by decide)
  have hk8 := HKK.out 8 (by decide)
  clear HKK
  have F := Lib.hid (below_sets (w0 := w) (r := w.heap.size) (by omega) [.bool true, .int .i64 0, .bool g3, .slice A3 n3 c3, .slice B3 m3 d3, .int .i64 0, .bool g4, .slice A4 n4 c4, .slice B4 m4 d4] 0 _ LB2.out)
  simp [sets] at hk0 hk1 hk2 hk3 hk4 hk5 hk6 hk7 hk8
  go_wp2
  refine bodyPost_ret (v := .agg #[.bool true, .int .i64 0, .bool g3, .slice A3 n3 c3, .slice B3 m3 d3, .int .i64 0, .bool g4, .slice A4 n4 c4, .slice B4 m4 d4]) (by simp [results, Tryz.results125, go_sem, hk0, hk1, hk2, hk3, hk4, hk5, hk6, hk7, hk8]) rfl ?_
  exact ⟨_, _, _, _, _, _, _, _, _, _, _, _, _, _, rfl, FR1.out, FR2.out, F.out⟩

end Go.Proofs.YtmjkmoahkanblaaGreat
