/-
Walks: package vergeref10, minus (of a piece).
-/
import Derived.Test.YthlmlmfebpjgdaaGreatDoorM04
import Derived.Test.YthlmlmfebpjgdaaGreatDoorM09
import Derived.Test.YthlmlmfebpjgdaaGreatDoorM06
import Derived.Deep.DeepCutAuto
set_option linter.unusedSimpArgs false
set_option linter.unusedVariables false
set_option maxHeartbeats 12800000

namespace Go.Proofs.YthlmlmfebpjgdaaGreatDoor
open Go.RowKit
theorem minusp_any (K : Nat) (o : Bool) (s1 : Int) (g1 : Bool) (A1 : Option Addr) (n1 c1 : Nat) (B1 : Option Addr) (m1 d1 : Nat) (x1 : Rat) (N1 : Int) (o1 : Bool) (s2 : Int) (g2 : Bool) (A2 : Option Addr) (n2 c2 : Nat) (B2 : Option Addr) (m2 d2 : Nat) (x2 : Rat) (N2 : Int) (o2 : Bool) (w : World) (h1 : RatV w K g1 (.slice A1 n1 c1) (.slice B1 m1 d1) x1) (h2 : RatV w K g2 (.slice A2 n2 c2) (.slice B2 m2 d2) x2) (hK : K ≤ 1073741824) (hs1 : -1 ≤ s1 ∧ s1 ≤ 1) (hs2 : -1 ≤ s2 ∧ s2 ≤ 1) :
    Calls Tryz.prog 109 #[.agg #[.bool o, .int .i64 s1, .bool g1, .slice A1 n1 c1, .slice B1 m1 d1, .int .i64 N1, .bool o1, .int .i64 s2, .bool g2, .slice A2 n2 c2, .slice B2 m2 d2, .int .i64 N2, .bool o2]] w (NewPiece w K o (-s2) (-x2) N2 o2 (-s1) (-x1) N1 o1) := by
  have HR1 := Lib.hid fun W (hW : Below w.heap.size w W) => (rneg_any K g1 (.slice A1 n1 c1) (.slice B1 m1 d1) x1 W (h1.below hW) hK).mono fun _ _ h => h.s
  have HR2 := Lib.hid fun W (hW : Below w.heap.size w W) => (rneg_any K g2 (.slice A2 n2 c2) (.slice B2 m2 d2) x2 W (h2.below hW) hK).mono fun _ _ h => h.s
  obtain ⟨t1, ht1⟩ : ∃ t, -s1 = t := ⟨_, rfl⟩
  obtain ⟨t2, ht2⟩ : ∃ t, -s2 = t := ⟨_, rfl⟩
  rw [ht1]
  rw [ht2]
  have hw1 : IntKind.i64.wrap (-s1) = t1 := by rw [IntKind.wrap_i64]; omega
  have hw2 : IntKind.i64.wrap (-s2) = t2 := by rw [IntKind.wrap_i64]; omega
  clear h1 h2 hK ht1 ht2
  obtain ⟨LB0, LG0_0, LR⟩ := bx2 w #[.bool o, .int .i64 s1, .bool g1, .slice A1 n1 c1, .slice B1 m1 d1, .int .i64 N1, .bool o1, .int .i64 s2, .bool g2, .slice A2 n2 c2, .slice B2 m2 d2, .int .i64 N2, .bool o2] 84 #[.bool false, .int .i64 0, .bool false, .slice none 0 0, .slice none 0 0, .int .i64 0, .bool false, .int .i64 0, .bool false, .slice none 0 0, .slice none 0 0, .int .i64 0, .bool false] 84
  have LR0 := Lib.hid (HasBlk.of (n := 13) LR.out rfl rfl)
  clear LR
  go_enter Tryz.func109, Tryz.ntmps109
  go_upto_region 1 with fail
  obtain ⟨Wa, hWa⟩ : ∃ X, ((w.alloc (.cells #[.bool o, .int .i64 s1, .bool g1, .slice A1 n1 c1, .slice B1 m1 d1, .int .i64 N1, .bool o1, .int .i64 s2, .bool g2, .slice A2 n2 c2, .slice B2 m2 d2, .int .i64 N2, .bool o2] 84)).alloc (.cells #[.bool false, .int .i64 0, .bool false, .slice none 0 0, .slice none 0 0, .int .i64 0, .bool false, .int .i64 0, .bool false, .slice none 0 0, .slice none 0 0, .int .i64 0, .bool false] 84)) = X := ⟨_, rfl⟩
  rw [hWa] at LB0 LR0 LG0_0 ⊢
  clear hWa
  obtain ⟨q0_0, q0_1, q0_2, q0_3, q0_4, q0_5, q0_6, q0_7, q0_8, q0_9, q0_10, q0_11, q0_12⟩ := LG0_0.out.c13
  go_upto_region 2 with fail
  clear q0_0 q0_1 q0_2 q0_3 q0_4 q0_5 q0_6 q0_7 q0_8 q0_9 q0_10 q0_11 q0_12
  have hlt1 := LR0.out.lt
  have LB1 := Lib.hid (LB0.out.alloc LB0.out.size (.cells #[.int .i64 s1, .bool g1, .slice A1 n1 c1, .slice B1 m1 d1, .int .i64 N1, .bool o1] 82))
  have LR1 := Lib.hid (LR0.out.alloc (.cells #[.int .i64 s1, .bool g1, .slice A1 n1 c1, .slice B1 m1 d1, .int .i64 N1, .bool o1] 82))
  have LG0_1 := Lib.hid (LG0_0.out.alloc (.cells #[.int .i64 s1, .bool g1, .slice A1 n1 c1, .slice B1 m1 d1, .int .i64 N1, .bool o1] 82))
  have LG1_1 := Lib.hid (Blk.new Wa 82 #[.int .i64 s1, .bool g1, .slice A1 n1 c1, .slice B1 m1 d1, .int .i64 N1, .bool o1])
  clear LB0 LR0 LG0_0
  obtain ⟨Wb, hWb⟩ : ∃ W, Wa.alloc (.cells #[.int .i64 s1, .bool g1, .slice A1 n1 c1, .slice B1 m1 d1, .int .i64 N1, .bool o1] 82) = W := ⟨_, rfl⟩
  rw [hWb] at LB1 LR1 LG0_1 LG1_1 ⊢
  clear hWb
  obtain ⟨h, hg⟩ : ∃ g, Wa.heap.size = g := ⟨_, rfl⟩
  rw [hg] at LG1_1 hlt1 ⊢
  clear hg
  have hlt := hlt1
  have hl1 := LG1_1.out.lt
  clear hlt1
  obtain ⟨q0_0, q0_1, q0_2, q0_3, q0_4, q0_5, q0_6, q0_7, q0_8, q0_9, q0_10, q0_11, q0_12⟩ := LG0_1.out.c13
  go_upto_region 3 with fail
  clear q0_0 q0_1 q0_2 q0_3 q0_4 q0_5 q0_6 q0_7 q0_8 q0_9 q0_10 q0_11 q0_12
  have hlt2 := LR1.out.lt
  have LB2 := Lib.hid (LB1.out.alloc LB1.out.size (.cells #[.int .i64 s2, .bool g2, .slice A2 n2 c2, .slice B2 m2 d2, .int .i64 N2, .bool o2] 82))
  have LR2 := Lib.hid (LR1.out.alloc (.cells #[.int .i64 s2, .bool g2, .slice A2 n2 c2, .slice B2 m2 d2, .int .i64 N2, .bool o2] 82))
  have LG0_2 := Lib.hid (LG0_1.out.alloc (.cells #[.int .i64 s2, .bool g2, .slice A2 n2 c2, .slice B2 m2 d2, .int .i64 N2, .bool o2] 82))
  have LG1_2 := Lib.hid (LG1_1.out.alloc (.cells #[.int .i64 s2, .bool g2, .slice A2 n2 c2, .slice B2 m2 d2, .int .i64 N2, .bool o2] 82))
  have LG2_2 := Lib.hid (Blk.new Wb 82 #[.int .i64 s2, .bool g2, .slice A2 n2 c2, .slice B2 m2 d2, .int .i64 N2, .bool o2])
  clear LB1 LR1 LG0_1 LG1_1
  obtain ⟨W1, hWb⟩ : ∃ W, Wb.alloc (.cells #[.int .i64 s2, .bool g2, .slice A2 n2 c2, .slice B2 m2 d2, .int .i64 N2, .bool o2] 82) = W := ⟨_, rfl⟩
  rw [hWb] at LB2 LR2 LG0_2 LG1_2 LG2_2 ⊢
  clear hWb
  obtain ⟨h2, hg⟩ : ∃ g, Wb.heap.size = g := ⟨_, rfl⟩
  rw [hg] at LG2_2 hlt2 hl1 ⊢
  clear hg
  have q1_0 := LG1_2.out.ce 0 rfl
  have f0 := LG1_2.out.frozen 0
  go_upto_region 4 with fail
  clear q1_0 f0
  have LB3 := Lib.hid (LB2.out.setCell (p := ⟨h, 0, none⟩) (show w.heap.size ≤ h by omega) (.int .i64 t1))
  have LR3 := Lib.hid (show HasBlk (W1.setCell ⟨h, 0, none⟩ (.int .i64 t1)) (w.heap.size + 1) 84 13 from LR2.out.other (by omega) 0 [.int .i64 t1])
  have LG0_3 := Lib.hid (show Blk (W1.setCell ⟨h, 0, none⟩ (.int .i64 t1)) w.heap.size 84 #[.bool o, .int .i64 s1, .bool g1, .slice A1 n1 c1, .slice B1 m1 d1, .int .i64 N1, .bool o1, .int .i64 s2, .bool g2, .slice A2 n2 c2, .slice B2 m2 d2, .int .i64 N2, .bool o2] from LG0_2.out.other (by omega) 0 [.int .i64 t1])
  have LG1_3 := Lib.hid (LG1_2.out.set 0 (.int .i64 t1))
  have LG2_3 := Lib.hid (show Blk (W1.setCell ⟨h, 0, none⟩ (.int .i64 t1)) h2 82 #[.int .i64 s2, .bool g2, .slice A2 n2 c2, .slice B2 m2 d2, .int .i64 N2, .bool o2] from LG2_2.out.other (by omega) 0 [.int .i64 t1])
  clear LB2 LR2 LG0_2 LG1_2 LG2_2
  obtain ⟨W2, hW⟩ : ∃ X, W1.setCell ⟨h, 0, none⟩ (.int .i64 t1) = X := ⟨_, rfl⟩
  rw [hW] at LB3 LR3 LG0_3 LG1_3 LG2_3 ⊢
  clear hW
  have q2_0 := LG2_3.out.ce 0 rfl
  have f0 := LG2_3.out.frozen 0
  go_upto_region 5 with fail
  clear q2_0 f0
  have LB4 := Lib.hid (LB3.out.setCell (p := ⟨h2, 0, none⟩) (show w.heap.size ≤ h2 by omega) (.int .i64 t2))
  have LR4 := Lib.hid (show HasBlk (W2.setCell ⟨h2, 0, none⟩ (.int .i64 t2)) (w.heap.size + 1) 84 13 from LR3.out.other (by omega) 0 [.int .i64 t2])
  have LG0_4 := Lib.hid (show Blk (W2.setCell ⟨h2, 0, none⟩ (.int .i64 t2)) w.heap.size 84 #[.bool o, .int .i64 s1, .bool g1, .slice A1 n1 c1, .slice B1 m1 d1, .int .i64 N1, .bool o1, .int .i64 s2, .bool g2, .slice A2 n2 c2, .slice B2 m2 d2, .int .i64 N2, .bool o2] from LG0_3.out.other (by omega) 0 [.int .i64 t2])
  have LG1_4 := Lib.hid (show Blk (W2.setCell ⟨h2, 0, none⟩ (.int .i64 t2)) h 82 #[.int .i64 t1, .bool g1, .slice A1 n1 c1, .slice B1 m1 d1, .int .i64 N1, .bool o1] from LG1_3.out.other (by omega) 0 [.int .i64 t2])
  have LG2_4 := Lib.hid (LG2_3.out.set 0 (.int .i64 t2))
  clear LB3 LR3 LG0_3 LG1_3 LG2_3
  obtain ⟨W3, hW⟩ : ∃ X, W2.setCell ⟨h2, 0, none⟩ (.int .i64 t2) = X := ⟨_, rfl⟩
  rw [hW] at LB4 LR4 LG0_4 LG1_4 LG2_4 ⊢
  clear hW
  clear hw1 hw2
  have q1_1 := LG1_4.out.ce 1 rfl
  have q1_2 := LG1_4.out.ce 2 rfl
  have q1_3 := LG1_4.out.ce 3 rfl
  go_wp2_with fail
  refine (HR1.out _ LB4.out).mono ?_
  rintro e W4 ⟨k1, F1, a1, e1, G1, j1, l1, rfl, hZ, hbZ⟩
  have LB5 := stB LB4 hbZ LB4.out.size
  have LR5 := stR LR4 hbZ
  have LG0_5 := stG LG0_4 hbZ
  have LG1_5 := stG LG1_4 hbZ
  have LG2_5 := stG LG2_4 hbZ
  clear LB4 LR4 LG0_4 LG1_4 LG2_4
  have Z1 := Lib.hid hZ
  clear hZ hbZ HR1 q1_1 q1_2 q1_3
  have q1_1 := LG1_5.out.ce 1 rfl
  have q1_2 := LG1_5.out.ce 2 rfl
  have q1_3 := LG1_5.out.ce 3 rfl
  have f1 := LG1_5.out.frozen 1
  have f2 := LG1_5.out.frozen 2
  have f3 := LG1_5.out.frozen 3
  go_upto_region 6 with fail
  clear f1 f2 f3 q1_1 q1_2 q1_3
  have Z1 := Lib.hid (Z1.out.sets LG1_5.out (NoWd.of (by rw [← Array.all_toList]; rfl)) 1 [.bool k1, .slice F1 a1 e1, .slice G1 j1 l1])
  have LB6 := Lib.hid (below_sets (w0 := w) (show w.heap.size ≤ h by omega) [.bool k1, .slice F1 a1 e1, .slice G1 j1 l1] 1 W4 LB5.out)
  have LR6 := Lib.hid (LR5.out.other (r := h) (by omega) 1 [.bool k1, .slice F1 a1 e1, .slice G1 j1 l1])
  have LG0_6 := Lib.hid (LG0_5.out.other (r := h) (by omega) 1 [.bool k1, .slice F1 a1 e1, .slice G1 j1 l1])
  have LG1_6 := Lib.hid (show Blk (sets W4 h 1 [.bool k1, .slice F1 a1 e1, .slice G1 j1 l1]) h 82 #[.int .i64 t1, .bool k1, .slice F1 a1 e1, .slice G1 j1 l1, .int .i64 N1, .bool o1] from by have hbs := Blk.sets [.bool k1, .slice F1 a1 e1, .slice G1 j1 l1] 1 W4 _ LG1_5.out; simpa [laid] using hbs)
  have LG2_6 := Lib.hid (LG2_5.out.other (r := h) (by omega) 1 [.bool k1, .slice F1 a1 e1, .slice G1 j1 l1])
  clear LB5 LR5 LG0_5 LG1_5 LG2_5
  obtain ⟨W5, hW⟩ : ∃ X, sets W4 h 1 [.bool k1, .slice F1 a1 e1, .slice G1 j1 l1] = X := ⟨_, rfl⟩
  rw [hW] at LB6 LR6 LG0_6 LG1_6 LG2_6 Z1
  simp only [sets] at hW
  rw [hW]
  clear hW
  have q2_1 := LG2_6.out.ce 1 rfl
  have q2_2 := LG2_6.out.ce 2 rfl
  have q2_3 := LG2_6.out.ce 3 rfl
  go_wp2_with fail
  refine (HR2.out _ LB6.out).mono ?_
  rintro e W6 ⟨k2, F2, a2, e2, G2, j2, l2, rfl, hZ, hbZ⟩
  have LB7 := stB LB6 hbZ LB6.out.size
  have LR7 := stR LR6 hbZ
  have LG0_7 := stG LG0_6 hbZ
  have LG1_7 := stG LG1_6 hbZ
  have LG2_7 := stG LG2_6 hbZ
  clear LB6 LR6 LG0_6 LG1_6 LG2_6
  have Z1 := Lib.hid (Z1.out.below hbZ)
  have Z2 := Lib.hid hZ
  clear hZ hbZ HR2 q2_1 q2_2 q2_3
  have q2_1 := LG2_7.out.ce 1 rfl
  have q2_2 := LG2_7.out.ce 2 rfl
  have q2_3 := LG2_7.out.ce 3 rfl
  have f1 := LG2_7.out.frozen 1
  have f2 := LG2_7.out.frozen 2
  have f3 := LG2_7.out.frozen 3
  go_upto_region 7 with fail
  clear f1 f2 f3 q2_1 q2_2 q2_3
  have Z1 := Lib.hid (Z1.out.sets LG2_7.out (NoWd.of (by rw [← Array.all_toList]; rfl)) 1 [.bool k2, .slice F2 a2 e2, .slice G2 j2 l2])
  have Z2 := Lib.hid (Z2.out.sets LG2_7.out (NoWd.of (by rw [← Array.all_toList]; rfl)) 1 [.bool k2, .slice F2 a2 e2, .slice G2 j2 l2])
  have LB8 := Lib.hid (below_sets (w0 := w) (show w.heap.size ≤ h2 by omega) [.bool k2, .slice F2 a2 e2, .slice G2 j2 l2] 1 W6 LB7.out)
  have LR8 := Lib.hid (LR7.out.other (r := h2) (by omega) 1 [.bool k2, .slice F2 a2 e2, .slice G2 j2 l2])
  have LG0_8 := Lib.hid (LG0_7.out.other (r := h2) (by omega) 1 [.bool k2, .slice F2 a2 e2, .slice G2 j2 l2])
  have LG1_8 := Lib.hid (LG1_7.out.other (r := h2) (by omega) 1 [.bool k2, .slice F2 a2 e2, .slice G2 j2 l2])
  have LG2_8 := Lib.hid (show Blk (sets W6 h2 1 [.bool k2, .slice F2 a2 e2, .slice G2 j2 l2]) h2 82 #[.int .i64 t2, .bool k2, .slice F2 a2 e2, .slice G2 j2 l2, .int .i64 N2, .bool o2] from by have hbs := Blk.sets [.bool k2, .slice F2 a2 e2, .slice G2 j2 l2] 1 W6 _ LG2_7.out; simpa [laid] using hbs)
  clear LB7 LR7 LG0_7 LG1_7 LG2_7
  obtain ⟨W7, hW⟩ : ∃ X, sets W6 h2 1 [.bool k2, .slice F2 a2 e2, .slice G2 j2 l2] = X := ⟨_, rfl⟩
  rw [hW] at LB8 LR8 LG0_8 LG1_8 LG2_8 Z1 Z2
  simp only [sets] at hW
  rw [hW]
  clear hW
  have q0_0 := LG0_8.out.ce 0 rfl
  obtain ⟨q1_0, q1_1, q1_2, q1_3, q1_4, q1_5⟩ := LG1_8.out.c6
  obtain ⟨q2_0, q2_1, q2_2, q2_3, q2_4, q2_5⟩ := LG2_8.out.c6
  have FR1 := Lib.hid (LR8.out.rat Z2.out [.bool o, .int .i64 t2, .bool k2, .slice F2 a2 e2, .slice G2 j2 l2, .int .i64 N2, .bool o2, .int .i64 t1, .bool k1, .slice F1 a1 e1, .slice G1 j1 l1, .int .i64 N1, .bool o1])
  have FR2 := Lib.hid (LR8.out.rat Z1.out [.bool o, .int .i64 t2, .bool k2, .slice F2 a2 e2, .slice G2 j2 l2, .int .i64 N2, .bool o2, .int .i64 t1, .bool k1, .slice F1 a1 e1, .slice G1 j1 l1, .int .i64 N1, .bool o1])
  clear Z1 Z2
  obtain ⟨ha0, hf0, ha1, hf1, ha2, hf2, ha3, hf3, ha4, hf4, ha5, hf5, ha6, hf6, ha7, hf7, ha8, hf8, ha9, hf9, ha10, hf10, ha11, hf11, ha12, hf12⟩ := LR8.out.sf13
  obtain ⟨hk0, hk1, hk2, hk3, hk4, hk5, hk6, hk7, hk8, hk9, hk10, hk11, hk12⟩ := LR8.out.sc13 (.bool o) (.int .i64 t2) (.bool k2) (.slice F2 a2 e2) (.slice G2 j2 l2) (.int .i64 N2) (.bool o2) (.int .i64 t1) (.bool k1) (.slice F1 a1 e1) (.slice G1 j1 l1) (.int .i64 N1) (.bool o1)
  have F := Lib.hid (below_sets (w0 := w) (r := (w.heap.size + 1)) (by omega) [.bool o, .int .i64 t2, .bool k2, .slice F2 a2 e2, .slice G2 j2 l2, .int .i64 N2, .bool o2, .int .i64 t1, .bool k1, .slice F1 a1 e1, .slice G1 j1 l1, .int .i64 N1, .bool o1] 0 _ LB8.out)
  simp [sets] at hk0 hk1 hk2 hk3 hk4 hk5 hk6 hk7 hk8 hk9 hk10 hk11 hk12
  go_wp2
  refine bodyPost_ret (v := .agg #[.bool o, .int .i64 t2, .bool k2, .slice F2 a2 e2, .slice G2 j2 l2, .int .i64 N2, .bool o2, .int .i64 t1, .bool k1, .slice F1 a1 e1, .slice G1 j1 l1, .int .i64 N1, .bool o1]) (by simp [results, Tryz.results109, go_sem, hk0, hk1, hk2, hk3, hk4, hk5, hk6, hk7, hk8, hk9, hk10, hk11, hk12]) rfl ?_
  exact ⟨_, _, _, _, _, _, _, _, _, _, _, _, _, _, rfl, FR1.out, FR2.out, F.out⟩
end Go.Proofs.YthlmlmfebpjgdaaGreatDoor
