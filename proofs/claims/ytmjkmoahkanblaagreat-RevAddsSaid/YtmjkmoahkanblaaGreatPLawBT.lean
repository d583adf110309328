/-
Walk: RevAdds.
-/
import Derived.Test.YtmjkmoahkanblaaGreatM30
import Derived.Deep.DeepCutAuto
set_option linter.unusedSimpArgs false
set_option linter.unusedVariables false

namespace Go.Proofs.YtmjkmoahkanblaaGreat
open Go.RowKit
attribute [local go_sem] run_store_float

set_option maxRecDepth 4000 in
set_option maxHeartbeats 12800000 in
theorem adds_law (b1 b2 c1 c2 x y : Nat) (w : World) (hb1 : b1 < 18446744073709551616) (hb2 : b2 < 18446744073709551616) (hc1 : c1 < 18446744073709551616) (hc2 : c2 < 18446744073709551616) (hx : x < 18446744073709551616) (hy : y < 18446744073709551616) :
    Calls Tryz.prog 3 #[.agg #[.int .u64 (b1 : Int), .int .u64 (b2 : Int), .int .u64 (c1 : Int), .int .u64 (c2 : Int), .int .u64 (x : Int), .int .u64 (y : Int)]] w fun e w' => e = .returned (.bool true) ∧ Below w.heap.size w w' := by
  have R1 := Lib.hid fun W => revadd_any b1 b2 c1 c2 x y W hb1 hb2 hc1 hc2 hx hy
  rw [rar_add (rd_iv b1 b2) (rd_iv c1 c2) (rd_iv x y)] at R1
  have R2 := Lib.hid fun W => refaddrev_any b1 b2 c1 c2 x y W hb1 hb2 hc1 hc2 hx hy
  have R3 := Lib.hid fun W => revsub1_any b1 b2 c1 c2 x y W hb1 hb2 hc1 hc2 hx hy
  rw [rar_sub1 (rd_iv b1 b2) (rd_iv c1 c2) (rd_iv x y)] at R3
  have R4 := Lib.hid fun W => refsubrev1_any b1 b2 c1 c2 x y W hb1 hb2 hc1 hc2 hx hy
  have R5 := Lib.hid fun W => revsub2_any b1 b2 c1 c2 x y W hb1 hb2 hc1 hc2 hx hy
  rw [rar_sub2 (rd_iv b1 b2) (rd_iv c1 c2) (rd_iv x y)] at R5
  have R6 := Lib.hid fun W => refsubrev2_any b1 b2 c1 c2 x y W hb1 hb2 hc1 hc2 hx hy
  obtain ⟨A0, ea0⟩ : ∃ z, pat (Fadd (rd c1 c2).1 (rd c1 c2).2 (-(rd b1 b2).2) (-(rd b1 b2).1) (rd x y).1 (rd x y).2).1 = z := ⟨_, rfl⟩
  obtain ⟨B0, eb0⟩ : ∃ z, pat (Fadd (rd c1 c2).1 (rd c1 c2).2 (-(rd b1 b2).2) (-(rd b1 b2).1) (rd x y).1 (rd x y).2).2 = z := ⟨_, rfl⟩
  rw [ea0, eb0] at R1 R2
  have O1 := Lib.hid fun W => law_out A0 B0 W
  obtain ⟨A1, ea1⟩ : ∃ z, pat (Fadd (rd c1 c2).1 (rd c1 c2).2 (rd b1 b2).1 (rd b1 b2).2 (rd x y).1 (rd x y).2).1 = z := ⟨_, rfl⟩
  obtain ⟨B1, eb1⟩ : ∃ z, pat (Fadd (rd c1 c2).1 (rd c1 c2).2 (rd b1 b2).1 (rd b1 b2).2 (rd x y).1 (rd x y).2).2 = z := ⟨_, rfl⟩
  rw [ea1, eb1] at R3 R4
  have O2 := Lib.hid fun W => law_out A1 B1 W
  obtain ⟨A2, ea2⟩ : ∃ z, pat (Fadd (rd b1 b2).1 (rd b1 b2).2 (-(rd c1 c2).2) (-(rd c1 c2).1) (rd x y).1 (rd x y).2).1 = z := ⟨_, rfl⟩
  obtain ⟨B2, eb2⟩ : ∃ z, pat (Fadd (rd b1 b2).1 (rd b1 b2).2 (-(rd c1 c2).2) (-(rd c1 c2).1) (rd x y).1 (rd x y).2).2 = z := ⟨_, rfl⟩
  rw [ea2, eb2] at R5 R6
  have O3 := Lib.hid fun W => law_out A2 B2 W
  have I1 := Lib.hid fun W => law_in b1 b2 W
  have I2 := Lib.hid fun W => law_in c1 c2 W
  have I3 := Lib.hid fun W => law_in x y W
  clear ea0 eb0 ea1 eb1 ea2 eb2 hb1 hb2 hc1 hc2 hx hy
  have LB0 := Lib.hid (show Below w.heap.size w (w.alloc (.cells #[.int .u64 (b1 : Int), .int .u64 (b2 : Int), .int .u64 (c1 : Int), .int .u64 (c2 : Int), .int .u64 (x : Int), .int .u64 (y : Int)] 26)) from (below_alloc w _))
  have LG0_0 := Lib.hid ((Blk.at (W := w) (g := w.heap.size) (by simp <;> omega) 26 #[.int .u64 (b1 : Int), .int .u64 (b2 : Int), .int .u64 (c1 : Int), .int .u64 (c2 : Int), .int .u64 (x : Int), .int .u64 (y : Int)]))
  go_enter Tryz.func3, Tryz.ntmps3
  have q0_0 : _ = some (.int .u64 (b1 : Int) : Value) := LG0_0.out.cell 0
  have q0_1 : _ = some (.int .u64 (b2 : Int) : Value) := LG0_0.out.cell 1
  have q0_2 : _ = some (.int .u64 (c1 : Int) : Value) := LG0_0.out.cell 2
  have q0_3 : _ = some (.int .u64 (c2 : Int) : Value) := LG0_0.out.cell 3
  have q0_4 : _ = some (.int .u64 (x : Int) : Value) := LG0_0.out.cell 4
  have q0_5 : _ = some (.int .u64 (y : Int) : Value) := LG0_0.out.cell 5
  go_wp2_with fail
  refine (I1.out _).mono ?_
  rintro e w1 ⟨rfl, hb0⟩
  have LB1 := Lib.hid (LB0.out.trans (hb0.mono LB0.out.size))
  have LG0_1 := Lib.hid (LG0_0.out.keep hb0)
  clear LB0 LG0_0
  clear hb0 q0_0 q0_1 q0_2 q0_3 q0_4 q0_5
  go_upto_region 2 with fail
  have LB2 := Lib.hid (LB1.out.alloc LB1.out.size (.cells #[.float .f64 b1, .float .f64 b2] 29))
  have LG0_2 := Lib.hid (LG0_1.out.alloc (.cells #[.float .f64 b1, .float .f64 b2] 29))
  have LG1_2 := Lib.hid (Blk.new w1 29 #[.float .f64 b1, .float .f64 b2])
  clear LB1 LG0_1
  obtain ⟨V1, hV1⟩ : ∃ X, (w1.alloc (.cells #[.float .f64 b1, .float .f64 b2] 29)) = X := ⟨_, rfl⟩
  rw [hV1] at LB2 LG0_2 LG1_2 ⊢
  clear hV1
  have q0_0 : _ = some (.int .u64 (b1 : Int) : Value) := LG0_2.out.cell 0
  have q0_1 : _ = some (.int .u64 (b2 : Int) : Value) := LG0_2.out.cell 1
  have q0_2 : _ = some (.int .u64 (c1 : Int) : Value) := LG0_2.out.cell 2
  have q0_3 : _ = some (.int .u64 (c2 : Int) : Value) := LG0_2.out.cell 3
  have q0_4 : _ = some (.int .u64 (x : Int) : Value) := LG0_2.out.cell 4
  have q0_5 : _ = some (.int .u64 (y : Int) : Value) := LG0_2.out.cell 5
  go_wp2_with fail
  refine (I2.out _).mono ?_
  rintro e w2 ⟨rfl, hb1⟩
  have LB3 := Lib.hid (LB2.out.trans (hb1.mono LB2.out.size))
  have LG0_3 := Lib.hid (LG0_2.out.keep hb1)
  have LG1_3 := Lib.hid (LG1_2.out.keep hb1)
  clear LB2 LG0_2 LG1_2
  clear hb1 q0_0 q0_1 q0_2 q0_3 q0_4 q0_5
  go_upto_region 3 with fail
  have LB4 := Lib.hid (LB3.out.alloc LB3.out.size (.cells #[.float .f64 c1, .float .f64 c2] 29))
  have LG0_4 := Lib.hid (LG0_3.out.alloc (.cells #[.float .f64 c1, .float .f64 c2] 29))
  have LG1_4 := Lib.hid (LG1_3.out.alloc (.cells #[.float .f64 c1, .float .f64 c2] 29))
  have LG2_4 := Lib.hid (Blk.new w2 29 #[.float .f64 c1, .float .f64 c2])
  clear LB3 LG0_3 LG1_3
  obtain ⟨V2, hV2⟩ : ∃ X, (w2.alloc (.cells #[.float .f64 c1, .float .f64 c2] 29)) = X := ⟨_, rfl⟩
  rw [hV2] at LB4 LG0_4 LG1_4 LG2_4 ⊢
  clear hV2
  have q0_0 : _ = some (.int .u64 (b1 : Int) : Value) := LG0_4.out.cell 0
  have q0_1 : _ = some (.int .u64 (b2 : Int) : Value) := LG0_4.out.cell 1
  have q0_2 : _ = some (.int .u64 (c1 : Int) : Value) := LG0_4.out.cell 2
  have q0_3 : _ = some (.int .u64 (c2 : Int) : Value) := LG0_4.out.cell 3
  have q0_4 : _ = some (.int .u64 (x : Int) : Value) := LG0_4.out.cell 4
  have q0_5 : _ = some (.int .u64 (y : Int) : Value) := LG0_4.out.cell 5
  go_wp2_with fail
  refine (I3.out _).mono ?_
  rintro e w3 ⟨rfl, hb2⟩
  have LB5 := Lib.hid (LB4.out.trans (hb2.mono LB4.out.size))
  have LG0_5 := Lib.hid (LG0_4.out.keep hb2)
  have LG1_5 := Lib.hid (LG1_4.out.keep hb2)
  have LG2_5 := Lib.hid (LG2_4.out.keep hb2)
  clear LB4 LG0_4 LG1_4 LG2_4
  clear hb2 q0_0 q0_1 q0_2 q0_3 q0_4 q0_5
  go_upto_region 4 with fail
  have LB6 := Lib.hid (LB5.out.alloc LB5.out.size (.cells #[.float .f64 x, .float .f64 y] 29))
  have LG0_6 := Lib.hid (LG0_5.out.alloc (.cells #[.float .f64 x, .float .f64 y] 29))
  have LG1_6 := Lib.hid (LG1_5.out.alloc (.cells #[.float .f64 x, .float .f64 y] 29))
  have LG2_6 := Lib.hid (LG2_5.out.alloc (.cells #[.float .f64 x, .float .f64 y] 29))
  have LG3_6 := Lib.hid (Blk.new w3 29 #[.float .f64 x, .float .f64 y])
  clear LB5 LG0_5 LG1_5 LG2_5
  obtain ⟨V3, hV3⟩ : ∃ X, (w3.alloc (.cells #[.float .f64 x, .float .f64 y] 29)) = X := ⟨_, rfl⟩
  rw [hV3] at LB6 LG0_6 LG1_6 LG2_6 LG3_6 ⊢
  clear hV3
  refine wp_region_held_drew (S := fun W' => Blk W' w.heap.size 26 #[.int .u64 (b1 : Int), .int .u64 (b2 : Int), .int .u64 (c1 : Int), .int .u64 (c2 : Int), .int .u64 (x : Int), .int .u64 (y : Int)] ∧ Blk W' w1.heap.size 29 #[.float .f64 b1, .float .f64 b2] ∧ Blk W' w2.heap.size 29 #[.float .f64 c1, .float .f64 c2] ∧ Blk W' w3.heap.size 29 #[.float .f64 x, .float .f64 y] ∧ Below w.heap.size w W') (by kernel_rfl) (by exact ⟨LG0_6.out.drew, LG1_6.out.drew, LG2_6.out.drew, LG3_6.out.drew, LB6.out.drew⟩) (fun hHeld => ?_)
  refine wpAnyH_take (i := 0) (v := ?_) rfl (by kernel_rfl) (by kernel_rfl) (by kernel_rfl) (fun _ _ _ h => h) (Or.inl ⟨by rfl, ?_⟩) (by assumption) ?_
  rotate_left
  · (intro W2 hSw; (try dsimp only at hSw); have q0 : _ = some (.float .f64 b1 : Value) := hSw.2.1.cell 0; have q1 : _ = some (.float .f64 b2 : Value) := hSw.2.1.cell 1; go_simp; (try with_reducible rfl))
  try simp only [Act.put, List.getElem_toArray, List.getElem_cons_succ, List.getElem_cons_zero, List.setIfInBounds_toArray, List.set_cons_zero, List.set_cons_succ]
  refine wpAnyH_take (i := 1) (v := ?_) rfl (by kernel_rfl) (by kernel_rfl) (by kernel_rfl) (fun _ _ _ h => h) (Or.inl ⟨by rfl, ?_⟩) (by assumption) ?_
  rotate_left
  · (intro W2 hSw; (try dsimp only at hSw); have q0 : _ = some (.float .f64 c1 : Value) := hSw.2.2.1.cell 0; have q1 : _ = some (.float .f64 c2 : Value) := hSw.2.2.1.cell 1; go_simp; (try with_reducible rfl))
  try simp only [Act.put, List.getElem_toArray, List.getElem_cons_succ, List.getElem_cons_zero, List.setIfInBounds_toArray, List.set_cons_zero, List.set_cons_succ]
  refine wpAnyH_take (i := 2) (v := ?_) rfl (by kernel_rfl) (by kernel_rfl) (by kernel_rfl) (fun _ _ _ h => h) (Or.inl ⟨by rfl, ?_⟩) (by assumption) ?_
  rotate_left
  · (intro W2 hSw; (try dsimp only at hSw); have q0 : _ = some (.float .f64 x : Value) := hSw.2.2.2.1.cell 0; have q1 : _ = some (.float .f64 y : Value) := hSw.2.2.2.1.cell 1; go_simp; (try with_reducible rfl))
  try simp only [Act.put, List.getElem_toArray, List.getElem_cons_succ, List.getElem_cons_zero, List.setIfInBounds_toArray, List.set_cons_zero, List.set_cons_succ]
  refine wpAnyH_take (i := 5) (v := ?_) rfl (by kernel_rfl) (by kernel_rfl) (by kernel_rfl) (fun _ _ _ h => h) (Or.inl ⟨by rfl, ?_⟩) (by assumption) ?_
  rotate_left
  · (intro W2 hSw; go_simp; (try with_reducible rfl))
  try simp only [Act.put, List.getElem_toArray, List.getElem_cons_succ, List.getElem_cons_zero, List.setIfInBounds_toArray, List.set_cons_zero, List.set_cons_succ]
  refine wpAnyH_take (i := 6) (v := ?_) rfl (by kernel_rfl) (by kernel_rfl) (by kernel_rfl) (fun _ _ _ h => h) (Or.inl ⟨by rfl, ?_⟩) (by assumption) ?_
  rotate_left
  · (intro W2 hSw; (try dsimp only at hSw); have q0 : _ = some (.int .u64 (b1 : Int) : Value) := hSw.1.cell 0; have q1 : _ = some (.int .u64 (b2 : Int) : Value) := hSw.1.cell 1; have q2 : _ = some (.int .u64 (c1 : Int) : Value) := hSw.1.cell 2; have q3 : _ = some (.int .u64 (c2 : Int) : Value) := hSw.1.cell 3; have q4 : _ = some (.int .u64 (x : Int) : Value) := hSw.1.cell 4; have q5 : _ = some (.int .u64 (y : Int) : Value) := hSw.1.cell 5; go_simp; (try with_reducible rfl))
  try simp only [Act.put, List.getElem_toArray, List.getElem_cons_succ, List.getElem_cons_zero, List.setIfInBounds_toArray, List.set_cons_zero, List.set_cons_succ]
  refine wpAnyH_take (i := 7) (v := ?_) rfl (by kernel_rfl) (by kernel_rfl) (by kernel_rfl) (fun _ _ _ h => h) (Or.inl ⟨by rfl, ?_⟩) (by assumption) ?_
  rotate_left
  · (intro W2 hSw; go_simp; (try with_reducible rfl))
  try simp only [Act.put, List.getElem_toArray, List.getElem_cons_succ, List.getElem_cons_zero, List.setIfInBounds_toArray, List.set_cons_zero, List.set_cons_succ]
  refine wpAnyH_take (i := 8) (v := ?_) rfl (by kernel_rfl) (by kernel_rfl) (by kernel_rfl) (fun _ _ _ h => h) (Or.inl ⟨by rfl, ?_⟩) (by assumption) ?_
  rotate_left
  · (intro W2 hSw; (try dsimp only at hSw); have q0 : _ = some (.int .u64 (b1 : Int) : Value) := hSw.1.cell 0; have q1 : _ = some (.int .u64 (b2 : Int) : Value) := hSw.1.cell 1; have q2 : _ = some (.int .u64 (c1 : Int) : Value) := hSw.1.cell 2; have q3 : _ = some (.int .u64 (c2 : Int) : Value) := hSw.1.cell 3; have q4 : _ = some (.int .u64 (x : Int) : Value) := hSw.1.cell 4; have q5 : _ = some (.int .u64 (y : Int) : Value) := hSw.1.cell 5; go_simp; (try with_reducible rfl))
  try simp only [Act.put, List.getElem_toArray, List.getElem_cons_succ, List.getElem_cons_zero, List.setIfInBounds_toArray, List.set_cons_zero, List.set_cons_succ]
  refine wpAnyH_take (i := 9) (v := ?_) rfl (by kernel_rfl) (by kernel_rfl) (by kernel_rfl) (fun _ _ _ h => h) (Or.inl ⟨by rfl, ?_⟩) (by assumption) ?_
  rotate_left
  · (intro W2 hSw; go_simp; (try with_reducible rfl))
  try simp only [Act.put, List.getElem_toArray, List.getElem_cons_succ, List.getElem_cons_zero, List.setIfInBounds_toArray, List.set_cons_zero, List.set_cons_succ]
  refine wpAnyH_take (i := 10) (v := ?_) rfl (by kernel_rfl) (by kernel_rfl) (by kernel_rfl) (fun _ _ _ h => h) (Or.inl ⟨by rfl, ?_⟩) (by assumption) ?_
  rotate_left
  · (intro W2 hSw; (try dsimp only at hSw); have q0 : _ = some (.int .u64 (b1 : Int) : Value) := hSw.1.cell 0; have q1 : _ = some (.int .u64 (b2 : Int) : Value) := hSw.1.cell 1; have q2 : _ = some (.int .u64 (c1 : Int) : Value) := hSw.1.cell 2; have q3 : _ = some (.int .u64 (c2 : Int) : Value) := hSw.1.cell 3; have q4 : _ = some (.int .u64 (x : Int) : Value) := hSw.1.cell 4; have q5 : _ = some (.int .u64 (y : Int) : Value) := hSw.1.cell 5; go_simp; (try with_reducible rfl))
  try simp only [Act.put, List.getElem_toArray, List.getElem_cons_succ, List.getElem_cons_zero, List.setIfInBounds_toArray, List.set_cons_zero, List.set_cons_succ]
  refine wpAnyH_ready (rs := [3]) (by kernel_rfl) (by simp) ?_
  refine AllReadyH.cons rfl (fun KK hKK => ?_) AllReadyH.nil
  go_simp
  refine (R1.out _).mono ?_
  rintro e wa ⟨rfl, hba⟩
  go_wp2_with fail
  refine hKK.out _ _ (⟨hHeld.1.keep hba, hHeld.2.1.keep hba, hHeld.2.2.1.keep hba, hHeld.2.2.2.1.keep hba, hHeld.2.2.2.2.trans (hba.mono hHeld.2.2.2.2.size)⟩) (fun _ => ?_)
  clear hKK KK hHeld; rename_i hHeld
  try simp only [Act.put, List.getElem_toArray, List.getElem_cons_succ, List.getElem_cons_zero, List.setIfInBounds_toArray, List.set_cons_zero, List.set_cons_succ]
  refine wpAnyH_ready (rs := [4]) (by kernel_rfl) (by simp) ?_
  refine AllReadyH.cons rfl (fun KK hKK => ?_) AllReadyH.nil
  go_simp
  refine (O1.out _).mono ?_
  rintro e wb ⟨rfl, hbb⟩
  go_wp2_with fail
  refine hKK.out _ _ (⟨hHeld.1.keep hbb, hHeld.2.1.keep hbb, hHeld.2.2.1.keep hbb, hHeld.2.2.2.1.keep hbb, hHeld.2.2.2.2.trans (hbb.mono hHeld.2.2.2.2.size)⟩) (fun _ => ?_)
  clear hKK KK hHeld; rename_i hHeld
  try simp only [Act.put, List.getElem_toArray, List.getElem_cons_succ, List.getElem_cons_zero, List.setIfInBounds_toArray, List.set_cons_zero, List.set_cons_succ]
  refine wpAnyH_ready (rs := [11]) (by kernel_rfl) (by simp) ?_
  refine AllReadyH.cons rfl (fun KK hKK => ?_) AllReadyH.nil
  go_simp
  refine (R2.out _).mono ?_
  rintro e wc ⟨rfl, hbc⟩
  go_wp2_with fail
  refine hKK.out _ _ (⟨hHeld.1.keep hbc, hHeld.2.1.keep hbc, hHeld.2.2.1.keep hbc, hHeld.2.2.2.1.keep hbc, hHeld.2.2.2.2.trans (hbc.mono hHeld.2.2.2.2.size)⟩) (fun _ => ?_)
  clear hKK KK hHeld; rename_i hHeld
  try simp only [Act.put, List.getElem_toArray, List.getElem_cons_succ, List.getElem_cons_zero, List.setIfInBounds_toArray, List.set_cons_zero, List.set_cons_succ]
  refine wpAnyH_take (i := 12) (v := ?_) rfl (by kernel_rfl) (by kernel_rfl) (by kernel_rfl) (fun _ _ _ h => h) (Or.inl ⟨by rfl, ?_⟩) (by assumption) ?_
  rotate_left
  · (intro W2 hSw; go_simp; (try with_reducible rfl))
  try simp only [Act.put, List.getElem_toArray, List.getElem_cons_succ, List.getElem_cons_zero, List.setIfInBounds_toArray, List.set_cons_zero, List.set_cons_succ]
  refine wpAnyH_take (i := 13) (v := ?_) rfl (by kernel_rfl) (by kernel_rfl) (by kernel_rfl) (fun _ _ _ h => h) (Or.inl ⟨by rfl, ?_⟩) (by assumption) ?_
  rotate_left
  · (intro W2 hSw; go_simp; (try with_reducible rfl))
  try simp only [Act.put, List.getElem_toArray, List.getElem_cons_succ, List.getElem_cons_zero, List.setIfInBounds_toArray, List.set_cons_zero, List.set_cons_succ]
  refine wpAnyH_take (i := 14) (v := ?_) rfl (by kernel_rfl) (by kernel_rfl) (by kernel_rfl) (fun _ _ _ h => h) (Or.inl ⟨by rfl, ?_⟩) (by assumption) ?_
  rotate_left
  · (intro W2 hSw; (try dsimp only at hSw); have q0 : _ = some (.float .f64 b1 : Value) := hSw.2.1.cell 0; have q1 : _ = some (.float .f64 b2 : Value) := hSw.2.1.cell 1; go_simp; (try with_reducible rfl))
  try simp only [Act.put, List.getElem_toArray, List.getElem_cons_succ, List.getElem_cons_zero, List.setIfInBounds_toArray, List.set_cons_zero, List.set_cons_succ]
  refine wpAnyH_take (i := 15) (v := ?_) rfl (by kernel_rfl) (by kernel_rfl) (by kernel_rfl) (fun _ _ _ h => h) (Or.inl ⟨by rfl, ?_⟩) (by assumption) ?_
  rotate_left
  · (intro W2 hSw; (try dsimp only at hSw); have q0 : _ = some (.float .f64 c1 : Value) := hSw.2.2.1.cell 0; have q1 : _ = some (.float .f64 c2 : Value) := hSw.2.2.1.cell 1; go_simp; (try with_reducible rfl))
  try simp only [Act.put, List.getElem_toArray, List.getElem_cons_succ, List.getElem_cons_zero, List.setIfInBounds_toArray, List.set_cons_zero, List.set_cons_succ]
  refine wpAnyH_take (i := 16) (v := ?_) rfl (by kernel_rfl) (by kernel_rfl) (by kernel_rfl) (fun _ _ _ h => h) (Or.inl ⟨by rfl, ?_⟩) (by assumption) ?_
  rotate_left
  · (intro W2 hSw; (try dsimp only at hSw); have q0 : _ = some (.float .f64 x : Value) := hSw.2.2.2.1.cell 0; have q1 : _ = some (.float .f64 y : Value) := hSw.2.2.2.1.cell 1; go_simp; (try with_reducible rfl))
  try simp only [Act.put, List.getElem_toArray, List.getElem_cons_succ, List.getElem_cons_zero, List.setIfInBounds_toArray, List.set_cons_zero, List.set_cons_succ]
  refine wpAnyH_take (i := 19) (v := ?_) rfl (by kernel_rfl) (by kernel_rfl) (by kernel_rfl) (fun _ _ _ h => h) (Or.inl ⟨by rfl, ?_⟩) (by assumption) ?_
  rotate_left
  · (intro W2 hSw; go_simp; (try with_reducible rfl))
  try simp only [Act.put, List.getElem_toArray, List.getElem_cons_succ, List.getElem_cons_zero, List.setIfInBounds_toArray, List.set_cons_zero, List.set_cons_succ]
  refine wpAnyH_take (i := 20) (v := ?_) rfl (by kernel_rfl) (by kernel_rfl) (by kernel_rfl) (fun _ _ _ h => h) (Or.inl ⟨by rfl, ?_⟩) (by assumption) ?_
  rotate_left
  · (intro W2 hSw; (try dsimp only at hSw); have q0 : _ = some (.int .u64 (b1 : Int) : Value) := hSw.1.cell 0; have q1 : _ = some (.int .u64 (b2 : Int) : Value) := hSw.1.cell 1; have q2 : _ = some (.int .u64 (c1 : Int) : Value) := hSw.1.cell 2; have q3 : _ = some (.int .u64 (c2 : Int) : Value) := hSw.1.cell 3; have q4 : _ = some (.int .u64 (x : Int) : Value) := hSw.1.cell 4; have q5 : _ = some (.int .u64 (y : Int) : Value) := hSw.1.cell 5; go_simp; (try with_reducible rfl))
  try simp only [Act.put, List.getElem_toArray, List.getElem_cons_succ, List.getElem_cons_zero, List.setIfInBounds_toArray, List.set_cons_zero, List.set_cons_succ]
  refine wpAnyH_take (i := 21) (v := ?_) rfl (by kernel_rfl) (by kernel_rfl) (by kernel_rfl) (fun _ _ _ h => h) (Or.inl ⟨by rfl, ?_⟩) (by assumption) ?_
  rotate_left
  · (intro W2 hSw; go_simp; (try with_reducible rfl))
  try simp only [Act.put, List.getElem_toArray, List.getElem_cons_succ, List.getElem_cons_zero, List.setIfInBounds_toArray, List.set_cons_zero, List.set_cons_succ]
  refine wpAnyH_take (i := 22) (v := ?_) rfl (by kernel_rfl) (by kernel_rfl) (by kernel_rfl) (fun _ _ _ h => h) (Or.inl ⟨by rfl, ?_⟩) (by assumption) ?_
  rotate_left
  · (intro W2 hSw; (try dsimp only at hSw); have q0 : _ = some (.int .u64 (b1 : Int) : Value) := hSw.1.cell 0; have q1 : _ = some (.int .u64 (b2 : Int) : Value) := hSw.1.cell 1; have q2 : _ = some (.int .u64 (c1 : Int) : Value) := hSw.1.cell 2; have q3 : _ = some (.int .u64 (c2 : Int) : Value) := hSw.1.cell 3; have q4 : _ = some (.int .u64 (x : Int) : Value) := hSw.1.cell 4; have q5 : _ = some (.int .u64 (y : Int) : Value) := hSw.1.cell 5; go_simp; (try with_reducible rfl))
  try simp only [Act.put, List.getElem_toArray, List.getElem_cons_succ, List.getElem_cons_zero, List.setIfInBounds_toArray, List.set_cons_zero, List.set_cons_succ]
  refine wpAnyH_take (i := 23) (v := ?_) rfl (by kernel_rfl) (by kernel_rfl) (by kernel_rfl) (fun _ _ _ h => h) (Or.inl ⟨by rfl, ?_⟩) (by assumption) ?_
  rotate_left
  · (intro W2 hSw; go_simp; (try with_reducible rfl))
  try simp only [Act.put, List.getElem_toArray, List.getElem_cons_succ, List.getElem_cons_zero, List.setIfInBounds_toArray, List.set_cons_zero, List.set_cons_succ]
  refine wpAnyH_take (i := 24) (v := ?_) rfl (by kernel_rfl) (by kernel_rfl) (by kernel_rfl) (fun _ _ _ h => h) (Or.inl ⟨by rfl, ?_⟩) (by assumption) ?_
  rotate_left
  · (intro W2 hSw; (try dsimp only at hSw); have q0 : _ = some (.int .u64 (b1 : Int) : Value) := hSw.1.cell 0; have q1 : _ = some (.int .u64 (b2 : Int) : Value) := hSw.1.cell 1; have q2 : _ = some (.int .u64 (c1 : Int) : Value) := hSw.1.cell 2; have q3 : _ = some (.int .u64 (c2 : Int) : Value) := hSw.1.cell 3; have q4 : _ = some (.int .u64 (x : Int) : Value) := hSw.1.cell 4; have q5 : _ = some (.int .u64 (y : Int) : Value) := hSw.1.cell 5; go_simp; (try with_reducible rfl))
  try simp only [Act.put, List.getElem_toArray, List.getElem_cons_succ, List.getElem_cons_zero, List.setIfInBounds_toArray, List.set_cons_zero, List.set_cons_succ]
  refine wpAnyH_ready (rs := [17]) (by kernel_rfl) (by simp) ?_
  refine AllReadyH.cons rfl (fun KK hKK => ?_) AllReadyH.nil
  go_simp
  refine (R3.out _).mono ?_
  rintro e wd ⟨rfl, hbd⟩
  go_wp2_with fail
  refine hKK.out _ _ (⟨hHeld.1.keep hbd, hHeld.2.1.keep hbd, hHeld.2.2.1.keep hbd, hHeld.2.2.2.1.keep hbd, hHeld.2.2.2.2.trans (hbd.mono hHeld.2.2.2.2.size)⟩) (fun _ => ?_)
  clear hKK KK hHeld; rename_i hHeld
  try simp only [Act.put, List.getElem_toArray, List.getElem_cons_succ, List.getElem_cons_zero, List.setIfInBounds_toArray, List.set_cons_zero, List.set_cons_succ]
  refine wpAnyH_ready (rs := [18]) (by kernel_rfl) (by simp) ?_
  refine AllReadyH.cons rfl (fun KK hKK => ?_) AllReadyH.nil
  go_simp
  refine (O2.out _).mono ?_
  rintro e we ⟨rfl, hbe⟩
  go_wp2_with fail
  refine hKK.out _ _ (⟨hHeld.1.keep hbe, hHeld.2.1.keep hbe, hHeld.2.2.1.keep hbe, hHeld.2.2.2.1.keep hbe, hHeld.2.2.2.2.trans (hbe.mono hHeld.2.2.2.2.size)⟩) (fun _ => ?_)
  clear hKK KK hHeld; rename_i hHeld
  try simp only [Act.put, List.getElem_toArray, List.getElem_cons_succ, List.getElem_cons_zero, List.setIfInBounds_toArray, List.set_cons_zero, List.set_cons_succ]
  refine wpAnyH_ready (rs := [25]) (by kernel_rfl) (by simp) ?_
  refine AllReadyH.cons rfl (fun KK hKK => ?_) AllReadyH.nil
  go_simp
  refine (R4.out _).mono ?_
  rintro e wf ⟨rfl, hbf⟩
  go_wp2_with fail
  refine hKK.out _ _ (⟨hHeld.1.keep hbf, hHeld.2.1.keep hbf, hHeld.2.2.1.keep hbf, hHeld.2.2.2.1.keep hbf, hHeld.2.2.2.2.trans (hbf.mono hHeld.2.2.2.2.size)⟩) (fun _ => ?_)
  clear hKK KK hHeld; rename_i hHeld
  try simp only [Act.put, List.getElem_toArray, List.getElem_cons_succ, List.getElem_cons_zero, List.setIfInBounds_toArray, List.set_cons_zero, List.set_cons_succ]
  refine wpAnyH_take (i := 26) (v := ?_) rfl (by kernel_rfl) (by kernel_rfl) (by kernel_rfl) (fun _ _ _ h => h) (Or.inl ⟨by rfl, ?_⟩) (by assumption) ?_
  rotate_left
  · (intro W2 hSw; go_simp; (try with_reducible rfl))
  try simp only [Act.put, List.getElem_toArray, List.getElem_cons_succ, List.getElem_cons_zero, List.setIfInBounds_toArray, List.set_cons_zero, List.set_cons_succ]
  refine wpAnyH_take (i := 27) (v := ?_) rfl (by kernel_rfl) (by kernel_rfl) (by kernel_rfl) (fun _ _ _ h => h) (Or.inl ⟨by rfl, ?_⟩) (by assumption) ?_
  rotate_left
  · (intro W2 hSw; go_simp; (try with_reducible rfl))
  try simp only [Act.put, List.getElem_toArray, List.getElem_cons_succ, List.getElem_cons_zero, List.setIfInBounds_toArray, List.set_cons_zero, List.set_cons_succ]
  refine wpAnyH_take (i := 28) (v := ?_) rfl (by kernel_rfl) (by kernel_rfl) (by kernel_rfl) (fun _ _ _ h => h) (Or.inl ⟨by rfl, ?_⟩) (by assumption) ?_
  rotate_left
  · (intro W2 hSw; go_simp; (try with_reducible rfl))
  try simp only [Act.put, List.getElem_toArray, List.getElem_cons_succ, List.getElem_cons_zero, List.setIfInBounds_toArray, List.set_cons_zero, List.set_cons_succ]
  refine wpAnyH_take (i := 29) (v := ?_) rfl (by kernel_rfl) (by kernel_rfl) (by kernel_rfl) (fun _ _ _ h => h) (Or.inl ⟨by rfl, ?_⟩) (by assumption) ?_
  rotate_left
  · (intro W2 hSw; (try dsimp only at hSw); have q0 : _ = some (.float .f64 b1 : Value) := hSw.2.1.cell 0; have q1 : _ = some (.float .f64 b2 : Value) := hSw.2.1.cell 1; go_simp; (try with_reducible rfl))
  try simp only [Act.put, List.getElem_toArray, List.getElem_cons_succ, List.getElem_cons_zero, List.setIfInBounds_toArray, List.set_cons_zero, List.set_cons_succ]
  refine wpAnyH_take (i := 30) (v := ?_) rfl (by kernel_rfl) (by kernel_rfl) (by kernel_rfl) (fun _ _ _ h => h) (Or.inl ⟨by rfl, ?_⟩) (by assumption) ?_
  rotate_left
  · (intro W2 hSw; (try dsimp only at hSw); have q0 : _ = some (.float .f64 c1 : Value) := hSw.2.2.1.cell 0; have q1 : _ = some (.float .f64 c2 : Value) := hSw.2.2.1.cell 1; go_simp; (try with_reducible rfl))
  try simp only [Act.put, List.getElem_toArray, List.getElem_cons_succ, List.getElem_cons_zero, List.setIfInBounds_toArray, List.set_cons_zero, List.set_cons_succ]
  refine wpAnyH_take (i := 31) (v := ?_) rfl (by kernel_rfl) (by kernel_rfl) (by kernel_rfl) (fun _ _ _ h => h) (Or.inl ⟨by rfl, ?_⟩) (by assumption) ?_
  rotate_left
  · (intro W2 hSw; (try dsimp only at hSw); have q0 : _ = some (.float .f64 x : Value) := hSw.2.2.2.1.cell 0; have q1 : _ = some (.float .f64 y : Value) := hSw.2.2.2.1.cell 1; go_simp; (try with_reducible rfl))
  try simp only [Act.put, List.getElem_toArray, List.getElem_cons_succ, List.getElem_cons_zero, List.setIfInBounds_toArray, List.set_cons_zero, List.set_cons_succ]
  refine wpAnyH_take (i := 34) (v := ?_) rfl (by kernel_rfl) (by kernel_rfl) (by kernel_rfl) (fun _ _ _ h => h) (Or.inl ⟨by rfl, ?_⟩) (by assumption) ?_
  rotate_left
  · (intro W2 hSw; go_simp; (try with_reducible rfl))
  try simp only [Act.put, List.getElem_toArray, List.getElem_cons_succ, List.getElem_cons_zero, List.setIfInBounds_toArray, List.set_cons_zero, List.set_cons_succ]
  refine wpAnyH_take (i := 35) (v := ?_) rfl (by kernel_rfl) (by kernel_rfl) (by kernel_rfl) (fun _ _ _ h => h) (Or.inl ⟨by rfl, ?_⟩) (by assumption) ?_
  rotate_left
  · (intro W2 hSw; (try dsimp only at hSw); have q0 : _ = some (.int .u64 (b1 : Int) : Value) := hSw.1.cell 0; have q1 : _ = some (.int .u64 (b2 : Int) : Value) := hSw.1.cell 1; have q2 : _ = some (.int .u64 (c1 : Int) : Value) := hSw.1.cell 2; have q3 : _ = some (.int .u64 (c2 : Int) : Value) := hSw.1.cell 3; have q4 : _ = some (.int .u64 (x : Int) : Value) := hSw.1.cell 4; have q5 : _ = some (.int .u64 (y : Int) : Value) := hSw.1.cell 5; go_simp; (try with_reducible rfl))
  try simp only [Act.put, List.getElem_toArray, List.getElem_cons_succ, List.getElem_cons_zero, List.setIfInBounds_toArray, List.set_cons_zero, List.set_cons_succ]
  refine wpAnyH_take (i := 36) (v := ?_) rfl (by kernel_rfl) (by kernel_rfl) (by kernel_rfl) (fun _ _ _ h => h) (Or.inl ⟨by rfl, ?_⟩) (by assumption) ?_
  rotate_left
  · (intro W2 hSw; go_simp; (try with_reducible rfl))
  try simp only [Act.put, List.getElem_toArray, List.getElem_cons_succ, List.getElem_cons_zero, List.setIfInBounds_toArray, List.set_cons_zero, List.set_cons_succ]
  refine wpAnyH_take (i := 37) (v := ?_) rfl (by kernel_rfl) (by kernel_rfl) (by kernel_rfl) (fun _ _ _ h => h) (Or.inl ⟨by rfl, ?_⟩) (by assumption) ?_
  rotate_left
  · (intro W2 hSw; (try dsimp only at hSw); have q0 : _ = some (.int .u64 (b1 : Int) : Value) := hSw.1.cell 0; have q1 : _ = some (.int .u64 (b2 : Int) : Value) := hSw.1.cell 1; have q2 : _ = some (.int .u64 (c1 : Int) : Value) := hSw.1.cell 2; have q3 : _ = some (.int .u64 (c2 : Int) : Value) := hSw.1.cell 3; have q4 : _ = some (.int .u64 (x : Int) : Value) := hSw.1.cell 4; have q5 : _ = some (.int .u64 (y : Int) : Value) := hSw.1.cell 5; go_simp; (try with_reducible rfl))
  try simp only [Act.put, List.getElem_toArray, List.getElem_cons_succ, List.getElem_cons_zero, List.setIfInBounds_toArray, List.set_cons_zero, List.set_cons_succ]
  refine wpAnyH_take (i := 38) (v := ?_) rfl (by kernel_rfl) (by kernel_rfl) (by kernel_rfl) (fun _ _ _ h => h) (Or.inl ⟨by rfl, ?_⟩) (by assumption) ?_
  rotate_left
  · (intro W2 hSw; go_simp; (try with_reducible rfl))
  try simp only [Act.put, List.getElem_toArray, List.getElem_cons_succ, List.getElem_cons_zero, List.setIfInBounds_toArray, List.set_cons_zero, List.set_cons_succ]
  refine wpAnyH_take (i := 39) (v := ?_) rfl (by kernel_rfl) (by kernel_rfl) (by kernel_rfl) (fun _ _ _ h => h) (Or.inl ⟨by rfl, ?_⟩) (by assumption) ?_
  rotate_left
  · (intro W2 hSw; (try dsimp only at hSw); have q0 : _ = some (.int .u64 (b1 : Int) : Value) := hSw.1.cell 0; have q1 : _ = some (.int .u64 (b2 : Int) : Value) := hSw.1.cell 1; have q2 : _ = some (.int .u64 (c1 : Int) : Value) := hSw.1.cell 2; have q3 : _ = some (.int .u64 (c2 : Int) : Value) := hSw.1.cell 3; have q4 : _ = some (.int .u64 (x : Int) : Value) := hSw.1.cell 4; have q5 : _ = some (.int .u64 (y : Int) : Value) := hSw.1.cell 5; go_simp; (try with_reducible rfl))
  try simp only [Act.put, List.getElem_toArray, List.getElem_cons_succ, List.getElem_cons_zero, List.setIfInBounds_toArray, List.set_cons_zero, List.set_cons_succ]
  refine wpAnyH_ready (rs := [32]) (by kernel_rfl) (by simp) ?_
  refine AllReadyH.cons rfl (fun KK hKK => ?_) AllReadyH.nil
  go_simp
  refine (R5.out _).mono ?_
  rintro e wg ⟨rfl, hbg⟩
  go_wp2_with fail
  refine hKK.out _ _ (⟨hHeld.1.keep hbg, hHeld.2.1.keep hbg, hHeld.2.2.1.keep hbg, hHeld.2.2.2.1.keep hbg, hHeld.2.2.2.2.trans (hbg.mono hHeld.2.2.2.2.size)⟩) (fun _ => ?_)
  clear hKK KK hHeld; rename_i hHeld
  try simp only [Act.put, List.getElem_toArray, List.getElem_cons_succ, List.getElem_cons_zero, List.setIfInBounds_toArray, List.set_cons_zero, List.set_cons_succ]
  refine wpAnyH_ready (rs := [33]) (by kernel_rfl) (by simp) ?_
  refine AllReadyH.cons rfl (fun KK hKK => ?_) AllReadyH.nil
  go_simp
  refine (O3.out _).mono ?_
  rintro e wh ⟨rfl, hbh⟩
  go_wp2_with fail
  refine hKK.out _ _ (⟨hHeld.1.keep hbh, hHeld.2.1.keep hbh, hHeld.2.2.1.keep hbh, hHeld.2.2.2.1.keep hbh, hHeld.2.2.2.2.trans (hbh.mono hHeld.2.2.2.2.size)⟩) (fun _ => ?_)
  clear hKK KK hHeld; rename_i hHeld
  try simp only [Act.put, List.getElem_toArray, List.getElem_cons_succ, List.getElem_cons_zero, List.setIfInBounds_toArray, List.set_cons_zero, List.set_cons_succ]
  refine wpAnyH_ready (rs := [40]) (by kernel_rfl) (by simp) ?_
  refine AllReadyH.cons rfl (fun KK hKK => ?_) AllReadyH.nil
  go_simp
  refine (R6.out _).mono ?_
  rintro e wi ⟨rfl, hbi⟩
  go_wp2_with fail
  refine hKK.out _ _ (⟨hHeld.1.keep hbi, hHeld.2.1.keep hbi, hHeld.2.2.1.keep hbi, hHeld.2.2.2.1.keep hbi, hHeld.2.2.2.2.trans (hbi.mono hHeld.2.2.2.2.size)⟩) (fun _ => ?_)
  clear hKK KK hHeld; rename_i hHeld
  try simp only [Act.put, List.getElem_toArray, List.getElem_cons_succ, List.getElem_cons_zero, List.setIfInBounds_toArray, List.set_cons_zero, List.set_cons_succ]
  refine wpAnyH_take (i := 41) (v := ?_) rfl (by kernel_rfl) (by kernel_rfl) (by kernel_rfl) (fun _ _ _ h => h) (Or.inl ⟨by rfl, ?_⟩) (by assumption) ?_
  rotate_left
  · (intro W2 hSw; go_simp; (try with_reducible rfl))
  try simp only [Act.put, List.getElem_toArray, List.getElem_cons_succ, List.getElem_cons_zero, List.setIfInBounds_toArray, List.set_cons_zero, List.set_cons_succ]
  refine wpAnyH_take (i := 42) (v := ?_) rfl (by kernel_rfl) (by kernel_rfl) (by kernel_rfl) (fun _ _ _ h => h) (Or.inl ⟨by rfl, ?_⟩) (by assumption) ?_
  rotate_left
  · (intro W2 hSw; go_simp; (try with_reducible rfl))
  try simp only [Act.put, List.getElem_toArray, List.getElem_cons_succ, List.getElem_cons_zero, List.setIfInBounds_toArray, List.set_cons_zero, List.set_cons_succ]
  refine wpAnyH_take (i := 43) (v := ?_) rfl (by kernel_rfl) (by kernel_rfl) (by kernel_rfl) (fun _ _ _ h => h) (Or.inl ⟨by rfl, ?_⟩) (by assumption) ?_
  rotate_left
  · (intro W2 hSw; go_simp; (try with_reducible rfl))
  try simp only [Act.put, List.getElem_toArray, List.getElem_cons_succ, List.getElem_cons_zero, List.setIfInBounds_toArray, List.set_cons_zero, List.set_cons_succ]
  refine wpAnyH_done (by kernel_rfl) ?_ _
  have HF := Lib.hid hHeld.2.2.2.2
  clear hHeld hba hbb hbc hbd hbe hbf hbg hbh hbi R1 R2 R3 R4 R5 R6 O1 O2 O3 I1 I2 I3
  go_wp2
  go_ret
  exact ⟨rfl, HF.out⟩

end Go.Proofs.YtmjkmoahkanblaaGreat
