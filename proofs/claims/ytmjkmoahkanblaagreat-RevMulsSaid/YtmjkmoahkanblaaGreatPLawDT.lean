/-
Walk: RevMuls.
-/
import Derived.Test.YtmjkmoahkanblaaGreatM03
import Derived.Test.YtmjkmoahkanblaaGreatM29
import Derived.Deep.DeepCutAuto
set_option linter.unusedSimpArgs false
set_option linter.unusedVariables false

namespace Go.Proofs.YtmjkmoahkanblaaGreat
open Go.RowKit
attribute [local go_sem] run_store_float

set_option maxRecDepth 4000 in
set_option maxHeartbeats 12800000 in
theorem muls_law (b1 b2 c1 c2 x y : Nat) (w : World) (hb1 : b1 < 18446744073709551616) (hb2 : b2 < 18446744073709551616) (hc1 : c1 < 18446744073709551616) (hc2 : c2 < 18446744073709551616) (hx : x < 18446744073709551616) (hy : y < 18446744073709551616) :
    Calls Tryz.prog 6 #[.agg #[.int .u64 (b1 : Int), .int .u64 (b2 : Int), .int .u64 (c1 : Int), .int .u64 (c2 : Int), .int .u64 (x : Int), .int .u64 (y : Int)]] w fun e w' => e = .returned (.bool true) ∧ Below w.heap.size w w' := by
  have R1 := Lib.hid fun W => mulrev_any b1 b2 c1 c2 x y W hb1 hb2 hc1 hc2 hx hy
  have R2 := Lib.hid fun W => refmulrev_any b1 b2 c1 c2 x y W hb1 hb2 hc1 hc2 hx hy
  obtain ⟨A0, ea0⟩ : ∃ z, pat (mlr (rd b1 b2).1 (rd b1 b2).2 (rd c1 c2).1 (rd c1 c2).2 (rd x y).1 (rd x y).2).1 = z := ⟨_, rfl⟩
  obtain ⟨B0, eb0⟩ : ∃ z, pat (mlr (rd b1 b2).1 (rd b1 b2).2 (rd c1 c2).1 (rd c1 c2).2 (rd x y).1 (rd x y).2).2 = z := ⟨_, rfl⟩
  rw [ea0, eb0] at R1 R2
  have O1 := Lib.hid fun W => law_out A0 B0 W
  have I1 := Lib.hid fun W => law_in b1 b2 W
  have I2 := Lib.hid fun W => law_in c1 c2 W
  have I3 := Lib.hid fun W => law_in x y W
  clear ea0 eb0 hb1 hb2 hc1 hc2 hx hy
  obtain ⟨LB0, LG0_0⟩ := bx1 w #[.int .u64 (b1 : Int), .int .u64 (b2 : Int), .int .u64 (c1 : Int), .int .u64 (c2 : Int), .int .u64 (x : Int), .int .u64 (y : Int)] 26
  go_enter Tryz.func6, Tryz.ntmps6
  go_wp2_with fail
  refine wp_region_held_drew (S := fun W' => Blk W' w.heap.size 26 #[.int .u64 (b1 : Int), .int .u64 (b2 : Int), .int .u64 (c1 : Int), .int .u64 (c2 : Int), .int .u64 (x : Int), .int .u64 (y : Int)] ∧ Below w.heap.size w W') (by kernel_rfl) (by exact ⟨LG0_0.out.drew, LB0.out.drew⟩) (fun hHeld => ?_)
  refine tk 0 ?_
  try simp only [Act.put, lay]
  refine tk 1 ?_ (hv := by intro W2 hSw; obtain ⟨q0, q1, q2, q3, q4, q5⟩ := hSw.1.c6; go_simp; (try with_reducible rfl))
  try simp only [Act.put, lay]
  refine tk 3 ?_
  try simp only [Act.put, lay]
  refine tk 4 ?_ (hv := by intro W2 hSw; obtain ⟨q0, q1, q2, q3, q4, q5⟩ := hSw.1.c6; go_simp; (try with_reducible rfl))
  try simp only [Act.put, lay]
  refine tk 6 ?_
  try simp only [Act.put, lay]
  refine tk 7 ?_ (hv := by intro W2 hSw; obtain ⟨q0, q1, q2, q3, q4, q5⟩ := hSw.1.c6; go_simp; (try with_reducible rfl))
  try simp only [Act.put, lay]
  refine tk 11 ?_
  try simp only [Act.put, lay]
  refine tk 12 ?_ (hv := by intro W2 hSw; obtain ⟨q0, q1, q2, q3, q4, q5⟩ := hSw.1.c6; go_simp; (try with_reducible rfl))
  try simp only [Act.put, lay]
  refine tk 13 ?_
  try simp only [Act.put, lay]
  refine tk 14 ?_ (hv := by intro W2 hSw; obtain ⟨q0, q1, q2, q3, q4, q5⟩ := hSw.1.c6; go_simp; (try with_reducible rfl))
  try simp only [Act.put, lay]
  refine tk 15 ?_
  try simp only [Act.put, lay]
  refine tk 16 ?_ (hv := by intro W2 hSw; obtain ⟨q0, q1, q2, q3, q4, q5⟩ := hSw.1.c6; go_simp; (try with_reducible rfl))
  try simp only [Act.put, lay]
  refine rdy 2 (fun KK hKK => ?_)
  go_simp
  refine (I1.out _).mono ?_
  rintro e w1 ⟨rfl, hb1⟩
  go_wp2_with fail
  refine hKK.out _ _ (⟨hHeld.1.keep hb1, hHeld.2.trans (hb1.mono hHeld.2.size)⟩) (fun _ => ?_)
  clear hKK KK hHeld; rename_i hHeld
  try simp only [Act.put, lay]
  refine rdy 5 (fun KK hKK => ?_)
  go_simp
  refine (I2.out _).mono ?_
  rintro e w2 ⟨rfl, hb2⟩
  go_wp2_with fail
  refine hKK.out _ _ (⟨hHeld.1.keep hb2, hHeld.2.trans (hb2.mono hHeld.2.size)⟩) (fun _ => ?_)
  clear hKK KK hHeld; rename_i hHeld
  try simp only [Act.put, lay]
  refine rdy 8 (fun KK hKK => ?_)
  go_simp
  refine (I3.out _).mono ?_
  rintro e w3 ⟨rfl, hb3⟩
  go_wp2_with fail
  refine hKK.out _ _ (⟨hHeld.1.keep hb3, hHeld.2.trans (hb3.mono hHeld.2.size)⟩) (fun _ => ?_)
  clear hKK KK hHeld; rename_i hHeld
  try simp only [Act.put, lay]
  refine rdy 9 (fun KK hKK => ?_)
  go_simp
  refine (R1.out _).mono ?_
  rintro e wa ⟨rfl, hba⟩
  go_wp2_with fail
  refine hKK.out _ _ (⟨hHeld.1.keep hba, hHeld.2.trans (hba.mono hHeld.2.size)⟩) (fun _ => ?_)
  clear hKK KK hHeld; rename_i hHeld
  try simp only [Act.put, lay]
  refine rdy 10 (fun KK hKK => ?_)
  go_simp
  refine (O1.out _).mono ?_
  rintro e wb ⟨rfl, hbb⟩
  go_wp2_with fail
  refine hKK.out _ _ (⟨hHeld.1.keep hbb, hHeld.2.trans (hbb.mono hHeld.2.size)⟩) (fun _ => ?_)
  clear hKK KK hHeld; rename_i hHeld
  try simp only [Act.put, lay]
  refine rdy 17 (fun KK hKK => ?_)
  go_simp
  refine (R2.out _).mono ?_
  rintro e wc ⟨rfl, hbc⟩
  go_wp2_with fail
  refine hKK.out _ _ (⟨hHeld.1.keep hbc, hHeld.2.trans (hbc.mono hHeld.2.size)⟩) (fun _ => ?_)
  clear hKK KK hHeld; rename_i hHeld
  try simp only [Act.put, lay]
  refine tk 18 ?_
  try simp only [Act.put, lay]
  refine tk 19 ?_
  try simp only [Act.put, lay]
  refine wpAnyH_done (by kernel_rfl) ?_ _
  have HF := Lib.hid hHeld.2
  clear hHeld hb1 hb2 hb3 hba hbb hbc R1 R2 O1 I1 I2 I3
  go_wp2
  go_ret
  exact ⟨rfl, HF.out⟩

end Go.Proofs.YtmjkmoahkanblaaGreat
