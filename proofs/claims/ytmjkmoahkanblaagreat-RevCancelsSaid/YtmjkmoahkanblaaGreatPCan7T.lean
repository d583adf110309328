/-
Walks: package vergeref10, CancelMinus of numbers; CancelPlus.
-/
import Derived.Test.YtmjkmoahkanblaaGreatM20
import Derived.Test.YtmjkmoahkanblaaGreatM11
set_option linter.unusedSimpArgs false
set_option linter.unusedVariables false

namespace Go.Proofs.YtmjkmoahkanblaaGreat
open Go.RowKit

set_option maxHeartbeats 6400000 in
theorem cancel6_C (b1 b2 c1 c2 : Nat) (i1 j1 i2 j2 : Int) (w : World) (hb1 : b1 < 18446744073709551616) (hb2 : b2 < 18446744073709551616) (hc1 : c1 < 18446744073709551616) (hc2 : c2 < 18446744073709551616) (r1 : rd b1 b2 = (i1, j1)) (r2 : rd c1 c2 = (i2, j2)) (h1 : com i1 j1 = true) (h2 : com i2 j2 = true) (h3 : fl j1 - fl j2 < fl i1 - fl i2) :
    Calls Tryz.prog 20 #[.agg #[.int .u64 (b1 : Int), .int .u64 (b2 : Int)], .agg #[.int .u64 (c1 : Int), .int .u64 (c2 : Int)]] w fun e w' => e = .returned (.agg #[.int .u64 (pat ((-(M : Int), (M : Int))).1 : Int), .int .u64 (pat ((-(M : Int), (M : Int))).2 : Int)]) ∧ Below w.heap.size w w' := by
  have v1 := rd_iv b1 b2
  have v2 := rd_iv c1 c2
  rw [r1] at v1
  rw [r2] at v2
  dsimp only at v1 v2
  have hM : M = 9218868437227405312 := rfl
  have t1 := fun W => read6 b1 b2 W hb1 hb2
  have t2 := fun W => read6 c1 c2 W hc1 hc2
  rw [r1] at t1
  rw [r2] at t2
  dsimp only at t1 t2
  have K1 := fun W => numbers_any i1 j1 W v1
  have K2 := fun W => numbers_any i2 j2 W v2
  have HE := Lib.hid empty6
  have HN := Lib.hid entire6
  have h4 := of_decide_eq_true h1
  rw [h1] at K1
  have hp1 := pat_ne_max v1.lo.1 (by omega)
  rw [h2] at K2
  have h5 := of_decide_eq_true h2
  have F1 := Lib.hid fun W => from_v i1 W (by omega) (by omega)
  have F2 := Lib.hid fun W => from_v i2 W (by omega) (by omega)
  have F3 := Lib.hid fun W => from_v j1 W (by omega) (by omega)
  have F4 := Lib.hid fun W => from_v j2 W (by omega) (by omega)
  obtain ⟨y1, ey1⟩ : ∃ x, fl i1 = x := ⟨_, rfl⟩
  obtain ⟨y2, ey2⟩ : ∃ x, fl i2 = x := ⟨_, rfl⟩
  obtain ⟨y3, ey3⟩ : ∃ x, fl j1 = x := ⟨_, rfl⟩
  obtain ⟨y4, ey4⟩ : ∃ x, fl j2 = x := ⟨_, rfl⟩
  rw [ey1] at F1
  rw [ey2] at F2
  rw [ey3] at F3
  rw [ey4] at F4
  rw [ey1, ey2, ey3, ey4] at h3
  have hrc : rc (y3 - y4) (y1 - y2) < 0 := rc_lt_zero.2 h3
  have RS := Lib.hid fun W (g1 : Bool) (A1 : Option Addr) (n1 k1 : Nat) (B1 : Option Addr) (m1 d1 : Nat) (x1 : Rat) (g2 : Bool) (A2 : Option Addr) (n2 k2 : Nat) (B2 : Option Addr) (m2 d2 : Nat) (x2 : Rat) (h1 : RatV W 34 g1 (.slice A1 n1 k1) (.slice B1 m1 d1) x1) (h2 : RatV W 34 g2 (.slice A2 n2 k2) (.slice B2 m2 d2) x2) => rsub_v 34 g1 A1 n1 k1 B1 m1 d1 x1 g2 A2 n2 k2 B2 m2 d2 x2 W h1 h2 (by omega)
  have RC := Lib.hid fun W (g1 : Bool) (A1 : Option Addr) (n1 k1 : Nat) (B1 : Option Addr) (m1 d1 : Nat) (x1 : Rat) (g2 : Bool) (A2 : Option Addr) (n2 k2 : Nat) (B2 : Option Addr) (m2 d2 : Nat) (x2 : Rat) (h1 : RatV W 69 g1 (.slice A1 n1 k1) (.slice B1 m1 d1) x1) (h2 : RatV W 69 g2 (.slice A2 n2 k2) (.slice B2 m2 d2) x2) => rcmp_any 69 g1 _ _ x1 g2 _ _ x2 W h1 h2 (by omega)
  dsimp only
  rw [pat_max, pat_min]
  obtain ⟨lo, elo⟩ : ∃ x, y1 - y2 = x := ⟨_, rfl⟩
  obtain ⟨hi, ehi⟩ : ∃ x, y3 - y4 = x := ⟨_, rfl⟩
  rw [elo, ehi] at hrc
  have RS1 := Lib.hid fun W g1 A1 n1 k1 B1 m1 d1 g2 A2 n2 k2 B2 m2 d2 h1 h2 => RS.out W g1 A1 n1 k1 B1 m1 d1 y1 g2 A2 n2 k2 B2 m2 d2 y2 h1 h2
  have RS2 := Lib.hid fun W g1 A1 n1 k1 B1 m1 d1 g2 A2 n2 k2 B2 m2 d2 h1 h2 => RS.out W g1 A1 n1 k1 B1 m1 d1 y3 g2 A2 n2 k2 B2 m2 d2 y4 h1 h2
  rw [elo] at RS1
  rw [ehi] at RS2
  have RC1 := Lib.hid fun W g1 A1 n1 k1 B1 m1 d1 g2 A2 n2 k2 B2 m2 d2 h1 h2 => RC.out W g1 A1 n1 k1 B1 m1 d1 hi g2 A2 n2 k2 B2 m2 d2 lo h1 h2
  obtain ⟨rr, err⟩ : ∃ z, rc hi lo = z := ⟨_, rfl⟩
  rw [err] at RC1 hrc
  have HRR := Lib.hid hrc
  clear h2 h4 h5 h3 ey1 ey2 ey3 ey4 elo ehi RS RC err hrc
  obtain ⟨P1, hP1⟩ : ∃ z, pat i1 = z := ⟨_, rfl⟩
  obtain ⟨Q1, hQ1⟩ : ∃ z, pat j1 = z := ⟨_, rfl⟩
  obtain ⟨P2, hP2⟩ : ∃ z, pat i2 = z := ⟨_, rfl⟩
  obtain ⟨Q2, hQ2⟩ : ∃ z, pat j2 = z := ⟨_, rfl⟩
  rw [hP1, hQ1] at t1 K1
  rw [hP2, hQ2] at t2 K2
  rw [hP1] at hp1
  rw [hP1] at F1
  rw [hQ1] at F3
  rw [hP2] at F2
  rw [hQ2] at F4
  have KC1 := Lib.hid K1
  have KC2 := Lib.hid K2
  have HR1 := Lib.hid t1
  have HR2 := Lib.hid t2
  clear K1 K2 t1 t2 v1 v2 hM r1 r2 hb1 hb2 hc1 hc2 h1 hP1 hQ1 hP2 hQ2
  have LB0 := Lib.hid (show Below w.heap.size w (((w.alloc (.cells #[.int .u64 (b1 : Int), .int .u64 (b2 : Int)] 24)).alloc (.cells #[.int .u64 (c1 : Int), .int .u64 (c2 : Int)] 24)).alloc (.cells #[.int .u64 0, .int .u64 0] 24)) from (((below_alloc w _).alloc (by simp <;> omega) _).alloc (by simp <;> omega) _))
  have LG0_0 := Lib.hid ((((Blk.at (W := w) (g := w.heap.size) (by simp <;> omega) 24 #[.int .u64 (b1 : Int), .int .u64 (b2 : Int)]).alloc (.cells #[.int .u64 (c1 : Int), .int .u64 (c2 : Int)] 24)).alloc (.cells #[.int .u64 0, .int .u64 0] 24)))
  have LG1_0 := Lib.hid (((Blk.at (W := (w.alloc (.cells #[.int .u64 (b1 : Int), .int .u64 (b2 : Int)] 24))) (g := (w.heap.size + 1)) (by simp <;> omega) 24 #[.int .u64 (c1 : Int), .int .u64 (c2 : Int)]).alloc (.cells #[.int .u64 0, .int .u64 0] 24)))
  have LR0 := Lib.hid (HasBlk.of (n := 2) (Blk.at (W := ((w.alloc (.cells #[.int .u64 (b1 : Int), .int .u64 (b2 : Int)] 24)).alloc (.cells #[.int .u64 (c1 : Int), .int .u64 (c2 : Int)] 24))) (g := (w.heap.size + 2)) (by simp <;> omega) 24 #[.int .u64 0, .int .u64 0]) rfl rfl)
  go_enter Tryz.func20, Tryz.ntmps20
  go_wp2_with fail
  refine (HR1.out _).mono ?_
  rintro e w1 ⟨rfl, hb1⟩
  have LB1 := Lib.hid (LB0.out.trans (hb1.mono LB0.out.size))
  have LR1 := Lib.hid (LR0.out.keep hb1)
  have LG0_1 := Lib.hid (LG0_0.out.keep hb1)
  have LG1_1 := Lib.hid (LG1_0.out.keep hb1)
  clear LB0 LR0 LG0_0 LG1_0
  clear hb1
  go_upto_region 2 with fail
  have hlt2 := LR1.out.lt
  have LB2 := Lib.hid (LB1.out.alloc LB1.out.size (.cells #[.int .u64 (P1 : Int), .int .u64 (Q1 : Int)] 24))
  have LR2 := Lib.hid (LR1.out.alloc (.cells #[.int .u64 (P1 : Int), .int .u64 (Q1 : Int)] 24))
  have LG0_2 := Lib.hid (LG0_1.out.alloc (.cells #[.int .u64 (P1 : Int), .int .u64 (Q1 : Int)] 24))
  have LG1_2 := Lib.hid (LG1_1.out.alloc (.cells #[.int .u64 (P1 : Int), .int .u64 (Q1 : Int)] 24))
  have LG2_2 := Lib.hid (Blk.new w1 24 #[.int .u64 (P1 : Int), .int .u64 (Q1 : Int)])
  clear LB1 LR1 LG0_1 LG1_1
  obtain ⟨V1, hV1⟩ : ∃ X, (w1.alloc (.cells #[.int .u64 (P1 : Int), .int .u64 (Q1 : Int)] 24)) = X := ⟨_, rfl⟩
  rw [hV1] at LB2 LR2 LG0_2 LG1_2 LG2_2 ⊢
  clear hV1
  have q1_0 : _ = some (.int .u64 (c1 : Int) : Value) := LG1_2.out.cell 0
  have q1_1 : _ = some (.int .u64 (c2 : Int) : Value) := LG1_2.out.cell 1
  go_wp2_with fail
  refine (HR2.out _).mono ?_
  rintro e w2 ⟨rfl, hb2⟩
  have LB3 := Lib.hid (LB2.out.trans (hb2.mono LB2.out.size))
  have LR3 := Lib.hid (LR2.out.keep hb2)
  have LG0_3 := Lib.hid (LG0_2.out.keep hb2)
  have LG1_3 := Lib.hid (LG1_2.out.keep hb2)
  have LG2_3 := Lib.hid (LG2_2.out.keep hb2)
  clear LB2 LR2 LG0_2 LG1_2 LG2_2
  clear hb2 q1_0 q1_1
  go_upto_region 3 with fail
  have hlt4 := LR3.out.lt
  have LB4 := Lib.hid (LB3.out.alloc LB3.out.size (.cells #[.int .u64 (P2 : Int), .int .u64 (Q2 : Int)] 24))
  have LR4 := Lib.hid (LR3.out.alloc (.cells #[.int .u64 (P2 : Int), .int .u64 (Q2 : Int)] 24))
  have LG0_4 := Lib.hid (LG0_3.out.alloc (.cells #[.int .u64 (P2 : Int), .int .u64 (Q2 : Int)] 24))
  have LG1_4 := Lib.hid (LG1_3.out.alloc (.cells #[.int .u64 (P2 : Int), .int .u64 (Q2 : Int)] 24))
  have LG2_4 := Lib.hid (LG2_3.out.alloc (.cells #[.int .u64 (P2 : Int), .int .u64 (Q2 : Int)] 24))
  have LG3_4 := Lib.hid (Blk.new w2 24 #[.int .u64 (P2 : Int), .int .u64 (Q2 : Int)])
  clear LB3 LR3 LG0_3 LG1_3 LG2_3
  obtain ⟨V2, hV2⟩ : ∃ X, (w2.alloc (.cells #[.int .u64 (P2 : Int), .int .u64 (Q2 : Int)] 24)) = X := ⟨_, rfl⟩
  rw [hV2] at LB4 LR4 LG0_4 LG1_4 LG2_4 LG3_4 ⊢
  clear hV2
  refine wp_region_held_drew (S := fun W' => Blk W' w.heap.size 24 #[.int .u64 (b1 : Int), .int .u64 (b2 : Int)] ∧ Blk W' (w.heap.size + 1) 24 #[.int .u64 (c1 : Int), .int .u64 (c2 : Int)] ∧ Blk W' w1.heap.size 24 #[.int .u64 (P1 : Int), .int .u64 (Q1 : Int)] ∧ Blk W' w2.heap.size 24 #[.int .u64 (P2 : Int), .int .u64 (Q2 : Int)] ∧ HasBlk W' (w.heap.size + 2) 24 2 ∧ Below w.heap.size w W') (by kernel_rfl) (by exact ⟨LG0_4.out.drew, LG1_4.out.drew, LG2_4.out.drew, LG3_4.out.drew, LR4.out.drew, LB4.out.drew⟩) (fun hHeld => ?_)
  refine wpAnyH_take (i := 0) (v := ?_) rfl (by kernel_rfl) (by kernel_rfl) (by kernel_rfl) (fun _ _ _ h => h) (Or.inl ⟨by rfl, ?_⟩) (by assumption) ?_
  rotate_left
  · (intro W2 hSw; (try dsimp only at hSw); have q0 : _ = some (.int .u64 (P1 : Int) : Value) := hSw.2.2.1.cell 0; have q1 : _ = some (.int .u64 (Q1 : Int) : Value) := hSw.2.2.1.cell 1; go_simp; (try with_reducible rfl))
  try simp only [Act.put, List.getElem_toArray, List.getElem_cons_succ, List.getElem_cons_zero, List.setIfInBounds_toArray, List.set_cons_zero, List.set_cons_succ]
  refine wpAnyH_ready (rs := [1]) (by kernel_rfl) (by simp) ?_
  refine AllReadyH.cons rfl (fun KK hKK => ?_) AllReadyH.nil
  go_simp
  refine (HE.out _).mono ?_
  rintro e w3 ⟨rfl, hbA⟩
  go_wp2_with fail
  refine hKK.out _ _ (⟨hHeld.1.keep hbA, hHeld.2.1.keep hbA, hHeld.2.2.1.keep hbA, hHeld.2.2.2.1.keep hbA, hHeld.2.2.2.2.1.keep hbA, hHeld.2.2.2.2.2.trans (hbA.mono hHeld.2.2.2.2.2.size)⟩) (fun _ => ?_)
  clear hKK KK hHeld; rename_i hHeld
  try simp only [Act.put, List.getElem_toArray, List.getElem_cons_succ, List.getElem_cons_zero, List.setIfInBounds_toArray, List.set_cons_zero, List.set_cons_succ]
  refine wpAnyH_take (i := 2) (v := ?_) rfl (by kernel_rfl) (by kernel_rfl) (by kernel_rfl) (fun _ _ _ h => h) (Or.inl ⟨by rfl, ?_⟩) (by assumption) ?_
  rotate_left
  · (intro W2 hSw; go_simp; (try with_reducible rfl))
  try simp only [Act.put, List.getElem_toArray, List.getElem_cons_succ, List.getElem_cons_zero, List.setIfInBounds_toArray, List.set_cons_zero, List.set_cons_succ]
  refine wpAnyH_take (i := 3) (v := ?_) rfl (by kernel_rfl) (by kernel_rfl) (by kernel_rfl) (fun _ _ _ h => h) (Or.inl ⟨by rfl, ?_⟩) (by assumption) ?_
  rotate_left
  · (intro W2 hSw; go_simp; (try with_reducible rfl))
  try simp only [Act.put, List.getElem_toArray, List.getElem_cons_succ, List.getElem_cons_zero, List.setIfInBounds_toArray, List.set_cons_zero, List.set_cons_succ]
  refine wpAnyH_take (i := 4) (v := undef) rfl (by kernel_rfl) (by kernel_rfl) (by kernel_rfl) (fun _ _ _ h => h) (Or.inr ⟨by rfl, rfl⟩) (by assumption) ?_
  try simp only [Act.put, List.getElem_toArray, List.getElem_cons_succ, List.getElem_cons_zero, List.setIfInBounds_toArray, List.set_cons_zero, List.set_cons_succ]
  refine wpAnyH_take (i := 5) (v := undef) rfl (by kernel_rfl) (by kernel_rfl) (by kernel_rfl) (fun _ _ _ h => h) (Or.inr ⟨by rfl, rfl⟩) (by assumption) ?_
  try simp only [Act.put, List.getElem_toArray, List.getElem_cons_succ, List.getElem_cons_zero, List.setIfInBounds_toArray, List.set_cons_zero, List.set_cons_succ]
  refine wpAnyH_take (i := 6) (v := undef) rfl (by kernel_rfl) (by kernel_rfl) (by kernel_rfl) (fun _ _ _ h => h) (Or.inr ⟨by rfl, rfl⟩) (by assumption) ?_
  try simp only [Act.put, List.getElem_toArray, List.getElem_cons_succ, List.getElem_cons_zero, List.setIfInBounds_toArray, List.set_cons_zero, List.set_cons_succ]
  refine wpAnyH_take (i := 7) (v := undef) rfl (by kernel_rfl) (by kernel_rfl) (by kernel_rfl) (fun _ _ _ h => h) (Or.inr ⟨by rfl, rfl⟩) (by assumption) ?_
  try simp only [Act.put, List.getElem_toArray, List.getElem_cons_succ, List.getElem_cons_zero, List.setIfInBounds_toArray, List.set_cons_zero, List.set_cons_succ]
  refine wpAnyH_take (i := 8) (v := undef) rfl (by kernel_rfl) (by kernel_rfl) (by kernel_rfl) (fun _ _ _ h => h) (Or.inr ⟨by rfl, rfl⟩) (by assumption) ?_
  try simp only [Act.put, List.getElem_toArray, List.getElem_cons_succ, List.getElem_cons_zero, List.setIfInBounds_toArray, List.set_cons_zero, List.set_cons_succ]
  refine wpAnyH_take (i := 9) (v := undef) rfl (by kernel_rfl) (by kernel_rfl) (by kernel_rfl) (fun _ _ _ h => h) (Or.inr ⟨by rfl, rfl⟩) (by assumption) ?_
  try simp only [Act.put, List.getElem_toArray, List.getElem_cons_succ, List.getElem_cons_zero, List.setIfInBounds_toArray, List.set_cons_zero, List.set_cons_succ]
  refine wpAnyH_take (i := 10) (v := undef) rfl (by kernel_rfl) (by kernel_rfl) (by kernel_rfl) (fun _ _ _ h => h) (Or.inr ⟨by rfl, rfl⟩) (by assumption) ?_
  try simp only [Act.put, List.getElem_toArray, List.getElem_cons_succ, List.getElem_cons_zero, List.setIfInBounds_toArray, List.set_cons_zero, List.set_cons_succ]
  refine wpAnyH_take (i := 11) (v := ?_) rfl (by kernel_rfl) (by kernel_rfl) (by kernel_rfl) (fun _ _ _ h => h) (Or.inl ⟨by rfl, ?_⟩) (by assumption) ?_
  rotate_left
  · (intro W2 hSw; go_simp; (try with_reducible rfl))
  try simp only [Act.put, List.getElem_toArray, List.getElem_cons_succ, List.getElem_cons_zero, List.setIfInBounds_toArray, List.set_cons_zero, List.set_cons_succ]
  refine wpAnyH_done (by kernel_rfl) ?_ _
  clear LB4 LR4 LG0_4 LG1_4 LG2_4 LG3_4
  have LG0_5 := Lib.hid hHeld.1
  have LG1_5 := Lib.hid hHeld.2.1
  have LG2_5 := Lib.hid hHeld.2.2.1
  have LG3_5 := Lib.hid hHeld.2.2.2.1
  have LR5 := Lib.hid hHeld.2.2.2.2.1
  have LB5 := Lib.hid hHeld.2.2.2.2.2
  clear hHeld hbA hp1
  have q2_0 : _ = some (.int .u64 (P1 : Int) : Value) := LG2_5.out.cell 0
  have q2_1 : _ = some (.int .u64 (Q1 : Int) : Value) := LG2_5.out.cell 1
  have q3_0 : _ = some (.int .u64 (P2 : Int) : Value) := LG3_5.out.cell 0
  have q3_1 : _ = some (.int .u64 (Q2 : Int) : Value) := LG3_5.out.cell 1
  go_wp2_with fail
  refine (KC1.out _).mono ?_
  rintro e w6 ⟨rfl, hb6⟩
  have LB6 := Lib.hid (LB5.out.trans (hb6.mono LB5.out.size))
  have LR6 := Lib.hid (LR5.out.keep hb6)
  have LG0_6 := Lib.hid (LG0_5.out.keep hb6)
  have LG1_6 := Lib.hid (LG1_5.out.keep hb6)
  have LG2_6 := Lib.hid (LG2_5.out.keep hb6)
  have LG3_6 := Lib.hid (LG3_5.out.keep hb6)
  clear LB5 LR5 LG0_5 LG1_5 LG2_5 LG3_5
  clear hb6 q2_0 q2_1 q3_0 q3_1
  have q2_0 : _ = some (.int .u64 (P1 : Int) : Value) := LG2_6.out.cell 0
  have q2_1 : _ = some (.int .u64 (Q1 : Int) : Value) := LG2_6.out.cell 1
  have q3_0 : _ = some (.int .u64 (P2 : Int) : Value) := LG3_6.out.cell 0
  have q3_1 : _ = some (.int .u64 (Q2 : Int) : Value) := LG3_6.out.cell 1
  go_wp2_with fail
  refine (KC2.out _).mono ?_
  rintro e w7 ⟨rfl, hb7⟩
  have LB7 := Lib.hid (LB6.out.trans (hb7.mono LB6.out.size))
  have LR7 := Lib.hid (LR6.out.keep hb7)
  have LG0_7 := Lib.hid (LG0_6.out.keep hb7)
  have LG1_7 := Lib.hid (LG1_6.out.keep hb7)
  have LG2_7 := Lib.hid (LG2_6.out.keep hb7)
  have LG3_7 := Lib.hid (LG3_6.out.keep hb7)
  clear LB6 LR6 LG0_6 LG1_6 LG2_6 LG3_6
  clear hb7 q2_0 q2_1 q3_0 q3_1
  have q2_0 : _ = some (.int .u64 (P1 : Int) : Value) := LG2_7.out.cell 0
  have q2_1 : _ = some (.int .u64 (Q1 : Int) : Value) := LG2_7.out.cell 1
  have q3_0 : _ = some (.int .u64 (P2 : Int) : Value) := LG3_7.out.cell 0
  have q3_1 : _ = some (.int .u64 (Q2 : Int) : Value) := LG3_7.out.cell 1
  go_wp2_with fail
  clear q2_0 q2_1 q3_0 q3_1
  have LA7 := LG2_7
  have LC7 := LG3_7
  clear LG0_7 LG1_7 LG2_7 LG3_7
  have LG0_7 := LA7
  have LG1_7 := LC7
  clear LA7 LC7
  go_cut [7] from 35 to 41 (fun s7 wx => ∃ (gl : Nat) (gg : Bool) (AA : Option Addr) (nn kk : Nat) (BB : Option Addr) (mm dd : Nat), s7 = .pointer (some ⟨gl, 0, none⟩) ∧ (w.heap.size + 2) < gl ∧ Blk wx gl 60 #[.bool gg, .slice AA nn kk, .slice BB mm dd] ∧ RatV wx 69 gg (.slice AA nn kk) (.slice BB mm dd) lo ∧ Blk wx w1.heap.size 24 #[.int .u64 (P1 : Int), .int .u64 (Q1 : Int)] ∧ Blk wx w2.heap.size 24 #[.int .u64 (P2 : Int), .int .u64 (Q2 : Int)] ∧ HasBlk wx (w.heap.size + 2) 24 2 ∧ Below w.heap.size w wx)
  case first =>
    refine wp_region_held_drew (S := fun W' => Blk W' w1.heap.size 24 #[.int .u64 (P1 : Int), .int .u64 (Q1 : Int)] ∧ Blk W' w2.heap.size 24 #[.int .u64 (P2 : Int), .int .u64 (Q2 : Int)] ∧ HasBlk W' (w.heap.size + 2) 24 2 ∧ Below w.heap.size w W') (by kernel_rfl) (by exact ⟨LG0_7.out.drew, LG1_7.out.drew, LR7.out.drew, LB7.out.drew⟩) (fun hHeld => ?_)
    clear LG0_7 LG1_7 LR7 LB7
    obtain ⟨WD, hWD⟩ : ∃ X, w7.drew = X := ⟨_, rfl⟩
    rw [hWD] at hHeld  ⊢
    clear hWD
    refine wpAnyH_take (i := 0) (v := ?_) rfl (by kernel_rfl) (by kernel_rfl) (by kernel_rfl) (fun _ _ _ h => h) (Or.inl ⟨by rfl, ?_⟩) (by assumption) ?_
    rotate_left
    · (intro W2 hSw; go_simp; (try with_reducible rfl))
    try simp only [Act.put, List.getElem_toArray, List.getElem_cons_succ, List.getElem_cons_zero, List.setIfInBounds_toArray, List.set_cons_zero, List.set_cons_succ]
    refine wpAnyH_take (i := 1) (v := ?_) rfl (by kernel_rfl) (by kernel_rfl) (by kernel_rfl) (fun _ _ _ h => h) (Or.inl ⟨by rfl, ?_⟩) (by assumption) ?_
    rotate_left
    · (intro W2 hSw; (try dsimp only at hSw); have q0 : _ = some (.int .u64 (P1 : Int) : Value) := hSw.1.cell 0; have q1 : _ = some (.int .u64 (Q1 : Int) : Value) := hSw.1.cell 1; go_simp; (try with_reducible rfl))
    try simp only [Act.put, List.getElem_toArray, List.getElem_cons_succ, List.getElem_cons_zero, List.setIfInBounds_toArray, List.set_cons_zero, List.set_cons_succ]
    refine wpAnyH_take (i := 3) (v := ?_) rfl (by kernel_rfl) (by kernel_rfl) (by kernel_rfl) (fun _ _ _ h => h) (Or.inl ⟨by rfl, ?_⟩) (by assumption) ?_
    rotate_left
    · (intro W2 hSw; go_simp; (try with_reducible rfl))
    try simp only [Act.put, List.getElem_toArray, List.getElem_cons_succ, List.getElem_cons_zero, List.setIfInBounds_toArray, List.set_cons_zero, List.set_cons_succ]
    refine wpAnyH_take (i := 4) (v := ?_) rfl (by kernel_rfl) (by kernel_rfl) (by kernel_rfl) (fun _ _ _ h => h) (Or.inl ⟨by rfl, ?_⟩) (by assumption) ?_
    rotate_left
    · (intro W2 hSw; (try dsimp only at hSw); have q0 : _ = some (.int .u64 (P2 : Int) : Value) := hSw.2.1.cell 0; have q1 : _ = some (.int .u64 (Q2 : Int) : Value) := hSw.2.1.cell 1; go_simp; (try with_reducible rfl))
    try simp only [Act.put, List.getElem_toArray, List.getElem_cons_succ, List.getElem_cons_zero, List.setIfInBounds_toArray, List.set_cons_zero, List.set_cons_succ]
    refine wpAnyH_ready (rs := [2, 7]) (by kernel_rfl) (by simp) ?_
    refine AllReadyH.cons rfl (fun KK hKK => ?_) (AllReadyH.cons rfl (fun KK hKK => ?_) AllReadyH.nil)
    · skip
      go_simp
      refine (F1.out _).mono ?_
      rintro e w11 ⟨gx1, Ax1, nx1, kx1, Bx1, mx1, dx1, rfl, hx1, hb1⟩
      go_wp2_with fail
      refine hKK.out _ _ (⟨hHeld.1.keep hb1, hHeld.2.1.keep hb1, hHeld.2.2.1.keep hb1, hHeld.2.2.2.trans (hb1.mono hHeld.2.2.2.size)⟩) (fun _ => ?_)
      clear hKK KK hHeld; rename_i hHeld
      try simp only [Act.put, List.getElem_toArray, List.getElem_cons_succ, List.getElem_cons_zero, List.setIfInBounds_toArray, List.set_cons_zero, List.set_cons_succ]
      clear hb1
      refine wpAnyH_ready (rs := [5, 7]) (by kernel_rfl) (by simp) ?_
      refine AllReadyH.cons rfl (fun KK hKK => ?_) (AllReadyH.cons rfl (fun KK hKK => ?_) AllReadyH.nil)
      · skip
        go_simp
        refine (F2.out _).mono ?_
        rintro e w12 ⟨gx2, Ax2, nx2, kx2, Bx2, mx2, dx2, rfl, hx2, hb2⟩
        go_wp2_with fail
        refine hKK.out _ _ (⟨hHeld.1.keep hb2, hHeld.2.1.keep hb2, hHeld.2.2.1.keep hb2, hHeld.2.2.2.trans (hb2.mono hHeld.2.2.2.size)⟩) (fun _ => ?_)
        clear hKK KK hHeld; rename_i hHeld
        try simp only [Act.put, List.getElem_toArray, List.getElem_cons_succ, List.getElem_cons_zero, List.setIfInBounds_toArray, List.set_cons_zero, List.set_cons_succ]
        have hx1 := hx1.below hb2
        clear hb2
        refine wpAnyH_ready (rs := [6, 7]) (by kernel_rfl) (by simp) ?_
        refine AllReadyH.cons rfl (fun KK hKK => ?_) (AllReadyH.cons rfl (fun KK hKK => ?_) AllReadyH.nil)
        · skip
          go_simp
          refine (RS1.out _ _ _ _ _ _ _ _ _ _ _ _ _ _ _ hx1 hx2).mono ?_
          rintro e w13 ⟨gx3, Ax3, nx3, kx3, Bx3, mx3, dx3, rfl, hx3, hb3⟩
          go_wp2_with fail
          refine hKK.out _ _ (⟨hHeld.1.keep hb3, hHeld.2.1.keep hb3, hHeld.2.2.1.keep hb3, hHeld.2.2.2.trans (hb3.mono hHeld.2.2.2.size)⟩) (fun _ => ?_)
          clear hKK KK hHeld; rename_i hHeld
          try simp only [Act.put, List.getElem_toArray, List.getElem_cons_succ, List.getElem_cons_zero, List.setIfInBounds_toArray, List.set_cons_zero, List.set_cons_succ]
          have hx1 := hx1.below hb3
          have hx2 := hx2.below hb3
          clear hb3
          refine wpAnyH_ready (rs := [7]) (by kernel_rfl) (by simp) ?_
          refine AllReadyH.cons rfl (fun KK hKK => ?_) AllReadyH.nil
          have H0 := hHeld
          go_simp
          refine hKK.out _ _ ⟨H0.1.alloc _, H0.2.1.alloc _, H0.2.2.1.alloc _, H0.2.2.2.alloc H0.2.2.2.size _⟩ (fun _ => ?_)
          clear hKK KK hHeld; rename_i hHeld
          try simp only [Act.put, List.getElem_toArray, List.getElem_cons_succ, List.getElem_cons_zero, List.setIfInBounds_toArray, List.set_cons_zero, List.set_cons_succ]
          have hl0 := H0.1.lt
          have hl1 := H0.2.1.lt
          have hlr := H0.2.2.1.lt
          have hlb := H0.2.2.2.size
          clear H0
          have BL := Blk.new (w13) 60 #[.bool false, .slice none 0 0, .slice none 0 0]
          have hx1 := hx1.below (below_alloc _ (.cells #[.bool false, .slice none 0 0, .slice none 0 0] 60))
          have hx2 := hx2.below (below_alloc _ (.cells #[.bool false, .slice none 0 0, .slice none 0 0] 60))
          have hx3 := hx3.below (below_alloc _ (.cells #[.bool false, .slice none 0 0, .slice none 0 0] 60))
          obtain ⟨gl, hgl⟩ : ∃ g, (w13).heap.size = g := ⟨_, rfl⟩
          obtain ⟨WA, hWA⟩ : ∃ X, (w13).alloc (.cells #[.bool false, .slice none 0 0, .slice none 0 0] 60) = X := ⟨_, rfl⟩
          rw [hWA] at BL hHeld hx1 hx2 hx3 ⊢
          rw [hgl] at BL hl0 hl1 hlr hlb ⊢
          clear hgl hWA
          refine wpAnyH_ready (rs := [8]) (by kernel_rfl) (by simp) ?_
          refine AllReadyH.cons rfl (fun KK hKK => ?_) AllReadyH.nil
          have qz0 := BL.cell 0
          have fz0 := BL.frozen 0
          have qz1 := BL.cell 1
          have fz1 := BL.frozen 1
          have qz2 := BL.cell 2
          have fz2 := BL.frozen 2
          simp at qz0 qz1 qz2
          go_simp
          refine hKK.out _ _ ⟨hHeld.1.other (by omega) 0 [.bool gx3, .slice Ax3 nx3 kx3, .slice Bx3 mx3 dx3], hHeld.2.1.other (by omega) 0 [.bool gx3, .slice Ax3 nx3 kx3, .slice Bx3 mx3 dx3], hHeld.2.2.1.other (by omega) 0 [.bool gx3, .slice Ax3 nx3 kx3, .slice Bx3 mx3 dx3], below_sets (by omega) [.bool gx3, .slice Ax3 nx3 kx3, .slice Bx3 mx3 dx3] 0 _ hHeld.2.2.2⟩ (fun _ => ?_)
          clear hKK KK
          rename_i hNew
          try simp only [Act.put, List.getElem_toArray, List.getElem_cons_succ, List.getElem_cons_zero, List.setIfInBounds_toArray, List.set_cons_zero, List.set_cons_succ]
          refine wpAnyH_done (by kernel_rfl) ?_ _
          go_wp2_with fail
          go_meet
          have HBL := HasBlk.of (n := 3) BL rfl rfl
          exact ⟨gl, _, _, _, _, _, _, _, rfl, hlr, by have hbs := Blk.sets [.bool gx3, .slice Ax3 nx3 kx3, .slice Bx3 mx3 dx3] 0 _ _ BL; simpa [laid, sets] using hbs, HBL.rat hx3 [.bool gx3, .slice Ax3 nx3 kx3, .slice Bx3 mx3 dx3], hNew⟩
        · skip
          have H0 := hHeld
          go_simp
          refine hKK.out _ _ ⟨H0.1.alloc _, H0.2.1.alloc _, H0.2.2.1.alloc _, H0.2.2.2.alloc H0.2.2.2.size _⟩ (fun _ => ?_)
          clear hKK KK hHeld; rename_i hHeld
          try simp only [Act.put, List.getElem_toArray, List.getElem_cons_succ, List.getElem_cons_zero, List.setIfInBounds_toArray, List.set_cons_zero, List.set_cons_succ]
          have hl0 := H0.1.lt
          have hl1 := H0.2.1.lt
          have hlr := H0.2.2.1.lt
          have hlb := H0.2.2.2.size
          clear H0
          have BL := Blk.new (w12) 60 #[.bool false, .slice none 0 0, .slice none 0 0]
          have hx1 := hx1.below (below_alloc _ (.cells #[.bool false, .slice none 0 0, .slice none 0 0] 60))
          have hx2 := hx2.below (below_alloc _ (.cells #[.bool false, .slice none 0 0, .slice none 0 0] 60))
          obtain ⟨gl, hgl⟩ : ∃ g, (w12).heap.size = g := ⟨_, rfl⟩
          obtain ⟨WA, hWA⟩ : ∃ X, (w12).alloc (.cells #[.bool false, .slice none 0 0, .slice none 0 0] 60) = X := ⟨_, rfl⟩
          rw [hWA] at BL hHeld hx1 hx2 ⊢
          rw [hgl] at BL hl0 hl1 hlr hlb ⊢
          clear hgl hWA
          refine wpAnyH_ready (rs := [6]) (by kernel_rfl) (by simp) ?_
          refine AllReadyH.cons rfl (fun KK hKK => ?_) AllReadyH.nil
          go_simp
          refine (RS1.out _ _ _ _ _ _ _ _ _ _ _ _ _ _ _ hx1 hx2).mono ?_
          rintro e w13 ⟨gx3, Ax3, nx3, kx3, Bx3, mx3, dx3, rfl, hx3, hb3⟩
          go_wp2_with fail
          refine hKK.out _ _ (⟨hHeld.1.keep hb3, hHeld.2.1.keep hb3, hHeld.2.2.1.keep hb3, hHeld.2.2.2.trans (hb3.mono hHeld.2.2.2.size)⟩) (fun _ => ?_)
          clear hKK KK hHeld; rename_i hHeld
          try simp only [Act.put, List.getElem_toArray, List.getElem_cons_succ, List.getElem_cons_zero, List.setIfInBounds_toArray, List.set_cons_zero, List.set_cons_succ]
          have hx1 := hx1.below hb3
          have hx2 := hx2.below hb3
          have BL := BL.keep hb3
          clear hb3
          refine wpAnyH_ready (rs := [8]) (by kernel_rfl) (by simp) ?_
          refine AllReadyH.cons rfl (fun KK hKK => ?_) AllReadyH.nil
          have qz0 := BL.cell 0
          have fz0 := BL.frozen 0
          have qz1 := BL.cell 1
          have fz1 := BL.frozen 1
          have qz2 := BL.cell 2
          have fz2 := BL.frozen 2
          simp at qz0 qz1 qz2
          go_simp
          refine hKK.out _ _ ⟨hHeld.1.other (by omega) 0 [.bool gx3, .slice Ax3 nx3 kx3, .slice Bx3 mx3 dx3], hHeld.2.1.other (by omega) 0 [.bool gx3, .slice Ax3 nx3 kx3, .slice Bx3 mx3 dx3], hHeld.2.2.1.other (by omega) 0 [.bool gx3, .slice Ax3 nx3 kx3, .slice Bx3 mx3 dx3], below_sets (by omega) [.bool gx3, .slice Ax3 nx3 kx3, .slice Bx3 mx3 dx3] 0 _ hHeld.2.2.2⟩ (fun _ => ?_)
          clear hKK KK
          rename_i hNew
          try simp only [Act.put, List.getElem_toArray, List.getElem_cons_succ, List.getElem_cons_zero, List.setIfInBounds_toArray, List.set_cons_zero, List.set_cons_succ]
          refine wpAnyH_done (by kernel_rfl) ?_ _
          go_wp2_with fail
          go_meet
          have HBL := HasBlk.of (n := 3) BL rfl rfl
          exact ⟨gl, _, _, _, _, _, _, _, rfl, hlr, by have hbs := Blk.sets [.bool gx3, .slice Ax3 nx3 kx3, .slice Bx3 mx3 dx3] 0 _ _ BL; simpa [laid, sets] using hbs, HBL.rat hx3 [.bool gx3, .slice Ax3 nx3 kx3, .slice Bx3 mx3 dx3], hNew⟩
      · skip
        have H0 := hHeld
        go_simp
        refine hKK.out _ _ ⟨H0.1.alloc _, H0.2.1.alloc _, H0.2.2.1.alloc _, H0.2.2.2.alloc H0.2.2.2.size _⟩ (fun _ => ?_)
        clear hKK KK hHeld; rename_i hHeld
        try simp only [Act.put, List.getElem_toArray, List.getElem_cons_succ, List.getElem_cons_zero, List.setIfInBounds_toArray, List.set_cons_zero, List.set_cons_succ]
        have hl0 := H0.1.lt
        have hl1 := H0.2.1.lt
        have hlr := H0.2.2.1.lt
        have hlb := H0.2.2.2.size
        clear H0
        have BL := Blk.new (w11) 60 #[.bool false, .slice none 0 0, .slice none 0 0]
        have hx1 := hx1.below (below_alloc _ (.cells #[.bool false, .slice none 0 0, .slice none 0 0] 60))
        obtain ⟨gl, hgl⟩ : ∃ g, (w11).heap.size = g := ⟨_, rfl⟩
        obtain ⟨WA, hWA⟩ : ∃ X, (w11).alloc (.cells #[.bool false, .slice none 0 0, .slice none 0 0] 60) = X := ⟨_, rfl⟩
        rw [hWA] at BL hHeld hx1 ⊢
        rw [hgl] at BL hl0 hl1 hlr hlb ⊢
        clear hgl hWA
        refine wpAnyH_ready (rs := [5]) (by kernel_rfl) (by simp) ?_
        refine AllReadyH.cons rfl (fun KK hKK => ?_) AllReadyH.nil
        go_simp
        refine (F2.out _).mono ?_
        rintro e w12 ⟨gx2, Ax2, nx2, kx2, Bx2, mx2, dx2, rfl, hx2, hb2⟩
        go_wp2_with fail
        refine hKK.out _ _ (⟨hHeld.1.keep hb2, hHeld.2.1.keep hb2, hHeld.2.2.1.keep hb2, hHeld.2.2.2.trans (hb2.mono hHeld.2.2.2.size)⟩) (fun _ => ?_)
        clear hKK KK hHeld; rename_i hHeld
        try simp only [Act.put, List.getElem_toArray, List.getElem_cons_succ, List.getElem_cons_zero, List.setIfInBounds_toArray, List.set_cons_zero, List.set_cons_succ]
        have hx1 := hx1.below hb2
        have BL := BL.keep hb2
        clear hb2
        refine wpAnyH_ready (rs := [6]) (by kernel_rfl) (by simp) ?_
        refine AllReadyH.cons rfl (fun KK hKK => ?_) AllReadyH.nil
        go_simp
        refine (RS1.out _ _ _ _ _ _ _ _ _ _ _ _ _ _ _ hx1 hx2).mono ?_
        rintro e w13 ⟨gx3, Ax3, nx3, kx3, Bx3, mx3, dx3, rfl, hx3, hb3⟩
        go_wp2_with fail
        refine hKK.out _ _ (⟨hHeld.1.keep hb3, hHeld.2.1.keep hb3, hHeld.2.2.1.keep hb3, hHeld.2.2.2.trans (hb3.mono hHeld.2.2.2.size)⟩) (fun _ => ?_)
        clear hKK KK hHeld; rename_i hHeld
        try simp only [Act.put, List.getElem_toArray, List.getElem_cons_succ, List.getElem_cons_zero, List.setIfInBounds_toArray, List.set_cons_zero, List.set_cons_succ]
        have hx1 := hx1.below hb3
        have hx2 := hx2.below hb3
        have BL := BL.keep hb3
        clear hb3
        refine wpAnyH_ready (rs := [8]) (by kernel_rfl) (by simp) ?_
        refine AllReadyH.cons rfl (fun KK hKK => ?_) AllReadyH.nil
        have qz0 := BL.cell 0
        have fz0 := BL.frozen 0
        have qz1 := BL.cell 1
        have fz1 := BL.frozen 1
        have qz2 := BL.cell 2
        have fz2 := BL.frozen 2
        simp at qz0 qz1 qz2
        go_simp
        refine hKK.out _ _ ⟨hHeld.1.other (by omega) 0 [.bool gx3, .slice Ax3 nx3 kx3, .slice Bx3 mx3 dx3], hHeld.2.1.other (by omega) 0 [.bool gx3, .slice Ax3 nx3 kx3, .slice Bx3 mx3 dx3], hHeld.2.2.1.other (by omega) 0 [.bool gx3, .slice Ax3 nx3 kx3, .slice Bx3 mx3 dx3], below_sets (by omega) [.bool gx3, .slice Ax3 nx3 kx3, .slice Bx3 mx3 dx3] 0 _ hHeld.2.2.2⟩ (fun _ => ?_)
        clear hKK KK
        rename_i hNew
        try simp only [Act.put, List.getElem_toArray, List.getElem_cons_succ, List.getElem_cons_zero, List.setIfInBounds_toArray, List.set_cons_zero, List.set_cons_succ]
        refine wpAnyH_done (by kernel_rfl) ?_ _
        go_wp2_with fail
        go_meet
        have HBL := HasBlk.of (n := 3) BL rfl rfl
        exact ⟨gl, _, _, _, _, _, _, _, rfl, hlr, by have hbs := Blk.sets [.bool gx3, .slice Ax3 nx3 kx3, .slice Bx3 mx3 dx3] 0 _ _ BL; simpa [laid, sets] using hbs, HBL.rat hx3 [.bool gx3, .slice Ax3 nx3 kx3, .slice Bx3 mx3 dx3], hNew⟩
    · skip
      have H0 := hHeld
      go_simp
      refine hKK.out _ _ ⟨H0.1.alloc _, H0.2.1.alloc _, H0.2.2.1.alloc _, H0.2.2.2.alloc H0.2.2.2.size _⟩ (fun _ => ?_)
      clear hKK KK hHeld; rename_i hHeld
      try simp only [Act.put, List.getElem_toArray, List.getElem_cons_succ, List.getElem_cons_zero, List.setIfInBounds_toArray, List.set_cons_zero, List.set_cons_succ]
      have hl0 := H0.1.lt
      have hl1 := H0.2.1.lt
      have hlr := H0.2.2.1.lt
      have hlb := H0.2.2.2.size
      clear H0
      have BL := Blk.new (WD) 60 #[.bool false, .slice none 0 0, .slice none 0 0]
      obtain ⟨gl, hgl⟩ : ∃ g, (WD).heap.size = g := ⟨_, rfl⟩
      obtain ⟨WA, hWA⟩ : ∃ X, (WD).alloc (.cells #[.bool false, .slice none 0 0, .slice none 0 0] 60) = X := ⟨_, rfl⟩
      rw [hWA] at BL hHeld ⊢
      rw [hgl] at BL hl0 hl1 hlr hlb ⊢
      clear hgl hWA
      refine wpAnyH_ready (rs := [2]) (by kernel_rfl) (by simp) ?_
      refine AllReadyH.cons rfl (fun KK hKK => ?_) AllReadyH.nil
      go_simp
      refine (F1.out _).mono ?_
      rintro e w11 ⟨gx1, Ax1, nx1, kx1, Bx1, mx1, dx1, rfl, hx1, hb1⟩
      go_wp2_with fail
      refine hKK.out _ _ (⟨hHeld.1.keep hb1, hHeld.2.1.keep hb1, hHeld.2.2.1.keep hb1, hHeld.2.2.2.trans (hb1.mono hHeld.2.2.2.size)⟩) (fun _ => ?_)
      clear hKK KK hHeld; rename_i hHeld
      try simp only [Act.put, List.getElem_toArray, List.getElem_cons_succ, List.getElem_cons_zero, List.setIfInBounds_toArray, List.set_cons_zero, List.set_cons_succ]
      have BL := BL.keep hb1
      clear hb1
      refine wpAnyH_ready (rs := [5]) (by kernel_rfl) (by simp) ?_
      refine AllReadyH.cons rfl (fun KK hKK => ?_) AllReadyH.nil
      go_simp
      refine (F2.out _).mono ?_
      rintro e w12 ⟨gx2, Ax2, nx2, kx2, Bx2, mx2, dx2, rfl, hx2, hb2⟩
      go_wp2_with fail
      refine hKK.out _ _ (⟨hHeld.1.keep hb2, hHeld.2.1.keep hb2, hHeld.2.2.1.keep hb2, hHeld.2.2.2.trans (hb2.mono hHeld.2.2.2.size)⟩) (fun _ => ?_)
      clear hKK KK hHeld; rename_i hHeld
      try simp only [Act.put, List.getElem_toArray, List.getElem_cons_succ, List.getElem_cons_zero, List.setIfInBounds_toArray, List.set_cons_zero, List.set_cons_succ]
      have hx1 := hx1.below hb2
      have BL := BL.keep hb2
      clear hb2
      refine wpAnyH_ready (rs := [6]) (by kernel_rfl) (by simp) ?_
      refine AllReadyH.cons rfl (fun KK hKK => ?_) AllReadyH.nil
      go_simp
      refine (RS1.out _ _ _ _ _ _ _ _ _ _ _ _ _ _ _ hx1 hx2).mono ?_
      rintro e w13 ⟨gx3, Ax3, nx3, kx3, Bx3, mx3, dx3, rfl, hx3, hb3⟩
      go_wp2_with fail
      refine hKK.out _ _ (⟨hHeld.1.keep hb3, hHeld.2.1.keep hb3, hHeld.2.2.1.keep hb3, hHeld.2.2.2.trans (hb3.mono hHeld.2.2.2.size)⟩) (fun _ => ?_)
      clear hKK KK hHeld; rename_i hHeld
      try simp only [Act.put, List.getElem_toArray, List.getElem_cons_succ, List.getElem_cons_zero, List.setIfInBounds_toArray, List.set_cons_zero, List.set_cons_succ]
      have hx1 := hx1.below hb3
      have hx2 := hx2.below hb3
      have BL := BL.keep hb3
      clear hb3
      refine wpAnyH_ready (rs := [8]) (by kernel_rfl) (by simp) ?_
      refine AllReadyH.cons rfl (fun KK hKK => ?_) AllReadyH.nil
      have qz0 := BL.cell 0
      have fz0 := BL.frozen 0
      have qz1 := BL.cell 1
      have fz1 := BL.frozen 1
      have qz2 := BL.cell 2
      have fz2 := BL.frozen 2
      simp at qz0 qz1 qz2
      go_simp
      refine hKK.out _ _ ⟨hHeld.1.other (by omega) 0 [.bool gx3, .slice Ax3 nx3 kx3, .slice Bx3 mx3 dx3], hHeld.2.1.other (by omega) 0 [.bool gx3, .slice Ax3 nx3 kx3, .slice Bx3 mx3 dx3], hHeld.2.2.1.other (by omega) 0 [.bool gx3, .slice Ax3 nx3 kx3, .slice Bx3 mx3 dx3], below_sets (by omega) [.bool gx3, .slice Ax3 nx3 kx3, .slice Bx3 mx3 dx3] 0 _ hHeld.2.2.2⟩ (fun _ => ?_)
      clear hKK KK
      rename_i hNew
      try simp only [Act.put, List.getElem_toArray, List.getElem_cons_succ, List.getElem_cons_zero, List.setIfInBounds_toArray, List.set_cons_zero, List.set_cons_succ]
      refine wpAnyH_done (by kernel_rfl) ?_ _
      go_wp2_with fail
      go_meet
      have HBL := HasBlk.of (n := 3) BL rfl rfl
      exact ⟨gl, _, _, _, _, _, _, _, rfl, hlr, by have hbs := Blk.sets [.bool gx3, .slice Ax3 nx3 kx3, .slice Bx3 mx3 dx3] 0 _ _ BL; simpa [laid, sets] using hbs, HBL.rat hx3 [.bool gx3, .slice Ax3 nx3 kx3, .slice Bx3 mx3 dx3], hNew⟩
  case rest =>
  obtain ⟨gla, gga, AAa, nna, kka, BBa, mma, dda, rfl, hga, bla, rta, hHeld⟩ := hcut
  have LG0_8 := Lib.hid hHeld.1
  have LG1_8 := Lib.hid hHeld.2.1
  have LR8 := Lib.hid hHeld.2.2.1
  have LB8 := Lib.hid hHeld.2.2.2
  have LG2_8 := Lib.hid bla
  have RTA := Lib.hid rta
  clear hHeld bla rta LB7 LR7 LG0_7 LG1_7 F1 F2 RS1
  go_wp2_with fail
  go_cut [8] from 42 to 48 (fun s8 wx => ∃ (gl : Nat) (gg : Bool) (AA : Option Addr) (nn kk : Nat) (BB : Option Addr) (mm dd : Nat), s8 = .pointer (some ⟨gl, 0, none⟩) ∧ (w.heap.size + 2) < gl ∧ Blk wx gl 60 #[.bool gg, .slice AA nn kk, .slice BB mm dd] ∧ RatV wx 69 gg (.slice AA nn kk) (.slice BB mm dd) hi ∧ RatV wx 69 gga (.slice AAa nna kka) (.slice BBa mma dda) lo ∧ Blk wx w1.heap.size 24 #[.int .u64 (P1 : Int), .int .u64 (Q1 : Int)] ∧ Blk wx w2.heap.size 24 #[.int .u64 (P2 : Int), .int .u64 (Q2 : Int)] ∧ Blk wx gla 60 #[.bool gga, .slice AAa nna kka, .slice BBa mma dda] ∧ HasBlk wx (w.heap.size + 2) 24 2 ∧ Below w.heap.size w wx)
  case first =>
    refine wp_region_held_drew (S := fun W' => Blk W' w1.heap.size 24 #[.int .u64 (P1 : Int), .int .u64 (Q1 : Int)] ∧ Blk W' w2.heap.size 24 #[.int .u64 (P2 : Int), .int .u64 (Q2 : Int)] ∧ Blk W' gla 60 #[.bool gga, .slice AAa nna kka, .slice BBa mma dda] ∧ HasBlk W' (w.heap.size + 2) 24 2 ∧ Below w.heap.size w W') (by kernel_rfl) (by exact ⟨LG0_8.out.drew, LG1_8.out.drew, LG2_8.out.drew, LR8.out.drew, LB8.out.drew⟩) (fun hHeld => ?_)
    have hc0 := RTA.out.below (Below.refl _ _).drew
    clear LG0_8 LG1_8 LG2_8 LR8 LB8 RTA
    obtain ⟨WD, hWD⟩ : ∃ X, wc.drew = X := ⟨_, rfl⟩
    rw [hWD] at hHeld hc0 ⊢
    clear hWD
    refine wpAnyH_take (i := 0) (v := ?_) rfl (by kernel_rfl) (by kernel_rfl) (by kernel_rfl) (fun _ _ _ h => h) (Or.inl ⟨by rfl, ?_⟩) (by assumption) ?_
    rotate_left
    · (intro W2 hSw; go_simp; (try with_reducible rfl))
    try simp only [Act.put, List.getElem_toArray, List.getElem_cons_succ, List.getElem_cons_zero, List.setIfInBounds_toArray, List.set_cons_zero, List.set_cons_succ]
    refine wpAnyH_take (i := 1) (v := ?_) rfl (by kernel_rfl) (by kernel_rfl) (by kernel_rfl) (fun _ _ _ h => h) (Or.inl ⟨by rfl, ?_⟩) (by assumption) ?_
    rotate_left
    · (intro W2 hSw; (try dsimp only at hSw); have q0 : _ = some (.int .u64 (P1 : Int) : Value) := hSw.1.cell 0; have q1 : _ = some (.int .u64 (Q1 : Int) : Value) := hSw.1.cell 1; go_simp; (try with_reducible rfl))
    try simp only [Act.put, List.getElem_toArray, List.getElem_cons_succ, List.getElem_cons_zero, List.setIfInBounds_toArray, List.set_cons_zero, List.set_cons_succ]
    refine wpAnyH_take (i := 3) (v := ?_) rfl (by kernel_rfl) (by kernel_rfl) (by kernel_rfl) (fun _ _ _ h => h) (Or.inl ⟨by rfl, ?_⟩) (by assumption) ?_
    rotate_left
    · (intro W2 hSw; go_simp; (try with_reducible rfl))
    try simp only [Act.put, List.getElem_toArray, List.getElem_cons_succ, List.getElem_cons_zero, List.setIfInBounds_toArray, List.set_cons_zero, List.set_cons_succ]
    refine wpAnyH_take (i := 4) (v := ?_) rfl (by kernel_rfl) (by kernel_rfl) (by kernel_rfl) (fun _ _ _ h => h) (Or.inl ⟨by rfl, ?_⟩) (by assumption) ?_
    rotate_left
    · (intro W2 hSw; (try dsimp only at hSw); have q0 : _ = some (.int .u64 (P2 : Int) : Value) := hSw.2.1.cell 0; have q1 : _ = some (.int .u64 (Q2 : Int) : Value) := hSw.2.1.cell 1; go_simp; (try with_reducible rfl))
    try simp only [Act.put, List.getElem_toArray, List.getElem_cons_succ, List.getElem_cons_zero, List.setIfInBounds_toArray, List.set_cons_zero, List.set_cons_succ]
    refine wpAnyH_ready (rs := [2, 7]) (by kernel_rfl) (by simp) ?_
    refine AllReadyH.cons rfl (fun KK hKK => ?_) (AllReadyH.cons rfl (fun KK hKK => ?_) AllReadyH.nil)
    · skip
      go_simp
      refine (F3.out _).mono ?_
      rintro e w11 ⟨gx1, Ax1, nx1, kx1, Bx1, mx1, dx1, rfl, hx1, hb1⟩
      go_wp2_with fail
      refine hKK.out _ _ (⟨hHeld.1.keep hb1, hHeld.2.1.keep hb1, hHeld.2.2.1.keep hb1, hHeld.2.2.2.1.keep hb1, hHeld.2.2.2.2.trans (hb1.mono hHeld.2.2.2.2.size)⟩) (fun _ => ?_)
      clear hKK KK hHeld; rename_i hHeld
      try simp only [Act.put, List.getElem_toArray, List.getElem_cons_succ, List.getElem_cons_zero, List.setIfInBounds_toArray, List.set_cons_zero, List.set_cons_succ]
      have hc0 := hc0.below hb1
      clear hb1
      refine wpAnyH_ready (rs := [5, 7]) (by kernel_rfl) (by simp) ?_
      refine AllReadyH.cons rfl (fun KK hKK => ?_) (AllReadyH.cons rfl (fun KK hKK => ?_) AllReadyH.nil)
      · skip
        go_simp
        refine (F4.out _).mono ?_
        rintro e w12 ⟨gx2, Ax2, nx2, kx2, Bx2, mx2, dx2, rfl, hx2, hb2⟩
        go_wp2_with fail
        refine hKK.out _ _ (⟨hHeld.1.keep hb2, hHeld.2.1.keep hb2, hHeld.2.2.1.keep hb2, hHeld.2.2.2.1.keep hb2, hHeld.2.2.2.2.trans (hb2.mono hHeld.2.2.2.2.size)⟩) (fun _ => ?_)
        clear hKK KK hHeld; rename_i hHeld
        try simp only [Act.put, List.getElem_toArray, List.getElem_cons_succ, List.getElem_cons_zero, List.setIfInBounds_toArray, List.set_cons_zero, List.set_cons_succ]
        have hx1 := hx1.below hb2
        have hc0 := hc0.below hb2
        clear hb2
        refine wpAnyH_ready (rs := [6, 7]) (by kernel_rfl) (by simp) ?_
        refine AllReadyH.cons rfl (fun KK hKK => ?_) (AllReadyH.cons rfl (fun KK hKK => ?_) AllReadyH.nil)
        · skip
          go_simp
          refine (RS2.out _ _ _ _ _ _ _ _ _ _ _ _ _ _ _ hx1 hx2).mono ?_
          rintro e w13 ⟨gx3, Ax3, nx3, kx3, Bx3, mx3, dx3, rfl, hx3, hb3⟩
          go_wp2_with fail
          refine hKK.out _ _ (⟨hHeld.1.keep hb3, hHeld.2.1.keep hb3, hHeld.2.2.1.keep hb3, hHeld.2.2.2.1.keep hb3, hHeld.2.2.2.2.trans (hb3.mono hHeld.2.2.2.2.size)⟩) (fun _ => ?_)
          clear hKK KK hHeld; rename_i hHeld
          try simp only [Act.put, List.getElem_toArray, List.getElem_cons_succ, List.getElem_cons_zero, List.setIfInBounds_toArray, List.set_cons_zero, List.set_cons_succ]
          have hx1 := hx1.below hb3
          have hx2 := hx2.below hb3
          have hc0 := hc0.below hb3
          clear hb3
          refine wpAnyH_ready (rs := [7]) (by kernel_rfl) (by simp) ?_
          refine AllReadyH.cons rfl (fun KK hKK => ?_) AllReadyH.nil
          have H0 := hHeld
          go_simp
          refine hKK.out _ _ ⟨H0.1.alloc _, H0.2.1.alloc _, H0.2.2.1.alloc _, H0.2.2.2.1.alloc _, H0.2.2.2.2.alloc H0.2.2.2.2.size _⟩ (fun _ => ?_)
          clear hKK KK hHeld; rename_i hHeld
          try simp only [Act.put, List.getElem_toArray, List.getElem_cons_succ, List.getElem_cons_zero, List.setIfInBounds_toArray, List.set_cons_zero, List.set_cons_succ]
          have hl0 := H0.1.lt
          have hl1 := H0.2.1.lt
          have hl2 := H0.2.2.1.lt
          have hlr := H0.2.2.2.1.lt
          have hlb := H0.2.2.2.2.size
          clear H0
          have BL := Blk.new (w13) 60 #[.bool false, .slice none 0 0, .slice none 0 0]
          have hx1 := hx1.below (below_alloc _ (.cells #[.bool false, .slice none 0 0, .slice none 0 0] 60))
          have hx2 := hx2.below (below_alloc _ (.cells #[.bool false, .slice none 0 0, .slice none 0 0] 60))
          have hx3 := hx3.below (below_alloc _ (.cells #[.bool false, .slice none 0 0, .slice none 0 0] 60))
          have hc0 := hc0.below (below_alloc _ (.cells #[.bool false, .slice none 0 0, .slice none 0 0] 60))
          obtain ⟨gl, hgl⟩ : ∃ g, (w13).heap.size = g := ⟨_, rfl⟩
          obtain ⟨WA, hWA⟩ : ∃ X, (w13).alloc (.cells #[.bool false, .slice none 0 0, .slice none 0 0] 60) = X := ⟨_, rfl⟩
          rw [hWA] at BL hHeld hx1 hx2 hx3 hc0 ⊢
          rw [hgl] at BL hl0 hl1 hl2 hlr hlb ⊢
          clear hgl hWA
          refine wpAnyH_ready (rs := [8]) (by kernel_rfl) (by simp) ?_
          refine AllReadyH.cons rfl (fun KK hKK => ?_) AllReadyH.nil
          have qz0 := BL.cell 0
          have fz0 := BL.frozen 0
          have qz1 := BL.cell 1
          have fz1 := BL.frozen 1
          have qz2 := BL.cell 2
          have fz2 := BL.frozen 2
          simp at qz0 qz1 qz2
          go_simp
          refine hKK.out _ _ ⟨hHeld.1.other (by omega) 0 [.bool gx3, .slice Ax3 nx3 kx3, .slice Bx3 mx3 dx3], hHeld.2.1.other (by omega) 0 [.bool gx3, .slice Ax3 nx3 kx3, .slice Bx3 mx3 dx3], hHeld.2.2.1.other (by omega) 0 [.bool gx3, .slice Ax3 nx3 kx3, .slice Bx3 mx3 dx3], hHeld.2.2.2.1.other (by omega) 0 [.bool gx3, .slice Ax3 nx3 kx3, .slice Bx3 mx3 dx3], below_sets (by omega) [.bool gx3, .slice Ax3 nx3 kx3, .slice Bx3 mx3 dx3] 0 _ hHeld.2.2.2.2⟩ (fun _ => ?_)
          clear hKK KK
          rename_i hNew
          try simp only [Act.put, List.getElem_toArray, List.getElem_cons_succ, List.getElem_cons_zero, List.setIfInBounds_toArray, List.set_cons_zero, List.set_cons_succ]
          refine wpAnyH_done (by kernel_rfl) ?_ _
          go_wp2_with fail
          go_meet
          have HBL := HasBlk.of (n := 3) BL rfl rfl
          exact ⟨gl, _, _, _, _, _, _, _, rfl, hlr, by have hbs := Blk.sets [.bool gx3, .slice Ax3 nx3 kx3, .slice Bx3 mx3 dx3] 0 _ _ BL; simpa [laid, sets] using hbs, HBL.rat hx3 [.bool gx3, .slice Ax3 nx3 kx3, .slice Bx3 mx3 dx3], HBL.rat hc0 [.bool gx3, .slice Ax3 nx3 kx3, .slice Bx3 mx3 dx3], hNew⟩
        · skip
          have H0 := hHeld
          go_simp
          refine hKK.out _ _ ⟨H0.1.alloc _, H0.2.1.alloc _, H0.2.2.1.alloc _, H0.2.2.2.1.alloc _, H0.2.2.2.2.alloc H0.2.2.2.2.size _⟩ (fun _ => ?_)
          clear hKK KK hHeld; rename_i hHeld
          try simp only [Act.put, List.getElem_toArray, List.getElem_cons_succ, List.getElem_cons_zero, List.setIfInBounds_toArray, List.set_cons_zero, List.set_cons_succ]
          have hl0 := H0.1.lt
          have hl1 := H0.2.1.lt
          have hl2 := H0.2.2.1.lt
          have hlr := H0.2.2.2.1.lt
          have hlb := H0.2.2.2.2.size
          clear H0
          have BL := Blk.new (w12) 60 #[.bool false, .slice none 0 0, .slice none 0 0]
          have hx1 := hx1.below (below_alloc _ (.cells #[.bool false, .slice none 0 0, .slice none 0 0] 60))
          have hx2 := hx2.below (below_alloc _ (.cells #[.bool false, .slice none 0 0, .slice none 0 0] 60))
          have hc0 := hc0.below (below_alloc _ (.cells #[.bool false, .slice none 0 0, .slice none 0 0] 60))
          obtain ⟨gl, hgl⟩ : ∃ g, (w12).heap.size = g := ⟨_, rfl⟩
          obtain ⟨WA, hWA⟩ : ∃ X, (w12).alloc (.cells #[.bool false, .slice none 0 0, .slice none 0 0] 60) = X := ⟨_, rfl⟩
          rw [hWA] at BL hHeld hx1 hx2 hc0 ⊢
          rw [hgl] at BL hl0 hl1 hl2 hlr hlb ⊢
          clear hgl hWA
          refine wpAnyH_ready (rs := [6]) (by kernel_rfl) (by simp) ?_
          refine AllReadyH.cons rfl (fun KK hKK => ?_) AllReadyH.nil
          go_simp
          refine (RS2.out _ _ _ _ _ _ _ _ _ _ _ _ _ _ _ hx1 hx2).mono ?_
          rintro e w13 ⟨gx3, Ax3, nx3, kx3, Bx3, mx3, dx3, rfl, hx3, hb3⟩
          go_wp2_with fail
          refine hKK.out _ _ (⟨hHeld.1.keep hb3, hHeld.2.1.keep hb3, hHeld.2.2.1.keep hb3, hHeld.2.2.2.1.keep hb3, hHeld.2.2.2.2.trans (hb3.mono hHeld.2.2.2.2.size)⟩) (fun _ => ?_)
          clear hKK KK hHeld; rename_i hHeld
          try simp only [Act.put, List.getElem_toArray, List.getElem_cons_succ, List.getElem_cons_zero, List.setIfInBounds_toArray, List.set_cons_zero, List.set_cons_succ]
          have hx1 := hx1.below hb3
          have hx2 := hx2.below hb3
          have hc0 := hc0.below hb3
          have BL := BL.keep hb3
          clear hb3
          refine wpAnyH_ready (rs := [8]) (by kernel_rfl) (by simp) ?_
          refine AllReadyH.cons rfl (fun KK hKK => ?_) AllReadyH.nil
          have qz0 := BL.cell 0
          have fz0 := BL.frozen 0
          have qz1 := BL.cell 1
          have fz1 := BL.frozen 1
          have qz2 := BL.cell 2
          have fz2 := BL.frozen 2
          simp at qz0 qz1 qz2
          go_simp
          refine hKK.out _ _ ⟨hHeld.1.other (by omega) 0 [.bool gx3, .slice Ax3 nx3 kx3, .slice Bx3 mx3 dx3], hHeld.2.1.other (by omega) 0 [.bool gx3, .slice Ax3 nx3 kx3, .slice Bx3 mx3 dx3], hHeld.2.2.1.other (by omega) 0 [.bool gx3, .slice Ax3 nx3 kx3, .slice Bx3 mx3 dx3], hHeld.2.2.2.1.other (by omega) 0 [.bool gx3, .slice Ax3 nx3 kx3, .slice Bx3 mx3 dx3], below_sets (by omega) [.bool gx3, .slice Ax3 nx3 kx3, .slice Bx3 mx3 dx3] 0 _ hHeld.2.2.2.2⟩ (fun _ => ?_)
          clear hKK KK
          rename_i hNew
          try simp only [Act.put, List.getElem_toArray, List.getElem_cons_succ, List.getElem_cons_zero, List.setIfInBounds_toArray, List.set_cons_zero, List.set_cons_succ]
          refine wpAnyH_done (by kernel_rfl) ?_ _
          go_wp2_with fail
          go_meet
          have HBL := HasBlk.of (n := 3) BL rfl rfl
          exact ⟨gl, _, _, _, _, _, _, _, rfl, hlr, by have hbs := Blk.sets [.bool gx3, .slice Ax3 nx3 kx3, .slice Bx3 mx3 dx3] 0 _ _ BL; simpa [laid, sets] using hbs, HBL.rat hx3 [.bool gx3, .slice Ax3 nx3 kx3, .slice Bx3 mx3 dx3], HBL.rat hc0 [.bool gx3, .slice Ax3 nx3 kx3, .slice Bx3 mx3 dx3], hNew⟩
      · skip
        have H0 := hHeld
        go_simp
        refine hKK.out _ _ ⟨H0.1.alloc _, H0.2.1.alloc _, H0.2.2.1.alloc _, H0.2.2.2.1.alloc _, H0.2.2.2.2.alloc H0.2.2.2.2.size _⟩ (fun _ => ?_)
        clear hKK KK hHeld; rename_i hHeld
        try simp only [Act.put, List.getElem_toArray, List.getElem_cons_succ, List.getElem_cons_zero, List.setIfInBounds_toArray, List.set_cons_zero, List.set_cons_succ]
        have hl0 := H0.1.lt
        have hl1 := H0.2.1.lt
        have hl2 := H0.2.2.1.lt
        have hlr := H0.2.2.2.1.lt
        have hlb := H0.2.2.2.2.size
        clear H0
        have BL := Blk.new (w11) 60 #[.bool false, .slice none 0 0, .slice none 0 0]
        have hx1 := hx1.below (below_alloc _ (.cells #[.bool false, .slice none 0 0, .slice none 0 0] 60))
        have hc0 := hc0.below (below_alloc _ (.cells #[.bool false, .slice none 0 0, .slice none 0 0] 60))
        obtain ⟨gl, hgl⟩ : ∃ g, (w11).heap.size = g := ⟨_, rfl⟩
        obtain ⟨WA, hWA⟩ : ∃ X, (w11).alloc (.cells #[.bool false, .slice none 0 0, .slice none 0 0] 60) = X := ⟨_, rfl⟩
        rw [hWA] at BL hHeld hx1 hc0 ⊢
        rw [hgl] at BL hl0 hl1 hl2 hlr hlb ⊢
        clear hgl hWA
        refine wpAnyH_ready (rs := [5]) (by kernel_rfl) (by simp) ?_
        refine AllReadyH.cons rfl (fun KK hKK => ?_) AllReadyH.nil
        go_simp
        refine (F4.out _).mono ?_
        rintro e w12 ⟨gx2, Ax2, nx2, kx2, Bx2, mx2, dx2, rfl, hx2, hb2⟩
        go_wp2_with fail
        refine hKK.out _ _ (⟨hHeld.1.keep hb2, hHeld.2.1.keep hb2, hHeld.2.2.1.keep hb2, hHeld.2.2.2.1.keep hb2, hHeld.2.2.2.2.trans (hb2.mono hHeld.2.2.2.2.size)⟩) (fun _ => ?_)
        clear hKK KK hHeld; rename_i hHeld
        try simp only [Act.put, List.getElem_toArray, List.getElem_cons_succ, List.getElem_cons_zero, List.setIfInBounds_toArray, List.set_cons_zero, List.set_cons_succ]
        have hx1 := hx1.below hb2
        have hc0 := hc0.below hb2
        have BL := BL.keep hb2
        clear hb2
        refine wpAnyH_ready (rs := [6]) (by kernel_rfl) (by simp) ?_
        refine AllReadyH.cons rfl (fun KK hKK => ?_) AllReadyH.nil
        go_simp
        refine (RS2.out _ _ _ _ _ _ _ _ _ _ _ _ _ _ _ hx1 hx2).mono ?_
        rintro e w13 ⟨gx3, Ax3, nx3, kx3, Bx3, mx3, dx3, rfl, hx3, hb3⟩
        go_wp2_with fail
        refine hKK.out _ _ (⟨hHeld.1.keep hb3, hHeld.2.1.keep hb3, hHeld.2.2.1.keep hb3, hHeld.2.2.2.1.keep hb3, hHeld.2.2.2.2.trans (hb3.mono hHeld.2.2.2.2.size)⟩) (fun _ => ?_)
        clear hKK KK hHeld; rename_i hHeld
        try simp only [Act.put, List.getElem_toArray, List.getElem_cons_succ, List.getElem_cons_zero, List.setIfInBounds_toArray, List.set_cons_zero, List.set_cons_succ]
        have hx1 := hx1.below hb3
        have hx2 := hx2.below hb3
        have hc0 := hc0.below hb3
        have BL := BL.keep hb3
        clear hb3
        refine wpAnyH_ready (rs := [8]) (by kernel_rfl) (by simp) ?_
        refine AllReadyH.cons rfl (fun KK hKK => ?_) AllReadyH.nil
        have qz0 := BL.cell 0
        have fz0 := BL.frozen 0
        have qz1 := BL.cell 1
        have fz1 := BL.frozen 1
        have qz2 := BL.cell 2
        have fz2 := BL.frozen 2
        simp at qz0 qz1 qz2
        go_simp
        refine hKK.out _ _ ⟨hHeld.1.other (by omega) 0 [.bool gx3, .slice Ax3 nx3 kx3, .slice Bx3 mx3 dx3], hHeld.2.1.other (by omega) 0 [.bool gx3, .slice Ax3 nx3 kx3, .slice Bx3 mx3 dx3], hHeld.2.2.1.other (by omega) 0 [.bool gx3, .slice Ax3 nx3 kx3, .slice Bx3 mx3 dx3], hHeld.2.2.2.1.other (by omega) 0 [.bool gx3, .slice Ax3 nx3 kx3, .slice Bx3 mx3 dx3], below_sets (by omega) [.bool gx3, .slice Ax3 nx3 kx3, .slice Bx3 mx3 dx3] 0 _ hHeld.2.2.2.2⟩ (fun _ => ?_)
        clear hKK KK
        rename_i hNew
        try simp only [Act.put, List.getElem_toArray, List.getElem_cons_succ, List.getElem_cons_zero, List.setIfInBounds_toArray, List.set_cons_zero, List.set_cons_succ]
        refine wpAnyH_done (by kernel_rfl) ?_ _
        go_wp2_with fail
        go_meet
        have HBL := HasBlk.of (n := 3) BL rfl rfl
        exact ⟨gl, _, _, _, _, _, _, _, rfl, hlr, by have hbs := Blk.sets [.bool gx3, .slice Ax3 nx3 kx3, .slice Bx3 mx3 dx3] 0 _ _ BL; simpa [laid, sets] using hbs, HBL.rat hx3 [.bool gx3, .slice Ax3 nx3 kx3, .slice Bx3 mx3 dx3], HBL.rat hc0 [.bool gx3, .slice Ax3 nx3 kx3, .slice Bx3 mx3 dx3], hNew⟩
    · skip
      have H0 := hHeld
      go_simp
      refine hKK.out _ _ ⟨H0.1.alloc _, H0.2.1.alloc _, H0.2.2.1.alloc _, H0.2.2.2.1.alloc _, H0.2.2.2.2.alloc H0.2.2.2.2.size _⟩ (fun _ => ?_)
      clear hKK KK hHeld; rename_i hHeld
      try simp only [Act.put, List.getElem_toArray, List.getElem_cons_succ, List.getElem_cons_zero, List.setIfInBounds_toArray, List.set_cons_zero, List.set_cons_succ]
      have hl0 := H0.1.lt
      have hl1 := H0.2.1.lt
      have hl2 := H0.2.2.1.lt
      have hlr := H0.2.2.2.1.lt
      have hlb := H0.2.2.2.2.size
      clear H0
      have BL := Blk.new (WD) 60 #[.bool false, .slice none 0 0, .slice none 0 0]
      have hc0 := hc0.below (below_alloc _ (.cells #[.bool false, .slice none 0 0, .slice none 0 0] 60))
      obtain ⟨gl, hgl⟩ : ∃ g, (WD).heap.size = g := ⟨_, rfl⟩
      obtain ⟨WA, hWA⟩ : ∃ X, (WD).alloc (.cells #[.bool false, .slice none 0 0, .slice none 0 0] 60) = X := ⟨_, rfl⟩
      rw [hWA] at BL hHeld hc0 ⊢
      rw [hgl] at BL hl0 hl1 hl2 hlr hlb ⊢
      clear hgl hWA
      refine wpAnyH_ready (rs := [2]) (by kernel_rfl) (by simp) ?_
      refine AllReadyH.cons rfl (fun KK hKK => ?_) AllReadyH.nil
      go_simp
      refine (F3.out _).mono ?_
      rintro e w11 ⟨gx1, Ax1, nx1, kx1, Bx1, mx1, dx1, rfl, hx1, hb1⟩
      go_wp2_with fail
      refine hKK.out _ _ (⟨hHeld.1.keep hb1, hHeld.2.1.keep hb1, hHeld.2.2.1.keep hb1, hHeld.2.2.2.1.keep hb1, hHeld.2.2.2.2.trans (hb1.mono hHeld.2.2.2.2.size)⟩) (fun _ => ?_)
      clear hKK KK hHeld; rename_i hHeld
      try simp only [Act.put, List.getElem_toArray, List.getElem_cons_succ, List.getElem_cons_zero, List.setIfInBounds_toArray, List.set_cons_zero, List.set_cons_succ]
      have hc0 := hc0.below hb1
      have BL := BL.keep hb1
      clear hb1
      refine wpAnyH_ready (rs := [5]) (by kernel_rfl) (by simp) ?_
      refine AllReadyH.cons rfl (fun KK hKK => ?_) AllReadyH.nil
      go_simp
      refine (F4.out _).mono ?_
      rintro e w12 ⟨gx2, Ax2, nx2, kx2, Bx2, mx2, dx2, rfl, hx2, hb2⟩
      go_wp2_with fail
      refine hKK.out _ _ (⟨hHeld.1.keep hb2, hHeld.2.1.keep hb2, hHeld.2.2.1.keep hb2, hHeld.2.2.2.1.keep hb2, hHeld.2.2.2.2.trans (hb2.mono hHeld.2.2.2.2.size)⟩) (fun _ => ?_)
      clear hKK KK hHeld; rename_i hHeld
      try simp only [Act.put, List.getElem_toArray, List.getElem_cons_succ, List.getElem_cons_zero, List.setIfInBounds_toArray, List.set_cons_zero, List.set_cons_succ]
      have hx1 := hx1.below hb2
      have hc0 := hc0.below hb2
      have BL := BL.keep hb2
      clear hb2
      refine wpAnyH_ready (rs := [6]) (by kernel_rfl) (by simp) ?_
      refine AllReadyH.cons rfl (fun KK hKK => ?_) AllReadyH.nil
      go_simp
      refine (RS2.out _ _ _ _ _ _ _ _ _ _ _ _ _ _ _ hx1 hx2).mono ?_
      rintro e w13 ⟨gx3, Ax3, nx3, kx3, Bx3, mx3, dx3, rfl, hx3, hb3⟩
      go_wp2_with fail
      refine hKK.out _ _ (⟨hHeld.1.keep hb3, hHeld.2.1.keep hb3, hHeld.2.2.1.keep hb3, hHeld.2.2.2.1.keep hb3, hHeld.2.2.2.2.trans (hb3.mono hHeld.2.2.2.2.size)⟩) (fun _ => ?_)
      clear hKK KK hHeld; rename_i hHeld
      try simp only [Act.put, List.getElem_toArray, List.getElem_cons_succ, List.getElem_cons_zero, List.setIfInBounds_toArray, List.set_cons_zero, List.set_cons_succ]
      have hx1 := hx1.below hb3
      have hx2 := hx2.below hb3
      have hc0 := hc0.below hb3
      have BL := BL.keep hb3
      clear hb3
      refine wpAnyH_ready (rs := [8]) (by kernel_rfl) (by simp) ?_
      refine AllReadyH.cons rfl (fun KK hKK => ?_) AllReadyH.nil
      have qz0 := BL.cell 0
      have fz0 := BL.frozen 0
      have qz1 := BL.cell 1
      have fz1 := BL.frozen 1
      have qz2 := BL.cell 2
      have fz2 := BL.frozen 2
      simp at qz0 qz1 qz2
      go_simp
      refine hKK.out _ _ ⟨hHeld.1.other (by omega) 0 [.bool gx3, .slice Ax3 nx3 kx3, .slice Bx3 mx3 dx3], hHeld.2.1.other (by omega) 0 [.bool gx3, .slice Ax3 nx3 kx3, .slice Bx3 mx3 dx3], hHeld.2.2.1.other (by omega) 0 [.bool gx3, .slice Ax3 nx3 kx3, .slice Bx3 mx3 dx3], hHeld.2.2.2.1.other (by omega) 0 [.bool gx3, .slice Ax3 nx3 kx3, .slice Bx3 mx3 dx3], below_sets (by omega) [.bool gx3, .slice Ax3 nx3 kx3, .slice Bx3 mx3 dx3] 0 _ hHeld.2.2.2.2⟩ (fun _ => ?_)
      clear hKK KK
      rename_i hNew
      try simp only [Act.put, List.getElem_toArray, List.getElem_cons_succ, List.getElem_cons_zero, List.setIfInBounds_toArray, List.set_cons_zero, List.set_cons_succ]
      refine wpAnyH_done (by kernel_rfl) ?_ _
      go_wp2_with fail
      go_meet
      have HBL := HasBlk.of (n := 3) BL rfl rfl
      exact ⟨gl, _, _, _, _, _, _, _, rfl, hlr, by have hbs := Blk.sets [.bool gx3, .slice Ax3 nx3 kx3, .slice Bx3 mx3 dx3] 0 _ _ BL; simpa [laid, sets] using hbs, HBL.rat hx3 [.bool gx3, .slice Ax3 nx3 kx3, .slice Bx3 mx3 dx3], HBL.rat hc0 [.bool gx3, .slice Ax3 nx3 kx3, .slice Bx3 mx3 dx3], hNew⟩
  case rest =>
  obtain ⟨glb, ggb, AAb, nnb, kkb, BBb, mmb, ddb, rfl, hgb, blb, rtb, rc0b, hHeld⟩ := hcut
  have LG0_9 := Lib.hid hHeld.1
  have LG1_9 := Lib.hid hHeld.2.1
  have LG2_9 := Lib.hid hHeld.2.2.1
  have LR9 := Lib.hid hHeld.2.2.2.1
  have LB9 := Lib.hid hHeld.2.2.2.2
  have LG3_9 := Lib.hid blb
  have RTB := Lib.hid rtb
  have RTC := Lib.hid rc0b
  clear hHeld blb rtb rc0b RTA LB8 LR8 LG0_8 LG1_8 LG2_8 F3 F4 RS2
  have q2_0 : _ = some (.bool gga : Value) := LG2_9.out.cell 0
  have q2_1 : _ = some (.slice AAa nna kka : Value) := LG2_9.out.cell 1
  have q2_2 : _ = some (.slice BBa mma dda : Value) := LG2_9.out.cell 2
  have q3_0 : _ = some (.bool ggb : Value) := LG3_9.out.cell 0
  have q3_1 : _ = some (.slice AAb nnb kkb : Value) := LG3_9.out.cell 1
  have q3_2 : _ = some (.slice BBb mmb ddb : Value) := LG3_9.out.cell 2
  go_wp2_with fail
  refine (RC1.out _ _ _ _ _ _ _ _ _ _ _ _ _ _ _ RTB.out RTC.out).mono ?_
  rintro e w20 ⟨rfl, hb20⟩
  have LB10 := Lib.hid (LB9.out.trans (hb20.mono LB9.out.size))
  have LR10 := Lib.hid (LR9.out.keep hb20)
  have LG0_10 := Lib.hid (LG0_9.out.keep hb20)
  have LG1_10 := Lib.hid (LG1_9.out.keep hb20)
  have LG2_10 := Lib.hid (LG2_9.out.keep hb20)
  have LG3_10 := Lib.hid (LG3_9.out.keep hb20)
  clear LB9 LR9 LG0_9 LG1_9 LG2_9 LG3_9
  have RB := Lib.hid (RTB.out.below hb20)
  have RA := Lib.hid (RTC.out.below hb20)
  have hrr := HRR.out
  clear hb20 RTB RTC RC1 HRR q2_0 q2_1 q2_2 q3_0 q3_1 q3_2
  go_wp2_with fail
  refine (HN.out _).mono ?_
  rintro e w21 ⟨rfl, hb21⟩
  have LB11 := Lib.hid (LB10.out.trans (hb21.mono LB10.out.size))
  have LR11 := Lib.hid (LR10.out.keep hb21)
  have LG0_11 := Lib.hid (LG0_10.out.keep hb21)
  have LG1_11 := Lib.hid (LG1_10.out.keep hb21)
  have LG2_11 := Lib.hid (LG2_10.out.keep hb21)
  have LG3_11 := Lib.hid (LG3_10.out.keep hb21)
  clear LB10 LR10 LG0_10 LG1_10 LG2_10 LG3_10
  clear hb21 hrr
  have ha0 := LR11.out.someCell 0 (by decide)
  have hf0 := LR11.out.frozen 0
  have ha1 := LR11.out.someCell 1 (by decide)
  have hf1 := LR11.out.frozen 1
  have hk0 := LR11.out.setCell [.int .u64 18442240474082181120, .int .u64 9218868437227405312] rfl 0 (by decide)
  have hk1 := LR11.out.setCell [.int .u64 18442240474082181120, .int .u64 9218868437227405312] rfl 1 (by decide)
  have F := Lib.hid (below_sets (w0 := w) (r := (w.heap.size + 2)) (by omega) [.int .u64 18442240474082181120, .int .u64 9218868437227405312] 0 _ LB11.out)
  simp [sets] at hk0 hk1
  go_wp2
  refine bodyPost_ret (v := .agg #[.int .u64 18442240474082181120, .int .u64 9218868437227405312]) (by simp [results, Tryz.results20, go_sem, hk0, hk1]) rfl ?_
  exact ⟨rfl, F.out⟩

set_option maxHeartbeats 6400000 in
theorem cancel6_D (b1 b2 c1 c2 : Nat) (i1 j1 i2 j2 : Int) (w : World) (hb1 : b1 < 18446744073709551616) (hb2 : b2 < 18446744073709551616) (hc1 : c1 < 18446744073709551616) (hc2 : c2 < 18446744073709551616) (r1 : rd b1 b2 = (i1, j1)) (r2 : rd c1 c2 = (i2, j2)) (h1 : com i1 j1 = true) (h2 : com i2 j2 = true) (h3 : ¬ fl j1 - fl j2 < fl i1 - fl i2) :
    Calls Tryz.prog 20 #[.agg #[.int .u64 (b1 : Int), .int .u64 (b2 : Int)], .agg #[.int .u64 (c1 : Int), .int .u64 (c2 : Int)]] w fun e w' => e = .returned (.agg #[.int .u64 (pat ((rndI (-1) (fl i1 - fl i2), rndI 1 (fl j1 - fl j2))).1 : Int), .int .u64 (pat ((rndI (-1) (fl i1 - fl i2), rndI 1 (fl j1 - fl j2))).2 : Int)]) ∧ Below w.heap.size w w' := by
  have v1 := rd_iv b1 b2
  have v2 := rd_iv c1 c2
  rw [r1] at v1
  rw [r2] at v2
  dsimp only at v1 v2
  have hM : M = 9218868437227405312 := rfl
  have t1 := fun W => read6 b1 b2 W hb1 hb2
  have t2 := fun W => read6 c1 c2 W hc1 hc2
  rw [r1] at t1
  rw [r2] at t2
  dsimp only at t1 t2
  have K1 := fun W => numbers_any i1 j1 W v1
  have K2 := fun W => numbers_any i2 j2 W v2
  have HE := Lib.hid empty6
  have HN := Lib.hid entire6
  have h4 := of_decide_eq_true h1
  rw [h1] at K1
  have hp1 := pat_ne_max v1.lo.1 (by omega)
  rw [h2] at K2
  have h5 := of_decide_eq_true h2
  have F1 := Lib.hid fun W => from_v i1 W (by omega) (by omega)
  have F2 := Lib.hid fun W => from_v i2 W (by omega) (by omega)
  have F3 := Lib.hid fun W => from_v j1 W (by omega) (by omega)
  have F4 := Lib.hid fun W => from_v j2 W (by omega) (by omega)
  obtain ⟨y1, ey1⟩ : ∃ x, fl i1 = x := ⟨_, rfl⟩
  obtain ⟨y2, ey2⟩ : ∃ x, fl i2 = x := ⟨_, rfl⟩
  obtain ⟨y3, ey3⟩ : ∃ x, fl j1 = x := ⟨_, rfl⟩
  obtain ⟨y4, ey4⟩ : ∃ x, fl j2 = x := ⟨_, rfl⟩
  rw [ey1] at F1
  rw [ey2] at F2
  rw [ey3] at F3
  rw [ey4] at F4
  rw [ey1, ey2, ey3, ey4] at h3
  have hrc : 0 ≤ rc (y3 - y4) (y1 - y2) := rc_nonneg h3
  have RS := Lib.hid fun W (g1 : Bool) (A1 : Option Addr) (n1 k1 : Nat) (B1 : Option Addr) (m1 d1 : Nat) (x1 : Rat) (g2 : Bool) (A2 : Option Addr) (n2 k2 : Nat) (B2 : Option Addr) (m2 d2 : Nat) (x2 : Rat) (h1 : RatV W 34 g1 (.slice A1 n1 k1) (.slice B1 m1 d1) x1) (h2 : RatV W 34 g2 (.slice A2 n2 k2) (.slice B2 m2 d2) x2) => rsub_v 34 g1 A1 n1 k1 B1 m1 d1 x1 g2 A2 n2 k2 B2 m2 d2 x2 W h1 h2 (by omega)
  have RC := Lib.hid fun W (g1 : Bool) (A1 : Option Addr) (n1 k1 : Nat) (B1 : Option Addr) (m1 d1 : Nat) (x1 : Rat) (g2 : Bool) (A2 : Option Addr) (n2 k2 : Nat) (B2 : Option Addr) (m2 d2 : Nat) (x2 : Rat) (h1 : RatV W 69 g1 (.slice A1 n1 k1) (.slice B1 m1 d1) x1) (h2 : RatV W 69 g2 (.slice A2 n2 k2) (.slice B2 m2 d2) x2) => rcmp_any 69 g1 _ _ x1 g2 _ _ x2 W h1 h2 (by omega)
  dsimp only
  rw [ey1, ey2, ey3, ey4]
  have BD := Lib.hid fun W (g : Bool) (A : Option Addr) (n k : Nat) (B : Option Addr) (m d : Nat) (h : RatV W 69 g (.slice A n k) (.slice B m d) (y1 - y2)) => bits_v 69 g A B n k m d (y1 - y2) (-1) W h (by omega) (.inl rfl)
  have BU := Lib.hid fun W (g : Bool) (A : Option Addr) (n k : Nat) (B : Option Addr) (m d : Nat) (h : RatV W 69 g (.slice A n k) (.slice B m d) (y3 - y4)) => bits_v 69 g A B n k m d (y3 - y4) 1 W h (by omega) (.inr rfl)
  obtain ⟨z1, hz1⟩ : ∃ z, pat (rndI (-1) (y1 - y2)) = z := ⟨_, rfl⟩
  obtain ⟨z2, hz2⟩ : ∃ z, pat (rndI 1 (y3 - y4)) = z := ⟨_, rfl⟩
  rw [hz1] at BD ⊢
  rw [hz2] at BU ⊢
  obtain ⟨lo, elo⟩ : ∃ x, y1 - y2 = x := ⟨_, rfl⟩
  obtain ⟨hi, ehi⟩ : ∃ x, y3 - y4 = x := ⟨_, rfl⟩
  rw [elo, ehi] at hrc
  rw [elo] at BD
  rw [ehi] at BU
  have RS1 := Lib.hid fun W g1 A1 n1 k1 B1 m1 d1 g2 A2 n2 k2 B2 m2 d2 h1 h2 => RS.out W g1 A1 n1 k1 B1 m1 d1 y1 g2 A2 n2 k2 B2 m2 d2 y2 h1 h2
  have RS2 := Lib.hid fun W g1 A1 n1 k1 B1 m1 d1 g2 A2 n2 k2 B2 m2 d2 h1 h2 => RS.out W g1 A1 n1 k1 B1 m1 d1 y3 g2 A2 n2 k2 B2 m2 d2 y4 h1 h2
  rw [elo] at RS1
  rw [ehi] at RS2
  have RC1 := Lib.hid fun W g1 A1 n1 k1 B1 m1 d1 g2 A2 n2 k2 B2 m2 d2 h1 h2 => RC.out W g1 A1 n1 k1 B1 m1 d1 hi g2 A2 n2 k2 B2 m2 d2 lo h1 h2
  obtain ⟨rr, err⟩ : ∃ z, rc hi lo = z := ⟨_, rfl⟩
  rw [err] at RC1 hrc
  have HRR := Lib.hid hrc
  clear h2 h4 h5 h3 ey1 ey2 ey3 ey4 elo ehi RS RC err hrc
  obtain ⟨P1, hP1⟩ : ∃ z, pat i1 = z := ⟨_, rfl⟩
  obtain ⟨Q1, hQ1⟩ : ∃ z, pat j1 = z := ⟨_, rfl⟩
  obtain ⟨P2, hP2⟩ : ∃ z, pat i2 = z := ⟨_, rfl⟩
  obtain ⟨Q2, hQ2⟩ : ∃ z, pat j2 = z := ⟨_, rfl⟩
  rw [hP1, hQ1] at t1 K1
  rw [hP2, hQ2] at t2 K2
  rw [hP1] at hp1
  rw [hP1] at F1
  rw [hQ1] at F3
  rw [hP2] at F2
  rw [hQ2] at F4
  have KC1 := Lib.hid K1
  have KC2 := Lib.hid K2
  have HR1 := Lib.hid t1
  have HR2 := Lib.hid t2
  clear K1 K2 t1 t2 v1 v2 hM r1 r2 hb1 hb2 hc1 hc2 h1 hP1 hQ1 hP2 hQ2 hz1 hz2
  have LB0 := Lib.hid (show Below w.heap.size w (((w.alloc (.cells #[.int .u64 (b1 : Int), .int .u64 (b2 : Int)] 24)).alloc (.cells #[.int .u64 (c1 : Int), .int .u64 (c2 : Int)] 24)).alloc (.cells #[.int .u64 0, .int .u64 0] 24)) from (((below_alloc w _).alloc (by simp <;> omega) _).alloc (by simp <;> omega) _))
  have LG0_0 := Lib.hid ((((Blk.at (W := w) (g := w.heap.size) (by simp <;> omega) 24 #[.int .u64 (b1 : Int), .int .u64 (b2 : Int)]).alloc (.cells #[.int .u64 (c1 : Int), .int .u64 (c2 : Int)] 24)).alloc (.cells #[.int .u64 0, .int .u64 0] 24)))
  have LG1_0 := Lib.hid (((Blk.at (W := (w.alloc (.cells #[.int .u64 (b1 : Int), .int .u64 (b2 : Int)] 24))) (g := (w.heap.size + 1)) (by simp <;> omega) 24 #[.int .u64 (c1 : Int), .int .u64 (c2 : Int)]).alloc (.cells #[.int .u64 0, .int .u64 0] 24)))
  have LR0 := Lib.hid (HasBlk.of (n := 2) (Blk.at (W := ((w.alloc (.cells #[.int .u64 (b1 : Int), .int .u64 (b2 : Int)] 24)).alloc (.cells #[.int .u64 (c1 : Int), .int .u64 (c2 : Int)] 24))) (g := (w.heap.size + 2)) (by simp <;> omega) 24 #[.int .u64 0, .int .u64 0]) rfl rfl)
  go_enter Tryz.func20, Tryz.ntmps20
  go_wp2_with fail
  refine (HR1.out _).mono ?_
  rintro e w1 ⟨rfl, hb1⟩
  have LB1 := Lib.hid (LB0.out.trans (hb1.mono LB0.out.size))
  have LR1 := Lib.hid (LR0.out.keep hb1)
  have LG0_1 := Lib.hid (LG0_0.out.keep hb1)
  have LG1_1 := Lib.hid (LG1_0.out.keep hb1)
  clear LB0 LR0 LG0_0 LG1_0
  clear hb1
  go_upto_region 2 with fail
  have hlt2 := LR1.out.lt
  have LB2 := Lib.hid (LB1.out.alloc LB1.out.size (.cells #[.int .u64 (P1 : Int), .int .u64 (Q1 : Int)] 24))
  have LR2 := Lib.hid (LR1.out.alloc (.cells #[.int .u64 (P1 : Int), .int .u64 (Q1 : Int)] 24))
  have LG0_2 := Lib.hid (LG0_1.out.alloc (.cells #[.int .u64 (P1 : Int), .int .u64 (Q1 : Int)] 24))
  have LG1_2 := Lib.hid (LG1_1.out.alloc (.cells #[.int .u64 (P1 : Int), .int .u64 (Q1 : Int)] 24))
  have LG2_2 := Lib.hid (Blk.new w1 24 #[.int .u64 (P1 : Int), .int .u64 (Q1 : Int)])
  clear LB1 LR1 LG0_1 LG1_1
  obtain ⟨V1, hV1⟩ : ∃ X, (w1.alloc (.cells #[.int .u64 (P1 : Int), .int .u64 (Q1 : Int)] 24)) = X := ⟨_, rfl⟩
  rw [hV1] at LB2 LR2 LG0_2 LG1_2 LG2_2 ⊢
  clear hV1
  have q1_0 : _ = some (.int .u64 (c1 : Int) : Value) := LG1_2.out.cell 0
  have q1_1 : _ = some (.int .u64 (c2 : Int) : Value) := LG1_2.out.cell 1
  go_wp2_with fail
  refine (HR2.out _).mono ?_
  rintro e w2 ⟨rfl, hb2⟩
  have LB3 := Lib.hid (LB2.out.trans (hb2.mono LB2.out.size))
  have LR3 := Lib.hid (LR2.out.keep hb2)
  have LG0_3 := Lib.hid (LG0_2.out.keep hb2)
  have LG1_3 := Lib.hid (LG1_2.out.keep hb2)
  have LG2_3 := Lib.hid (LG2_2.out.keep hb2)
  clear LB2 LR2 LG0_2 LG1_2 LG2_2
  clear hb2 q1_0 q1_1
  go_upto_region 3 with fail
  have hlt4 := LR3.out.lt
  have LB4 := Lib.hid (LB3.out.alloc LB3.out.size (.cells #[.int .u64 (P2 : Int), .int .u64 (Q2 : Int)] 24))
  have LR4 := Lib.hid (LR3.out.alloc (.cells #[.int .u64 (P2 : Int), .int .u64 (Q2 : Int)] 24))
  have LG0_4 := Lib.hid (LG0_3.out.alloc (.cells #[.int .u64 (P2 : Int), .int .u64 (Q2 : Int)] 24))
  have LG1_4 := Lib.hid (LG1_3.out.alloc (.cells #[.int .u64 (P2 : Int), .int .u64 (Q2 : Int)] 24))
  have LG2_4 := Lib.hid (LG2_3.out.alloc (.cells #[.int .u64 (P2 : Int), .int .u64 (Q2 : Int)] 24))
  have LG3_4 := Lib.hid (Blk.new w2 24 #[.int .u64 (P2 : Int), .int .u64 (Q2 : Int)])
  clear LB3 LR3 LG0_3 LG1_3 LG2_3
  obtain ⟨V2, hV2⟩ : ∃ X, (w2.alloc (.cells #[.int .u64 (P2 : Int), .int .u64 (Q2 : Int)] 24)) = X := ⟨_, rfl⟩
  rw [hV2] at LB4 LR4 LG0_4 LG1_4 LG2_4 LG3_4 ⊢
  clear hV2
  refine wp_region_held_drew (S := fun W' => Blk W' w.heap.size 24 #[.int .u64 (b1 : Int), .int .u64 (b2 : Int)] ∧ Blk W' (w.heap.size + 1) 24 #[.int .u64 (c1 : Int), .int .u64 (c2 : Int)] ∧ Blk W' w1.heap.size 24 #[.int .u64 (P1 : Int), .int .u64 (Q1 : Int)] ∧ Blk W' w2.heap.size 24 #[.int .u64 (P2 : Int), .int .u64 (Q2 : Int)] ∧ HasBlk W' (w.heap.size + 2) 24 2 ∧ Below w.heap.size w W') (by kernel_rfl) (by exact ⟨LG0_4.out.drew, LG1_4.out.drew, LG2_4.out.drew, LG3_4.out.drew, LR4.out.drew, LB4.out.drew⟩) (fun hHeld => ?_)
  refine wpAnyH_take (i := 0) (v := ?_) rfl (by kernel_rfl) (by kernel_rfl) (by kernel_rfl) (fun _ _ _ h => h) (Or.inl ⟨by rfl, ?_⟩) (by assumption) ?_
  rotate_left
  · (intro W2 hSw; (try dsimp only at hSw); have q0 : _ = some (.int .u64 (P1 : Int) : Value) := hSw.2.2.1.cell 0; have q1 : _ = some (.int .u64 (Q1 : Int) : Value) := hSw.2.2.1.cell 1; go_simp; (try with_reducible rfl))
  try simp only [Act.put, List.getElem_toArray, List.getElem_cons_succ, List.getElem_cons_zero, List.setIfInBounds_toArray, List.set_cons_zero, List.set_cons_succ]
  refine wpAnyH_ready (rs := [1]) (by kernel_rfl) (by simp) ?_
  refine AllReadyH.cons rfl (fun KK hKK => ?_) AllReadyH.nil
  go_simp
  refine (HE.out _).mono ?_
  rintro e w3 ⟨rfl, hbA⟩
  go_wp2_with fail
  refine hKK.out _ _ (⟨hHeld.1.keep hbA, hHeld.2.1.keep hbA, hHeld.2.2.1.keep hbA, hHeld.2.2.2.1.keep hbA, hHeld.2.2.2.2.1.keep hbA, hHeld.2.2.2.2.2.trans (hbA.mono hHeld.2.2.2.2.2.size)⟩) (fun _ => ?_)
  clear hKK KK hHeld; rename_i hHeld
  try simp only [Act.put, List.getElem_toArray, List.getElem_cons_succ, List.getElem_cons_zero, List.setIfInBounds_toArray, List.set_cons_zero, List.set_cons_succ]
  refine wpAnyH_take (i := 2) (v := ?_) rfl (by kernel_rfl) (by kernel_rfl) (by kernel_rfl) (fun _ _ _ h => h) (Or.inl ⟨by rfl, ?_⟩) (by assumption) ?_
  rotate_left
  · (intro W2 hSw; go_simp; (try with_reducible rfl))
  try simp only [Act.put, List.getElem_toArray, List.getElem_cons_succ, List.getElem_cons_zero, List.setIfInBounds_toArray, List.set_cons_zero, List.set_cons_succ]
  refine wpAnyH_take (i := 3) (v := ?_) rfl (by kernel_rfl) (by kernel_rfl) (by kernel_rfl) (fun _ _ _ h => h) (Or.inl ⟨by rfl, ?_⟩) (by assumption) ?_
  rotate_left
  · (intro W2 hSw; go_simp; (try with_reducible rfl))
  try simp only [Act.put, List.getElem_toArray, List.getElem_cons_succ, List.getElem_cons_zero, List.setIfInBounds_toArray, List.set_cons_zero, List.set_cons_succ]
  refine wpAnyH_take (i := 4) (v := undef) rfl (by kernel_rfl) (by kernel_rfl) (by kernel_rfl) (fun _ _ _ h => h) (Or.inr ⟨by rfl, rfl⟩) (by assumption) ?_
  try simp only [Act.put, List.getElem_toArray, List.getElem_cons_succ, List.getElem_cons_zero, List.setIfInBounds_toArray, List.set_cons_zero, List.set_cons_succ]
  refine wpAnyH_take (i := 5) (v := undef) rfl (by kernel_rfl) (by kernel_rfl) (by kernel_rfl) (fun _ _ _ h => h) (Or.inr ⟨by rfl, rfl⟩) (by assumption) ?_
  try simp only [Act.put, List.getElem_toArray, List.getElem_cons_succ, List.getElem_cons_zero, List.setIfInBounds_toArray, List.set_cons_zero, List.set_cons_succ]
  refine wpAnyH_take (i := 6) (v := undef) rfl (by kernel_rfl) (by kernel_rfl) (by kernel_rfl) (fun _ _ _ h => h) (Or.inr ⟨by rfl, rfl⟩) (by assumption) ?_
  try simp only [Act.put, List.getElem_toArray, List.getElem_cons_succ, List.getElem_cons_zero, List.setIfInBounds_toArray, List.set_cons_zero, List.set_cons_succ]
  refine wpAnyH_take (i := 7) (v := undef) rfl (by kernel_rfl) (by kernel_rfl) (by kernel_rfl) (fun _ _ _ h => h) (Or.inr ⟨by rfl, rfl⟩) (by assumption) ?_
  try simp only [Act.put, List.getElem_toArray, List.getElem_cons_succ, List.getElem_cons_zero, List.setIfInBounds_toArray, List.set_cons_zero, List.set_cons_succ]
  refine wpAnyH_take (i := 8) (v := undef) rfl (by kernel_rfl) (by kernel_rfl) (by kernel_rfl) (fun _ _ _ h => h) (Or.inr ⟨by rfl, rfl⟩) (by assumption) ?_
  try simp only [Act.put, List.getElem_toArray, List.getElem_cons_succ, List.getElem_cons_zero, List.setIfInBounds_toArray, List.set_cons_zero, List.set_cons_succ]
  refine wpAnyH_take (i := 9) (v := undef) rfl (by kernel_rfl) (by kernel_rfl) (by kernel_rfl) (fun _ _ _ h => h) (Or.inr ⟨by rfl, rfl⟩) (by assumption) ?_
  try simp only [Act.put, List.getElem_toArray, List.getElem_cons_succ, List.getElem_cons_zero, List.setIfInBounds_toArray, List.set_cons_zero, List.set_cons_succ]
  refine wpAnyH_take (i := 10) (v := undef) rfl (by kernel_rfl) (by kernel_rfl) (by kernel_rfl) (fun _ _ _ h => h) (Or.inr ⟨by rfl, rfl⟩) (by assumption) ?_
  try simp only [Act.put, List.getElem_toArray, List.getElem_cons_succ, List.getElem_cons_zero, List.setIfInBounds_toArray, List.set_cons_zero, List.set_cons_succ]
  refine wpAnyH_take (i := 11) (v := ?_) rfl (by kernel_rfl) (by kernel_rfl) (by kernel_rfl) (fun _ _ _ h => h) (Or.inl ⟨by rfl, ?_⟩) (by assumption) ?_
  rotate_left
  · (intro W2 hSw; go_simp; (try with_reducible rfl))
  try simp only [Act.put, List.getElem_toArray, List.getElem_cons_succ, List.getElem_cons_zero, List.setIfInBounds_toArray, List.set_cons_zero, List.set_cons_succ]
  refine wpAnyH_done (by kernel_rfl) ?_ _
  clear LB4 LR4 LG0_4 LG1_4 LG2_4 LG3_4
  have LG0_5 := Lib.hid hHeld.1
  have LG1_5 := Lib.hid hHeld.2.1
  have LG2_5 := Lib.hid hHeld.2.2.1
  have LG3_5 := Lib.hid hHeld.2.2.2.1
  have LR5 := Lib.hid hHeld.2.2.2.2.1
  have LB5 := Lib.hid hHeld.2.2.2.2.2
  clear hHeld hbA hp1
  have q2_0 : _ = some (.int .u64 (P1 : Int) : Value) := LG2_5.out.cell 0
  have q2_1 : _ = some (.int .u64 (Q1 : Int) : Value) := LG2_5.out.cell 1
  have q3_0 : _ = some (.int .u64 (P2 : Int) : Value) := LG3_5.out.cell 0
  have q3_1 : _ = some (.int .u64 (Q2 : Int) : Value) := LG3_5.out.cell 1
  go_wp2_with fail
  refine (KC1.out _).mono ?_
  rintro e w6 ⟨rfl, hb6⟩
  have LB6 := Lib.hid (LB5.out.trans (hb6.mono LB5.out.size))
  have LR6 := Lib.hid (LR5.out.keep hb6)
  have LG0_6 := Lib.hid (LG0_5.out.keep hb6)
  have LG1_6 := Lib.hid (LG1_5.out.keep hb6)
  have LG2_6 := Lib.hid (LG2_5.out.keep hb6)
  have LG3_6 := Lib.hid (LG3_5.out.keep hb6)
  clear LB5 LR5 LG0_5 LG1_5 LG2_5 LG3_5
  clear hb6 q2_0 q2_1 q3_0 q3_1
  have q2_0 : _ = some (.int .u64 (P1 : Int) : Value) := LG2_6.out.cell 0
  have q2_1 : _ = some (.int .u64 (Q1 : Int) : Value) := LG2_6.out.cell 1
  have q3_0 : _ = some (.int .u64 (P2 : Int) : Value) := LG3_6.out.cell 0
  have q3_1 : _ = some (.int .u64 (Q2 : Int) : Value) := LG3_6.out.cell 1
  go_wp2_with fail
  refine (KC2.out _).mono ?_
  rintro e w7 ⟨rfl, hb7⟩
  have LB7 := Lib.hid (LB6.out.trans (hb7.mono LB6.out.size))
  have LR7 := Lib.hid (LR6.out.keep hb7)
  have LG0_7 := Lib.hid (LG0_6.out.keep hb7)
  have LG1_7 := Lib.hid (LG1_6.out.keep hb7)
  have LG2_7 := Lib.hid (LG2_6.out.keep hb7)
  have LG3_7 := Lib.hid (LG3_6.out.keep hb7)
  clear LB6 LR6 LG0_6 LG1_6 LG2_6 LG3_6
  clear hb7 q2_0 q2_1 q3_0 q3_1
  have q2_0 : _ = some (.int .u64 (P1 : Int) : Value) := LG2_7.out.cell 0
  have q2_1 : _ = some (.int .u64 (Q1 : Int) : Value) := LG2_7.out.cell 1
  have q3_0 : _ = some (.int .u64 (P2 : Int) : Value) := LG3_7.out.cell 0
  have q3_1 : _ = some (.int .u64 (Q2 : Int) : Value) := LG3_7.out.cell 1
  go_wp2_with fail
  clear q2_0 q2_1 q3_0 q3_1
  have LA7 := LG2_7
  have LC7 := LG3_7
  clear LG0_7 LG1_7 LG2_7 LG3_7
  have LG0_7 := LA7
  have LG1_7 := LC7
  clear LA7 LC7
  go_cut [7] from 35 to 41 (fun s7 wx => ∃ (gl : Nat) (gg : Bool) (AA : Option Addr) (nn kk : Nat) (BB : Option Addr) (mm dd : Nat), s7 = .pointer (some ⟨gl, 0, none⟩) ∧ (w.heap.size + 2) < gl ∧ Blk wx gl 60 #[.bool gg, .slice AA nn kk, .slice BB mm dd] ∧ RatV wx 69 gg (.slice AA nn kk) (.slice BB mm dd) lo ∧ Blk wx w1.heap.size 24 #[.int .u64 (P1 : Int), .int .u64 (Q1 : Int)] ∧ Blk wx w2.heap.size 24 #[.int .u64 (P2 : Int), .int .u64 (Q2 : Int)] ∧ HasBlk wx (w.heap.size + 2) 24 2 ∧ Below w.heap.size w wx)
  case first =>
    refine wp_region_held_drew (S := fun W' => Blk W' w1.heap.size 24 #[.int .u64 (P1 : Int), .int .u64 (Q1 : Int)] ∧ Blk W' w2.heap.size 24 #[.int .u64 (P2 : Int), .int .u64 (Q2 : Int)] ∧ HasBlk W' (w.heap.size + 2) 24 2 ∧ Below w.heap.size w W') (by kernel_rfl) (by exact ⟨LG0_7.out.drew, LG1_7.out.drew, LR7.out.drew, LB7.out.drew⟩) (fun hHeld => ?_)
    clear LG0_7 LG1_7 LR7 LB7
    obtain ⟨WD, hWD⟩ : ∃ X, w7.drew = X := ⟨_, rfl⟩
    rw [hWD] at hHeld  ⊢
    clear hWD
    refine wpAnyH_take (i := 0) (v := ?_) rfl (by kernel_rfl) (by kernel_rfl) (by kernel_rfl) (fun _ _ _ h => h) (Or.inl ⟨by rfl, ?_⟩) (by assumption) ?_
    rotate_left
    · (intro W2 hSw; go_simp; (try with_reducible rfl))
    try simp only [Act.put, List.getElem_toArray, List.getElem_cons_succ, List.getElem_cons_zero, List.setIfInBounds_toArray, List.set_cons_zero, List.set_cons_succ]
    refine wpAnyH_take (i := 1) (v := ?_) rfl (by kernel_rfl) (by kernel_rfl) (by kernel_rfl) (fun _ _ _ h => h) (Or.inl ⟨by rfl, ?_⟩) (by assumption) ?_
    rotate_left
    · (intro W2 hSw; (try dsimp only at hSw); have q0 : _ = some (.int .u64 (P1 : Int) : Value) := hSw.1.cell 0; have q1 : _ = some (.int .u64 (Q1 : Int) : Value) := hSw.1.cell 1; go_simp; (try with_reducible rfl))
    try simp only [Act.put, List.getElem_toArray, List.getElem_cons_succ, List.getElem_cons_zero, List.setIfInBounds_toArray, List.set_cons_zero, List.set_cons_succ]
    refine wpAnyH_take (i := 3) (v := ?_) rfl (by kernel_rfl) (by kernel_rfl) (by kernel_rfl) (fun _ _ _ h => h) (Or.inl ⟨by rfl, ?_⟩) (by assumption) ?_
    rotate_left
    · (intro W2 hSw; go_simp; (try with_reducible rfl))
    try simp only [Act.put, List.getElem_toArray, List.getElem_cons_succ, List.getElem_cons_zero, List.setIfInBounds_toArray, List.set_cons_zero, List.set_cons_succ]
    refine wpAnyH_take (i := 4) (v := ?_) rfl (by kernel_rfl) (by kernel_rfl) (by kernel_rfl) (fun _ _ _ h => h) (Or.inl ⟨by rfl, ?_⟩) (by assumption) ?_
    rotate_left
    · (intro W2 hSw; (try dsimp only at hSw); have q0 : _ = some (.int .u64 (P2 : Int) : Value) := hSw.2.1.cell 0; have q1 : _ = some (.int .u64 (Q2 : Int) : Value) := hSw.2.1.cell 1; go_simp; (try with_reducible rfl))
    try simp only [Act.put, List.getElem_toArray, List.getElem_cons_succ, List.getElem_cons_zero, List.setIfInBounds_toArray, List.set_cons_zero, List.set_cons_succ]
    refine wpAnyH_ready (rs := [2, 7]) (by kernel_rfl) (by simp) ?_
    refine AllReadyH.cons rfl (fun KK hKK => ?_) (AllReadyH.cons rfl (fun KK hKK => ?_) AllReadyH.nil)
    · skip
      go_simp
      refine (F1.out _).mono ?_
      rintro e w11 ⟨gx1, Ax1, nx1, kx1, Bx1, mx1, dx1, rfl, hx1, hb1⟩
      go_wp2_with fail
      refine hKK.out _ _ (⟨hHeld.1.keep hb1, hHeld.2.1.keep hb1, hHeld.2.2.1.keep hb1, hHeld.2.2.2.trans (hb1.mono hHeld.2.2.2.size)⟩) (fun _ => ?_)
      clear hKK KK hHeld; rename_i hHeld
      try simp only [Act.put, List.getElem_toArray, List.getElem_cons_succ, List.getElem_cons_zero, List.setIfInBounds_toArray, List.set_cons_zero, List.set_cons_succ]
      clear hb1
      refine wpAnyH_ready (rs := [5, 7]) (by kernel_rfl) (by simp) ?_
      refine AllReadyH.cons rfl (fun KK hKK => ?_) (AllReadyH.cons rfl (fun KK hKK => ?_) AllReadyH.nil)
      · skip
        go_simp
        refine (F2.out _).mono ?_
        rintro e w12 ⟨gx2, Ax2, nx2, kx2, Bx2, mx2, dx2, rfl, hx2, hb2⟩
        go_wp2_with fail
        refine hKK.out _ _ (⟨hHeld.1.keep hb2, hHeld.2.1.keep hb2, hHeld.2.2.1.keep hb2, hHeld.2.2.2.trans (hb2.mono hHeld.2.2.2.size)⟩) (fun _ => ?_)
        clear hKK KK hHeld; rename_i hHeld
        try simp only [Act.put, List.getElem_toArray, List.getElem_cons_succ, List.getElem_cons_zero, List.setIfInBounds_toArray, List.set_cons_zero, List.set_cons_succ]
        have hx1 := hx1.below hb2
        clear hb2
        refine wpAnyH_ready (rs := [6, 7]) (by kernel_rfl) (by simp) ?_
        refine AllReadyH.cons rfl (fun KK hKK => ?_) (AllReadyH.cons rfl (fun KK hKK => ?_) AllReadyH.nil)
        · skip
          go_simp
          refine (RS1.out _ _ _ _ _ _ _ _ _ _ _ _ _ _ _ hx1 hx2).mono ?_
          rintro e w13 ⟨gx3, Ax3, nx3, kx3, Bx3, mx3, dx3, rfl, hx3, hb3⟩
          go_wp2_with fail
          refine hKK.out _ _ (⟨hHeld.1.keep hb3, hHeld.2.1.keep hb3, hHeld.2.2.1.keep hb3, hHeld.2.2.2.trans (hb3.mono hHeld.2.2.2.size)⟩) (fun _ => ?_)
          clear hKK KK hHeld; rename_i hHeld
          try simp only [Act.put, List.getElem_toArray, List.getElem_cons_succ, List.getElem_cons_zero, List.setIfInBounds_toArray, List.set_cons_zero, List.set_cons_succ]
          have hx1 := hx1.below hb3
          have hx2 := hx2.below hb3
          clear hb3
          refine wpAnyH_ready (rs := [7]) (by kernel_rfl) (by simp) ?_
          refine AllReadyH.cons rfl (fun KK hKK => ?_) AllReadyH.nil
          have H0 := hHeld
          go_simp
          refine hKK.out _ _ ⟨H0.1.alloc _, H0.2.1.alloc _, H0.2.2.1.alloc _, H0.2.2.2.alloc H0.2.2.2.size _⟩ (fun _ => ?_)
          clear hKK KK hHeld; rename_i hHeld
          try simp only [Act.put, List.getElem_toArray, List.getElem_cons_succ, List.getElem_cons_zero, List.setIfInBounds_toArray, List.set_cons_zero, List.set_cons_succ]
          have hl0 := H0.1.lt
          have hl1 := H0.2.1.lt
          have hlr := H0.2.2.1.lt
          have hlb := H0.2.2.2.size
          clear H0
          have BL := Blk.new (w13) 60 #[.bool false, .slice none 0 0, .slice none 0 0]
          have hx1 := hx1.below (below_alloc _ (.cells #[.bool false, .slice none 0 0, .slice none 0 0] 60))
          have hx2 := hx2.below (below_alloc _ (.cells #[.bool false, .slice none 0 0, .slice none 0 0] 60))
          have hx3 := hx3.below (below_alloc _ (.cells #[.bool false, .slice none 0 0, .slice none 0 0] 60))
          obtain ⟨gl, hgl⟩ : ∃ g, (w13).heap.size = g := ⟨_, rfl⟩
          obtain ⟨WA, hWA⟩ : ∃ X, (w13).alloc (.cells #[.bool false, .slice none 0 0, .slice none 0 0] 60) = X := ⟨_, rfl⟩
          rw [hWA] at BL hHeld hx1 hx2 hx3 ⊢
          rw [hgl] at BL hl0 hl1 hlr hlb ⊢
          clear hgl hWA
          refine wpAnyH_ready (rs := [8]) (by kernel_rfl) (by simp) ?_
          refine AllReadyH.cons rfl (fun KK hKK => ?_) AllReadyH.nil
          have qz0 := BL.cell 0
          have fz0 := BL.frozen 0
          have qz1 := BL.cell 1
          have fz1 := BL.frozen 1
          have qz2 := BL.cell 2
          have fz2 := BL.frozen 2
          simp at qz0 qz1 qz2
          go_simp
          refine hKK.out _ _ ⟨hHeld.1.other (by omega) 0 [.bool gx3, .slice Ax3 nx3 kx3, .slice Bx3 mx3 dx3], hHeld.2.1.other (by omega) 0 [.bool gx3, .slice Ax3 nx3 kx3, .slice Bx3 mx3 dx3], hHeld.2.2.1.other (by omega) 0 [.bool gx3, .slice Ax3 nx3 kx3, .slice Bx3 mx3 dx3], below_sets (by omega) [.bool gx3, .slice Ax3 nx3 kx3, .slice Bx3 mx3 dx3] 0 _ hHeld.2.2.2⟩ (fun _ => ?_)
          clear hKK KK
          rename_i hNew
          try simp only [Act.put, List.getElem_toArray, List.getElem_cons_succ, List.getElem_cons_zero, List.setIfInBounds_toArray, List.set_cons_zero, List.set_cons_succ]
          refine wpAnyH_done (by kernel_rfl) ?_ _
          go_wp2_with fail
          go_meet
          have HBL := HasBlk.of (n := 3) BL rfl rfl
          exact ⟨gl, _, _, _, _, _, _, _, rfl, hlr, by have hbs := Blk.sets [.bool gx3, .slice Ax3 nx3 kx3, .slice Bx3 mx3 dx3] 0 _ _ BL; simpa [laid, sets] using hbs, HBL.rat hx3 [.bool gx3, .slice Ax3 nx3 kx3, .slice Bx3 mx3 dx3], hNew⟩
        · skip
          have H0 := hHeld
          go_simp
          refine hKK.out _ _ ⟨H0.1.alloc _, H0.2.1.alloc _, H0.2.2.1.alloc _, H0.2.2.2.alloc H0.2.2.2.size _⟩ (fun _ => ?_)
          clear hKK KK hHeld; rename_i hHeld
          try simp only [Act.put, List.getElem_toArray, List.getElem_cons_succ, List.getElem_cons_zero, List.setIfInBounds_toArray, List.set_cons_zero, List.set_cons_succ]
          have hl0 := H0.1.lt
          have hl1 := H0.2.1.lt
          have hlr := H0.2.2.1.lt
          have hlb := H0.2.2.2.size
          clear H0
          have BL := Blk.new (w12) 60 #[.bool false, .slice none 0 0, .slice none 0 0]
          have hx1 := hx1.below (below_alloc _ (.cells #[.bool false, .slice none 0 0, .slice none 0 0] 60))
          have hx2 := hx2.below (below_alloc _ (.cells #[.bool false, .slice none 0 0, .slice none 0 0] 60))
          obtain ⟨gl, hgl⟩ : ∃ g, (w12).heap.size = g := ⟨_, rfl⟩
          obtain ⟨WA, hWA⟩ : ∃ X, (w12).alloc (.cells #[.bool false, .slice none 0 0, .slice none 0 0] 60) = X := ⟨_, rfl⟩
          rw [hWA] at BL hHeld hx1 hx2 ⊢
          rw [hgl] at BL hl0 hl1 hlr hlb ⊢
          clear hgl hWA
          refine wpAnyH_ready (rs := [6]) (by kernel_rfl) (by simp) ?_
          refine AllReadyH.cons rfl (fun KK hKK => ?_) AllReadyH.nil
          go_simp
          refine (RS1.out _ _ _ _ _ _ _ _ _ _ _ _ _ _ _ hx1 hx2).mono ?_
          rintro e w13 ⟨gx3, Ax3, nx3, kx3, Bx3, mx3, dx3, rfl, hx3, hb3⟩
          go_wp2_with fail
          refine hKK.out _ _ (⟨hHeld.1.keep hb3, hHeld.2.1.keep hb3, hHeld.2.2.1.keep hb3, hHeld.2.2.2.trans (hb3.mono hHeld.2.2.2.size)⟩) (fun _ => ?_)
          clear hKK KK hHeld; rename_i hHeld
          try simp only [Act.put, List.getElem_toArray, List.getElem_cons_succ, List.getElem_cons_zero, List.setIfInBounds_toArray, List.set_cons_zero, List.set_cons_succ]
          have hx1 := hx1.below hb3
          have hx2 := hx2.below hb3
          have BL := BL.keep hb3
          clear hb3
          refine wpAnyH_ready (rs := [8]) (by kernel_rfl) (by simp) ?_
          refine AllReadyH.cons rfl (fun KK hKK => ?_) AllReadyH.nil
          have qz0 := BL.cell 0
          have fz0 := BL.frozen 0
          have qz1 := BL.cell 1
          have fz1 := BL.frozen 1
          have qz2 := BL.cell 2
          have fz2 := BL.frozen 2
          simp at qz0 qz1 qz2
          go_simp
          refine hKK.out _ _ ⟨hHeld.1.other (by omega) 0 [.bool gx3, .slice Ax3 nx3 kx3, .slice Bx3 mx3 dx3], hHeld.2.1.other (by omega) 0 [.bool gx3, .slice Ax3 nx3 kx3, .slice Bx3 mx3 dx3], hHeld.2.2.1.other (by omega) 0 [.bool gx3, .slice Ax3 nx3 kx3, .slice Bx3 mx3 dx3], below_sets (by omega) [.bool gx3, .slice Ax3 nx3 kx3, .slice Bx3 mx3 dx3] 0 _ hHeld.2.2.2⟩ (fun _ => ?_)
          clear hKK KK
          rename_i hNew
          try simp only [Act.put, List.getElem_toArray, List.getElem_cons_succ, List.getElem_cons_zero, List.setIfInBounds_toArray, List.set_cons_zero, List.set_cons_succ]
          refine wpAnyH_done (by kernel_rfl) ?_ _
          go_wp2_with fail
          go_meet
          have HBL := HasBlk.of (n := 3) BL rfl rfl
          exact ⟨gl, _, _, _, _, _, _, _, rfl, hlr, by have hbs := Blk.sets [.bool gx3, .slice Ax3 nx3 kx3, .slice Bx3 mx3 dx3] 0 _ _ BL; simpa [laid, sets] using hbs, HBL.rat hx3 [.bool gx3, .slice Ax3 nx3 kx3, .slice Bx3 mx3 dx3], hNew⟩
      · skip
        have H0 := hHeld
        go_simp
        refine hKK.out _ _ ⟨H0.1.alloc _, H0.2.1.alloc _, H0.2.2.1.alloc _, H0.2.2.2.alloc H0.2.2.2.size _⟩ (fun _ => ?_)
        clear hKK KK hHeld; rename_i hHeld
        try simp only [Act.put, List.getElem_toArray, List.getElem_cons_succ, List.getElem_cons_zero, List.setIfInBounds_toArray, List.set_cons_zero, List.set_cons_succ]
        have hl0 := H0.1.lt
        have hl1 := H0.2.1.lt
        have hlr := H0.2.2.1.lt
        have hlb := H0.2.2.2.size
        clear H0
        have BL := Blk.new (w11) 60 #[.bool false, .slice none 0 0, .slice none 0 0]
        have hx1 := hx1.below (below_alloc _ (.cells #[.bool false, .slice none 0 0, .slice none 0 0] 60))
        obtain ⟨gl, hgl⟩ : ∃ g, (w11).heap.size = g := ⟨_, rfl⟩
        obtain ⟨WA, hWA⟩ : ∃ X, (w11).alloc (.cells #[.bool false, .slice none 0 0, .slice none 0 0] 60) = X := ⟨_, rfl⟩
        rw [hWA] at BL hHeld hx1 ⊢
        rw [hgl] at BL hl0 hl1 hlr hlb ⊢
        clear hgl hWA
        refine wpAnyH_ready (rs := [5]) (by kernel_rfl) (by simp) ?_
        refine AllReadyH.cons rfl (fun KK hKK => ?_) AllReadyH.nil
        go_simp
        refine (F2.out _).mono ?_
        rintro e w12 ⟨gx2, Ax2, nx2, kx2, Bx2, mx2, dx2, rfl, hx2, hb2⟩
        go_wp2_with fail
        refine hKK.out _ _ (⟨hHeld.1.keep hb2, hHeld.2.1.keep hb2, hHeld.2.2.1.keep hb2, hHeld.2.2.2.trans (hb2.mono hHeld.2.2.2.size)⟩) (fun _ => ?_)
        clear hKK KK hHeld; rename_i hHeld
        try simp only [Act.put, List.getElem_toArray, List.getElem_cons_succ, List.getElem_cons_zero, List.setIfInBounds_toArray, List.set_cons_zero, List.set_cons_succ]
        have hx1 := hx1.below hb2
        have BL := BL.keep hb2
        clear hb2
        refine wpAnyH_ready (rs := [6]) (by kernel_rfl) (by simp) ?_
        refine AllReadyH.cons rfl (fun KK hKK => ?_) AllReadyH.nil
        go_simp
        refine (RS1.out _ _ _ _ _ _ _ _ _ _ _ _ _ _ _ hx1 hx2).mono ?_
        rintro e w13 ⟨gx3, Ax3, nx3, kx3, Bx3, mx3, dx3, rfl, hx3, hb3⟩
        go_wp2_with fail
        refine hKK.out _ _ (⟨hHeld.1.keep hb3, hHeld.2.1.keep hb3, hHeld.2.2.1.keep hb3, hHeld.2.2.2.trans (hb3.mono hHeld.2.2.2.size)⟩) (fun _ => ?_)
        clear hKK KK hHeld; rename_i hHeld
        try simp only [Act.put, List.getElem_toArray, List.getElem_cons_succ, List.getElem_cons_zero, List.setIfInBounds_toArray, List.set_cons_zero, List.set_cons_succ]
        have hx1 := hx1.below hb3
        have hx2 := hx2.below hb3
        have BL := BL.keep hb3
        clear hb3
        refine wpAnyH_ready (rs := [8]) (by kernel_rfl) (by simp) ?_
        refine AllReadyH.cons rfl (fun KK hKK => ?_) AllReadyH.nil
        have qz0 := BL.cell 0
        have fz0 := BL.frozen 0
        have qz1 := BL.cell 1
        have fz1 := BL.frozen 1
        have qz2 := BL.cell 2
        have fz2 := BL.frozen 2
        simp at qz0 qz1 qz2
        go_simp
        refine hKK.out _ _ ⟨hHeld.1.other (by omega) 0 [.bool gx3, .slice Ax3 nx3 kx3, .slice Bx3 mx3 dx3], hHeld.2.1.other (by omega) 0 [.bool gx3, .slice Ax3 nx3 kx3, .slice Bx3 mx3 dx3], hHeld.2.2.1.other (by omega) 0 [.bool gx3, .slice Ax3 nx3 kx3, .slice Bx3 mx3 dx3], below_sets (by omega) [.bool gx3, .slice Ax3 nx3 kx3, .slice Bx3 mx3 dx3] 0 _ hHeld.2.2.2⟩ (fun _ => ?_)
        clear hKK KK
        rename_i hNew
        try simp only [Act.put, List.getElem_toArray, List.getElem_cons_succ, List.getElem_cons_zero, List.setIfInBounds_toArray, List.set_cons_zero, List.set_cons_succ]
        refine wpAnyH_done (by kernel_rfl) ?_ _
        go_wp2_with fail
        go_meet
        have HBL := HasBlk.of (n := 3) BL rfl rfl
        exact ⟨gl, _, _, _, _, _, _, _, rfl, hlr, by have hbs := Blk.sets [.bool gx3, .slice Ax3 nx3 kx3, .slice Bx3 mx3 dx3] 0 _ _ BL; simpa [laid, sets] using hbs, HBL.rat hx3 [.bool gx3, .slice Ax3 nx3 kx3, .slice Bx3 mx3 dx3], hNew⟩
    · skip
      have H0 := hHeld
      go_simp
      refine hKK.out _ _ ⟨H0.1.alloc _, H0.2.1.alloc _, H0.2.2.1.alloc _, H0.2.2.2.alloc H0.2.2.2.size _⟩ (fun _ => ?_)
      clear hKK KK hHeld; rename_i hHeld
      try simp only [Act.put, List.getElem_toArray, List.getElem_cons_succ, List.getElem_cons_zero, List.setIfInBounds_toArray, List.set_cons_zero, List.set_cons_succ]
      have hl0 := H0.1.lt
      have hl1 := H0.2.1.lt
      have hlr := H0.2.2.1.lt
      have hlb := H0.2.2.2.size
      clear H0
      have BL := Blk.new (WD) 60 #[.bool false, .slice none 0 0, .slice none 0 0]
      obtain ⟨gl, hgl⟩ : ∃ g, (WD).heap.size = g := ⟨_, rfl⟩
      obtain ⟨WA, hWA⟩ : ∃ X, (WD).alloc (.cells #[.bool false, .slice none 0 0, .slice none 0 0] 60) = X := ⟨_, rfl⟩
      rw [hWA] at BL hHeld ⊢
      rw [hgl] at BL hl0 hl1 hlr hlb ⊢
      clear hgl hWA
      refine wpAnyH_ready (rs := [2]) (by kernel_rfl) (by simp) ?_
      refine AllReadyH.cons rfl (fun KK hKK => ?_) AllReadyH.nil
      go_simp
      refine (F1.out _).mono ?_
      rintro e w11 ⟨gx1, Ax1, nx1, kx1, Bx1, mx1, dx1, rfl, hx1, hb1⟩
      go_wp2_with fail
      refine hKK.out _ _ (⟨hHeld.1.keep hb1, hHeld.2.1.keep hb1, hHeld.2.2.1.keep hb1, hHeld.2.2.2.trans (hb1.mono hHeld.2.2.2.size)⟩) (fun _ => ?_)
      clear hKK KK hHeld; rename_i hHeld
      try simp only [Act.put, List.getElem_toArray, List.getElem_cons_succ, List.getElem_cons_zero, List.setIfInBounds_toArray, List.set_cons_zero, List.set_cons_succ]
      have BL := BL.keep hb1
      clear hb1
      refine wpAnyH_ready (rs := [5]) (by kernel_rfl) (by simp) ?_
      refine AllReadyH.cons rfl (fun KK hKK => ?_) AllReadyH.nil
      go_simp
      refine (F2.out _).mono ?_
      rintro e w12 ⟨gx2, Ax2, nx2, kx2, Bx2, mx2, dx2, rfl, hx2, hb2⟩
      go_wp2_with fail
      refine hKK.out _ _ (⟨hHeld.1.keep hb2, hHeld.2.1.keep hb2, hHeld.2.2.1.keep hb2, hHeld.2.2.2.trans (hb2.mono hHeld.2.2.2.size)⟩) (fun _ => ?_)
      clear hKK KK hHeld; rename_i hHeld
      try simp only [Act.put, List.getElem_toArray, List.getElem_cons_succ, List.getElem_cons_zero, List.setIfInBounds_toArray, List.set_cons_zero, List.set_cons_succ]
      have hx1 := hx1.below hb2
      have BL := BL.keep hb2
      clear hb2
      refine wpAnyH_ready (rs := [6]) (by kernel_rfl) (by simp) ?_
      refine AllReadyH.cons rfl (fun KK hKK => ?_) AllReadyH.nil
      go_simp
      refine (RS1.out _ _ _ _ _ _ _ _ _ _ _ _ _ _ _ hx1 hx2).mono ?_
      rintro e w13 ⟨gx3, Ax3, nx3, kx3, Bx3, mx3, dx3, rfl, hx3, hb3⟩
      go_wp2_with fail
      refine hKK.out _ _ (⟨hHeld.1.keep hb3, hHeld.2.1.keep hb3, hHeld.2.2.1.keep hb3, hHeld.2.2.2.trans (hb3.mono hHeld.2.2.2.size)⟩) (fun _ => ?_)
      clear hKK KK hHeld; rename_i hHeld
      try simp only [Act.put, List.getElem_toArray, List.getElem_cons_succ, List.getElem_cons_zero, List.setIfInBounds_toArray, List.set_cons_zero, List.set_cons_succ]
      have hx1 := hx1.below hb3
      have hx2 := hx2.below hb3
      have BL := BL.keep hb3
      clear hb3
      refine wpAnyH_ready (rs := [8]) (by kernel_rfl) (by simp) ?_
      refine AllReadyH.cons rfl (fun KK hKK => ?_) AllReadyH.nil
      have qz0 := BL.cell 0
      have fz0 := BL.frozen 0
      have qz1 := BL.cell 1
      have fz1 := BL.frozen 1
      have qz2 := BL.cell 2
      have fz2 := BL.frozen 2
      simp at qz0 qz1 qz2
      go_simp
      refine hKK.out _ _ ⟨hHeld.1.other (by omega) 0 [.bool gx3, .slice Ax3 nx3 kx3, .slice Bx3 mx3 dx3], hHeld.2.1.other (by omega) 0 [.bool gx3, .slice Ax3 nx3 kx3, .slice Bx3 mx3 dx3], hHeld.2.2.1.other (by omega) 0 [.bool gx3, .slice Ax3 nx3 kx3, .slice Bx3 mx3 dx3], below_sets (by omega) [.bool gx3, .slice Ax3 nx3 kx3, .slice Bx3 mx3 dx3] 0 _ hHeld.2.2.2⟩ (fun _ => ?_)
      clear hKK KK
      rename_i hNew
      try simp only [Act.put, List.getElem_toArray, List.getElem_cons_succ, List.getElem_cons_zero, List.setIfInBounds_toArray, List.set_cons_zero, List.set_cons_succ]
      refine wpAnyH_done (by kernel_rfl) ?_ _
      go_wp2_with fail
      go_meet
      have HBL := HasBlk.of (n := 3) BL rfl rfl
      exact ⟨gl, _, _, _, _, _, _, _, rfl, hlr, by have hbs := Blk.sets [.bool gx3, .slice Ax3 nx3 kx3, .slice Bx3 mx3 dx3] 0 _ _ BL; simpa [laid, sets] using hbs, HBL.rat hx3 [.bool gx3, .slice Ax3 nx3 kx3, .slice Bx3 mx3 dx3], hNew⟩
  case rest =>
  obtain ⟨gla, gga, AAa, nna, kka, BBa, mma, dda, rfl, hga, bla, rta, hHeld⟩ := hcut
  have LG0_8 := Lib.hid hHeld.1
  have LG1_8 := Lib.hid hHeld.2.1
  have LR8 := Lib.hid hHeld.2.2.1
  have LB8 := Lib.hid hHeld.2.2.2
  have LG2_8 := Lib.hid bla
  have RTA := Lib.hid rta
  clear hHeld bla rta LB7 LR7 LG0_7 LG1_7 F1 F2 RS1
  go_wp2_with fail
  go_cut [8] from 42 to 48 (fun s8 wx => ∃ (gl : Nat) (gg : Bool) (AA : Option Addr) (nn kk : Nat) (BB : Option Addr) (mm dd : Nat), s8 = .pointer (some ⟨gl, 0, none⟩) ∧ (w.heap.size + 2) < gl ∧ Blk wx gl 60 #[.bool gg, .slice AA nn kk, .slice BB mm dd] ∧ RatV wx 69 gg (.slice AA nn kk) (.slice BB mm dd) hi ∧ RatV wx 69 gga (.slice AAa nna kka) (.slice BBa mma dda) lo ∧ Blk wx w1.heap.size 24 #[.int .u64 (P1 : Int), .int .u64 (Q1 : Int)] ∧ Blk wx w2.heap.size 24 #[.int .u64 (P2 : Int), .int .u64 (Q2 : Int)] ∧ Blk wx gla 60 #[.bool gga, .slice AAa nna kka, .slice BBa mma dda] ∧ HasBlk wx (w.heap.size + 2) 24 2 ∧ Below w.heap.size w wx)
  case first =>
    refine wp_region_held_drew (S := fun W' => Blk W' w1.heap.size 24 #[.int .u64 (P1 : Int), .int .u64 (Q1 : Int)] ∧ Blk W' w2.heap.size 24 #[.int .u64 (P2 : Int), .int .u64 (Q2 : Int)] ∧ Blk W' gla 60 #[.bool gga, .slice AAa nna kka, .slice BBa mma dda] ∧ HasBlk W' (w.heap.size + 2) 24 2 ∧ Below w.heap.size w W') (by kernel_rfl) (by exact ⟨LG0_8.out.drew, LG1_8.out.drew, LG2_8.out.drew, LR8.out.drew, LB8.out.drew⟩) (fun hHeld => ?_)
    have hc0 := RTA.out.below (Below.refl _ _).drew
    clear LG0_8 LG1_8 LG2_8 LR8 LB8 RTA
    obtain ⟨WD, hWD⟩ : ∃ X, wc.drew = X := ⟨_, rfl⟩
    rw [hWD] at hHeld hc0 ⊢
    clear hWD
    refine wpAnyH_take (i := 0) (v := ?_) rfl (by kernel_rfl) (by kernel_rfl) (by kernel_rfl) (fun _ _ _ h => h) (Or.inl ⟨by rfl, ?_⟩) (by assumption) ?_
    rotate_left
    · (intro W2 hSw; go_simp; (try with_reducible rfl))
    try simp only [Act.put, List.getElem_toArray, List.getElem_cons_succ, List.getElem_cons_zero, List.setIfInBounds_toArray, List.set_cons_zero, List.set_cons_succ]
    refine wpAnyH_take (i := 1) (v := ?_) rfl (by kernel_rfl) (by kernel_rfl) (by kernel_rfl) (fun _ _ _ h => h) (Or.inl ⟨by rfl, ?_⟩) (by assumption) ?_
    rotate_left
    · (intro W2 hSw; (try dsimp only at hSw); have q0 : _ = some (.int .u64 (P1 : Int) : Value) := hSw.1.cell 0; have q1 : _ = some (.int .u64 (Q1 : Int) : Value) := hSw.1.cell 1; go_simp; (try with_reducible rfl))
    try simp only [Act.put, List.getElem_toArray, List.getElem_cons_succ, List.getElem_cons_zero, List.setIfInBounds_toArray, List.set_cons_zero, List.set_cons_succ]
    refine wpAnyH_take (i := 3) (v := ?_) rfl (by kernel_rfl) (by kernel_rfl) (by kernel_rfl) (fun _ _ _ h => h) (Or.inl ⟨by rfl, ?_⟩) (by assumption) ?_
    rotate_left
    · (intro W2 hSw; go_simp; (try with_reducible rfl))
    try simp only [Act.put, List.getElem_toArray, List.getElem_cons_succ, List.getElem_cons_zero, List.setIfInBounds_toArray, List.set_cons_zero, List.set_cons_succ]
    refine wpAnyH_take (i := 4) (v := ?_) rfl (by kernel_rfl) (by kernel_rfl) (by kernel_rfl) (fun _ _ _ h => h) (Or.inl ⟨by rfl, ?_⟩) (by assumption) ?_
    rotate_left
    · (intro W2 hSw; (try dsimp only at hSw); have q0 : _ = some (.int .u64 (P2 : Int) : Value) := hSw.2.1.cell 0; have q1 : _ = some (.int .u64 (Q2 : Int) : Value) := hSw.2.1.cell 1; go_simp; (try with_reducible rfl))
    try simp only [Act.put, List.getElem_toArray, List.getElem_cons_succ, List.getElem_cons_zero, List.setIfInBounds_toArray, List.set_cons_zero, List.set_cons_succ]
    refine wpAnyH_ready (rs := [2, 7]) (by kernel_rfl) (by simp) ?_
    refine AllReadyH.cons rfl (fun KK hKK => ?_) (AllReadyH.cons rfl (fun KK hKK => ?_) AllReadyH.nil)
    · skip
      go_simp
      refine (F3.out _).mono ?_
      rintro e w11 ⟨gx1, Ax1, nx1, kx1, Bx1, mx1, dx1, rfl, hx1, hb1⟩
      go_wp2_with fail
      refine hKK.out _ _ (⟨hHeld.1.keep hb1, hHeld.2.1.keep hb1, hHeld.2.2.1.keep hb1, hHeld.2.2.2.1.keep hb1, hHeld.2.2.2.2.trans (hb1.mono hHeld.2.2.2.2.size)⟩) (fun _ => ?_)
      clear hKK KK hHeld; rename_i hHeld
      try simp only [Act.put, List.getElem_toArray, List.getElem_cons_succ, List.getElem_cons_zero, List.setIfInBounds_toArray, List.set_cons_zero, List.set_cons_succ]
      have hc0 := hc0.below hb1
      clear hb1
      refine wpAnyH_ready (rs := [5, 7]) (by kernel_rfl) (by simp) ?_
      refine AllReadyH.cons rfl (fun KK hKK => ?_) (AllReadyH.cons rfl (fun KK hKK => ?_) AllReadyH.nil)
      · skip
        go_simp
        refine (F4.out _).mono ?_
        rintro e w12 ⟨gx2, Ax2, nx2, kx2, Bx2, mx2, dx2, rfl, hx2, hb2⟩
        go_wp2_with fail
        refine hKK.out _ _ (⟨hHeld.1.keep hb2, hHeld.2.1.keep hb2, hHeld.2.2.1.keep hb2, hHeld.2.2.2.1.keep hb2, hHeld.2.2.2.2.trans (hb2.mono hHeld.2.2.2.2.size)⟩) (fun _ => ?_)
        clear hKK KK hHeld; rename_i hHeld
        try simp only [Act.put, List.getElem_toArray, List.getElem_cons_succ, List.getElem_cons_zero, List.setIfInBounds_toArray, List.set_cons_zero, List.set_cons_succ]
        have hx1 := hx1.below hb2
        have hc0 := hc0.below hb2
        clear hb2
        refine wpAnyH_ready (rs := [6, 7]) (by kernel_rfl) (by simp) ?_
        refine AllReadyH.cons rfl (fun KK hKK => ?_) (AllReadyH.cons rfl (fun KK hKK => ?_) AllReadyH.nil)
        · skip
          go_simp
          refine (RS2.out _ _ _ _ _ _ _ _ _ _ _ _ _ _ _ hx1 hx2).mono ?_
          rintro e w13 ⟨gx3, Ax3, nx3, kx3, Bx3, mx3, dx3, rfl, hx3, hb3⟩
          go_wp2_with fail
          refine hKK.out _ _ (⟨hHeld.1.keep hb3, hHeld.2.1.keep hb3, hHeld.2.2.1.keep hb3, hHeld.2.2.2.1.keep hb3, hHeld.2.2.2.2.trans (hb3.mono hHeld.2.2.2.2.size)⟩) (fun _ => ?_)
          clear hKK KK hHeld; rename_i hHeld
          try simp only [Act.put, List.getElem_toArray, List.getElem_cons_succ, List.getElem_cons_zero, List.setIfInBounds_toArray, List.set_cons_zero, List.set_cons_succ]
          have hx1 := hx1.below hb3
          have hx2 := hx2.below hb3
          have hc0 := hc0.below hb3
          clear hb3
          refine wpAnyH_ready (rs := [7]) (by kernel_rfl) (by simp) ?_
          refine AllReadyH.cons rfl (fun KK hKK => ?_) AllReadyH.nil
          have H0 := hHeld
          go_simp
          refine hKK.out _ _ ⟨H0.1.alloc _, H0.2.1.alloc _, H0.2.2.1.alloc _, H0.2.2.2.1.alloc _, H0.2.2.2.2.alloc H0.2.2.2.2.size _⟩ (fun _ => ?_)
          clear hKK KK hHeld; rename_i hHeld
          try simp only [Act.put, List.getElem_toArray, List.getElem_cons_succ, List.getElem_cons_zero, List.setIfInBounds_toArray, List.set_cons_zero, List.set_cons_succ]
          have hl0 := H0.1.lt
          have hl1 := H0.2.1.lt
          have hl2 := H0.2.2.1.lt
          have hlr := H0.2.2.2.1.lt
          have hlb := H0.2.2.2.2.size
          clear H0
          have BL := Blk.new (w13) 60 #[.bool false, .slice none 0 0, .slice none 0 0]
          have hx1 := hx1.below (below_alloc _ (.cells #[.bool false, .slice none 0 0, .slice none 0 0] 60))
          have hx2 := hx2.below (below_alloc _ (.cells #[.bool false, .slice none 0 0, .slice none 0 0] 60))
          have hx3 := hx3.below (below_alloc _ (.cells #[.bool false, .slice none 0 0, .slice none 0 0] 60))
          have hc0 := hc0.below (below_alloc _ (.cells #[.bool false, .slice none 0 0, .slice none 0 0] 60))
          obtain ⟨gl, hgl⟩ : ∃ g, (w13).heap.size = g := ⟨_, rfl⟩
          obtain ⟨WA, hWA⟩ : ∃ X, (w13).alloc (.cells #[.bool false, .slice none 0 0, .slice none 0 0] 60) = X := ⟨_, rfl⟩
          rw [hWA] at BL hHeld hx1 hx2 hx3 hc0 ⊢
          rw [hgl] at BL hl0 hl1 hl2 hlr hlb ⊢
          clear hgl hWA
          refine wpAnyH_ready (rs := [8]) (by kernel_rfl) (by simp) ?_
          refine AllReadyH.cons rfl (fun KK hKK => ?_) AllReadyH.nil
          have qz0 := BL.cell 0
          have fz0 := BL.frozen 0
          have qz1 := BL.cell 1
          have fz1 := BL.frozen 1
          have qz2 := BL.cell 2
          have fz2 := BL.frozen 2
          simp at qz0 qz1 qz2
          go_simp
          refine hKK.out _ _ ⟨hHeld.1.other (by omega) 0 [.bool gx3, .slice Ax3 nx3 kx3, .slice Bx3 mx3 dx3], hHeld.2.1.other (by omega) 0 [.bool gx3, .slice Ax3 nx3 kx3, .slice Bx3 mx3 dx3], hHeld.2.2.1.other (by omega) 0 [.bool gx3, .slice Ax3 nx3 kx3, .slice Bx3 mx3 dx3], hHeld.2.2.2.1.other (by omega) 0 [.bool gx3, .slice Ax3 nx3 kx3, .slice Bx3 mx3 dx3], below_sets (by omega) [.bool gx3, .slice Ax3 nx3 kx3, .slice Bx3 mx3 dx3] 0 _ hHeld.2.2.2.2⟩ (fun _ => ?_)
          clear hKK KK
          rename_i hNew
          try simp only [Act.put, List.getElem_toArray, List.getElem_cons_succ, List.getElem_cons_zero, List.setIfInBounds_toArray, List.set_cons_zero, List.set_cons_succ]
          refine wpAnyH_done (by kernel_rfl) ?_ _
          go_wp2_with fail
          go_meet
          have HBL := HasBlk.of (n := 3) BL rfl rfl
          exact ⟨gl, _, _, _, _, _, _, _, rfl, hlr, by have hbs := Blk.sets [.bool gx3, .slice Ax3 nx3 kx3, .slice Bx3 mx3 dx3] 0 _ _ BL; simpa [laid, sets] using hbs, HBL.rat hx3 [.bool gx3, .slice Ax3 nx3 kx3, .slice Bx3 mx3 dx3], HBL.rat hc0 [.bool gx3, .slice Ax3 nx3 kx3, .slice Bx3 mx3 dx3], hNew⟩
        · skip
          have H0 := hHeld
          go_simp
          refine hKK.out _ _ ⟨H0.1.alloc _, H0.2.1.alloc _, H0.2.2.1.alloc _, H0.2.2.2.1.alloc _, H0.2.2.2.2.alloc H0.2.2.2.2.size _⟩ (fun _ => ?_)
          clear hKK KK hHeld; rename_i hHeld
          try simp only [Act.put, List.getElem_toArray, List.getElem_cons_succ, List.getElem_cons_zero, List.setIfInBounds_toArray, List.set_cons_zero, List.set_cons_succ]
          have hl0 := H0.1.lt
          have hl1 := H0.2.1.lt
          have hl2 := H0.2.2.1.lt
          have hlr := H0.2.2.2.1.lt
          have hlb := H0.2.2.2.2.size
          clear H0
          have BL := Blk.new (w12) 60 #[.bool false, .slice none 0 0, .slice none 0 0]
          have hx1 := hx1.below (below_alloc _ (.cells #[.bool false, .slice none 0 0, .slice none 0 0] 60))
          have hx2 := hx2.below (below_alloc _ (.cells #[.bool false, .slice none 0 0, .slice none 0 0] 60))
          have hc0 := hc0.below (below_alloc _ (.cells #[.bool false, .slice none 0 0, .slice none 0 0] 60))
          obtain ⟨gl, hgl⟩ : ∃ g, (w12).heap.size = g := ⟨_, rfl⟩
          obtain ⟨WA, hWA⟩ : ∃ X, (w12).alloc (.cells #[.bool false, .slice none 0 0, .slice none 0 0] 60) = X := ⟨_, rfl⟩
          rw [hWA] at BL hHeld hx1 hx2 hc0 ⊢
          rw [hgl] at BL hl0 hl1 hl2 hlr hlb ⊢
          clear hgl hWA
          refine wpAnyH_ready (rs := [6]) (by kernel_rfl) (by simp) ?_
          refine AllReadyH.cons rfl (fun KK hKK => ?_) AllReadyH.nil
          go_simp
          refine (RS2.out _ _ _ _ _ _ _ _ _ _ _ _ _ _ _ hx1 hx2).mono ?_
          rintro e w13 ⟨gx3, Ax3, nx3, kx3, Bx3, mx3, dx3, rfl, hx3, hb3⟩
          go_wp2_with fail
          refine hKK.out _ _ (⟨hHeld.1.keep hb3, hHeld.2.1.keep hb3, hHeld.2.2.1.keep hb3, hHeld.2.2.2.1.keep hb3, hHeld.2.2.2.2.trans (hb3.mono hHeld.2.2.2.2.size)⟩) (fun _ => ?_)
          clear hKK KK hHeld; rename_i hHeld
          try simp only [Act.put, List.getElem_toArray, List.getElem_cons_succ, List.getElem_cons_zero, List.setIfInBounds_toArray, List.set_cons_zero, List.set_cons_succ]
          have hx1 := hx1.below hb3
          have hx2 := hx2.below hb3
          have hc0 := hc0.below hb3
          have BL := BL.keep hb3
          clear hb3
          refine wpAnyH_ready (rs := [8]) (by kernel_rfl) (by simp) ?_
          refine AllReadyH.cons rfl (fun KK hKK => ?_) AllReadyH.nil
          have qz0 := BL.cell 0
          have fz0 := BL.frozen 0
          have qz1 := BL.cell 1
          have fz1 := BL.frozen 1
          have qz2 := BL.cell 2
          have fz2 := BL.frozen 2
          simp at qz0 qz1 qz2
          go_simp
          refine hKK.out _ _ ⟨hHeld.1.other (by omega) 0 [.bool gx3, .slice Ax3 nx3 kx3, .slice Bx3 mx3 dx3], hHeld.2.1.other (by omega) 0 [.bool gx3, .slice Ax3 nx3 kx3, .slice Bx3 mx3 dx3], hHeld.2.2.1.other (by omega) 0 [.bool gx3, .slice Ax3 nx3 kx3, .slice Bx3 mx3 dx3], hHeld.2.2.2.1.other (by omega) 0 [.bool gx3, .slice Ax3 nx3 kx3, .slice Bx3 mx3 dx3], below_sets (by omega) [.bool gx3, .slice Ax3 nx3 kx3, .slice Bx3 mx3 dx3] 0 _ hHeld.2.2.2.2⟩ (fun _ => ?_)
          clear hKK KK
          rename_i hNew
          try simp only [Act.put, List.getElem_toArray, List.getElem_cons_succ, List.getElem_cons_zero, List.setIfInBounds_toArray, List.set_cons_zero, List.set_cons_succ]
          refine wpAnyH_done (by kernel_rfl) ?_ _
          go_wp2_with fail
          go_meet
          have HBL := HasBlk.of (n := 3) BL rfl rfl
          exact ⟨gl, _, _, _, _, _, _, _, rfl, hlr, by have hbs := Blk.sets [.bool gx3, .slice Ax3 nx3 kx3, .slice Bx3 mx3 dx3] 0 _ _ BL; simpa [laid, sets] using hbs, HBL.rat hx3 [.bool gx3, .slice Ax3 nx3 kx3, .slice Bx3 mx3 dx3], HBL.rat hc0 [.bool gx3, .slice Ax3 nx3 kx3, .slice Bx3 mx3 dx3], hNew⟩
      · skip
        have H0 := hHeld
        go_simp
        refine hKK.out _ _ ⟨H0.1.alloc _, H0.2.1.alloc _, H0.2.2.1.alloc _, H0.2.2.2.1.alloc _, H0.2.2.2.2.alloc H0.2.2.2.2.size _⟩ (fun _ => ?_)
        clear hKK KK hHeld; rename_i hHeld
        try simp only [Act.put, List.getElem_toArray, List.getElem_cons_succ, List.getElem_cons_zero, List.setIfInBounds_toArray, List.set_cons_zero, List.set_cons_succ]
        have hl0 := H0.1.lt
        have hl1 := H0.2.1.lt
        have hl2 := H0.2.2.1.lt
        have hlr := H0.2.2.2.1.lt
        have hlb := H0.2.2.2.2.size
        clear H0
        have BL := Blk.new (w11) 60 #[.bool false, .slice none 0 0, .slice none 0 0]
        have hx1 := hx1.below (below_alloc _ (.cells #[.bool false, .slice none 0 0, .slice none 0 0] 60))
        have hc0 := hc0.below (below_alloc _ (.cells #[.bool false, .slice none 0 0, .slice none 0 0] 60))
        obtain ⟨gl, hgl⟩ : ∃ g, (w11).heap.size = g := ⟨_, rfl⟩
        obtain ⟨WA, hWA⟩ : ∃ X, (w11).alloc (.cells #[.bool false, .slice none 0 0, .slice none 0 0] 60) = X := ⟨_, rfl⟩
        rw [hWA] at BL hHeld hx1 hc0 ⊢
        rw [hgl] at BL hl0 hl1 hl2 hlr hlb ⊢
        clear hgl hWA
        refine wpAnyH_ready (rs := [5]) (by kernel_rfl) (by simp) ?_
        refine AllReadyH.cons rfl (fun KK hKK => ?_) AllReadyH.nil
        go_simp
        refine (F4.out _).mono ?_
        rintro e w12 ⟨gx2, Ax2, nx2, kx2, Bx2, mx2, dx2, rfl, hx2, hb2⟩
        go_wp2_with fail
        refine hKK.out _ _ (⟨hHeld.1.keep hb2, hHeld.2.1.keep hb2, hHeld.2.2.1.keep hb2, hHeld.2.2.2.1.keep hb2, hHeld.2.2.2.2.trans (hb2.mono hHeld.2.2.2.2.size)⟩) (fun _ => ?_)
        clear hKK KK hHeld; rename_i hHeld
        try simp only [Act.put, List.getElem_toArray, List.getElem_cons_succ, List.getElem_cons_zero, List.setIfInBounds_toArray, List.set_cons_zero, List.set_cons_succ]
        have hx1 := hx1.below hb2
        have hc0 := hc0.below hb2
        have BL := BL.keep hb2
        clear hb2
        refine wpAnyH_ready (rs := [6]) (by kernel_rfl) (by simp) ?_
        refine AllReadyH.cons rfl (fun KK hKK => ?_) AllReadyH.nil
        go_simp
        refine (RS2.out _ _ _ _ _ _ _ _ _ _ _ _ _ _ _ hx1 hx2).mono ?_
        rintro e w13 ⟨gx3, Ax3, nx3, kx3, Bx3, mx3, dx3, rfl, hx3, hb3⟩
        go_wp2_with fail
        refine hKK.out _ _ (⟨hHeld.1.keep hb3, hHeld.2.1.keep hb3, hHeld.2.2.1.keep hb3, hHeld.2.2.2.1.keep hb3, hHeld.2.2.2.2.trans (hb3.mono hHeld.2.2.2.2.size)⟩) (fun _ => ?_)
        clear hKK KK hHeld; rename_i hHeld
        try simp only [Act.put, List.getElem_toArray, List.getElem_cons_succ, List.getElem_cons_zero, List.setIfInBounds_toArray, List.set_cons_zero, List.set_cons_succ]
        have hx1 := hx1.below hb3
        have hx2 := hx2.below hb3
        have hc0 := hc0.below hb3
        have BL := BL.keep hb3
        clear hb3
        refine wpAnyH_ready (rs := [8]) (by kernel_rfl) (by simp) ?_
        refine AllReadyH.cons rfl (fun KK hKK => ?_) AllReadyH.nil
        have qz0 := BL.cell 0
        have fz0 := BL.frozen 0
        have qz1 := BL.cell 1
        have fz1 := BL.frozen 1
        have qz2 := BL.cell 2
        have fz2 := BL.frozen 2
        simp at qz0 qz1 qz2
        go_simp
        refine hKK.out _ _ ⟨hHeld.1.other (by omega) 0 [.bool gx3, .slice Ax3 nx3 kx3, .slice Bx3 mx3 dx3], hHeld.2.1.other (by omega) 0 [.bool gx3, .slice Ax3 nx3 kx3, .slice Bx3 mx3 dx3], hHeld.2.2.1.other (by omega) 0 [.bool gx3, .slice Ax3 nx3 kx3, .slice Bx3 mx3 dx3], hHeld.2.2.2.1.other (by omega) 0 [.bool gx3, .slice Ax3 nx3 kx3, .slice Bx3 mx3 dx3], below_sets (by omega) [.bool gx3, .slice Ax3 nx3 kx3, .slice Bx3 mx3 dx3] 0 _ hHeld.2.2.2.2⟩ (fun _ => ?_)
        clear hKK KK
        rename_i hNew
        try simp only [Act.put, List.getElem_toArray, List.getElem_cons_succ, List.getElem_cons_zero, List.setIfInBounds_toArray, List.set_cons_zero, List.set_cons_succ]
        refine wpAnyH_done (by kernel_rfl) ?_ _
        go_wp2_with fail
        go_meet
        have HBL := HasBlk.of (n := 3) BL rfl rfl
        exact ⟨gl, _, _, _, _, _, _, _, rfl, hlr, by have hbs := Blk.sets [.bool gx3, .slice Ax3 nx3 kx3, .slice Bx3 mx3 dx3] 0 _ _ BL; simpa [laid, sets] using hbs, HBL.rat hx3 [.bool gx3, .slice Ax3 nx3 kx3, .slice Bx3 mx3 dx3], HBL.rat hc0 [.bool gx3, .slice Ax3 nx3 kx3, .slice Bx3 mx3 dx3], hNew⟩
    · skip
      have H0 := hHeld
      go_simp
      refine hKK.out _ _ ⟨H0.1.alloc _, H0.2.1.alloc _, H0.2.2.1.alloc _, H0.2.2.2.1.alloc _, H0.2.2.2.2.alloc H0.2.2.2.2.size _⟩ (fun _ => ?_)
      clear hKK KK hHeld; rename_i hHeld
      try simp only [Act.put, List.getElem_toArray, List.getElem_cons_succ, List.getElem_cons_zero, List.setIfInBounds_toArray, List.set_cons_zero, List.set_cons_succ]
      have hl0 := H0.1.lt
      have hl1 := H0.2.1.lt
      have hl2 := H0.2.2.1.lt
      have hlr := H0.2.2.2.1.lt
      have hlb := H0.2.2.2.2.size
      clear H0
      have BL := Blk.new (WD) 60 #[.bool false, .slice none 0 0, .slice none 0 0]
      have hc0 := hc0.below (below_alloc _ (.cells #[.bool false, .slice none 0 0, .slice none 0 0] 60))
      obtain ⟨gl, hgl⟩ : ∃ g, (WD).heap.size = g := ⟨_, rfl⟩
      obtain ⟨WA, hWA⟩ : ∃ X, (WD).alloc (.cells #[.bool false, .slice none 0 0, .slice none 0 0] 60) = X := ⟨_, rfl⟩
      rw [hWA] at BL hHeld hc0 ⊢
      rw [hgl] at BL hl0 hl1 hl2 hlr hlb ⊢
      clear hgl hWA
      refine wpAnyH_ready (rs := [2]) (by kernel_rfl) (by simp) ?_
      refine AllReadyH.cons rfl (fun KK hKK => ?_) AllReadyH.nil
      go_simp
      refine (F3.out _).mono ?_
      rintro e w11 ⟨gx1, Ax1, nx1, kx1, Bx1, mx1, dx1, rfl, hx1, hb1⟩
      go_wp2_with fail
      refine hKK.out _ _ (⟨hHeld.1.keep hb1, hHeld.2.1.keep hb1, hHeld.2.2.1.keep hb1, hHeld.2.2.2.1.keep hb1, hHeld.2.2.2.2.trans (hb1.mono hHeld.2.2.2.2.size)⟩) (fun _ => ?_)
      clear hKK KK hHeld; rename_i hHeld
      try simp only [Act.put, List.getElem_toArray, List.getElem_cons_succ, List.getElem_cons_zero, List.setIfInBounds_toArray, List.set_cons_zero, List.set_cons_succ]
      have hc0 := hc0.below hb1
      have BL := BL.keep hb1
      clear hb1
      refine wpAnyH_ready (rs := [5]) (by kernel_rfl) (by simp) ?_
      refine AllReadyH.cons rfl (fun KK hKK => ?_) AllReadyH.nil
      go_simp
      refine (F4.out _).mono ?_
      rintro e w12 ⟨gx2, Ax2, nx2, kx2, Bx2, mx2, dx2, rfl, hx2, hb2⟩
      go_wp2_with fail
      refine hKK.out _ _ (⟨hHeld.1.keep hb2, hHeld.2.1.keep hb2, hHeld.2.2.1.keep hb2, hHeld.2.2.2.1.keep hb2, hHeld.2.2.2.2.trans (hb2.mono hHeld.2.2.2.2.size)⟩) (fun _ => ?_)
      clear hKK KK hHeld; rename_i hHeld
      try simp only [Act.put, List.getElem_toArray, List.getElem_cons_succ, List.getElem_cons_zero, List.setIfInBounds_toArray, List.set_cons_zero, List.set_cons_succ]
      have hx1 := hx1.below hb2
      have hc0 := hc0.below hb2
      have BL := BL.keep hb2
      clear hb2
      refine wpAnyH_ready (rs := [6]) (by kernel_rfl) (by simp) ?_
      refine AllReadyH.cons rfl (fun KK hKK => ?_) AllReadyH.nil
      go_simp
      refine (RS2.out _ _ _ _ _ _ _ _ _ _ _ _ _ _ _ hx1 hx2).mono ?_
      rintro e w13 ⟨gx3, Ax3, nx3, kx3, Bx3, mx3, dx3, rfl, hx3, hb3⟩
      go_wp2_with fail
      refine hKK.out _ _ (⟨hHeld.1.keep hb3, hHeld.2.1.keep hb3, hHeld.2.2.1.keep hb3, hHeld.2.2.2.1.keep hb3, hHeld.2.2.2.2.trans (hb3.mono hHeld.2.2.2.2.size)⟩) (fun _ => ?_)
      clear hKK KK hHeld; rename_i hHeld
      try simp only [Act.put, List.getElem_toArray, List.getElem_cons_succ, List.getElem_cons_zero, List.setIfInBounds_toArray, List.set_cons_zero, List.set_cons_succ]
      have hx1 := hx1.below hb3
      have hx2 := hx2.below hb3
      have hc0 := hc0.below hb3
      have BL := BL.keep hb3
      clear hb3
      refine wpAnyH_ready (rs := [8]) (by kernel_rfl) (by simp) ?_
      refine AllReadyH.cons rfl (fun KK hKK => ?_) AllReadyH.nil
      have qz0 := BL.cell 0
      have fz0 := BL.frozen 0
      have qz1 := BL.cell 1
      have fz1 := BL.frozen 1
      have qz2 := BL.cell 2
      have fz2 := BL.frozen 2
      simp at qz0 qz1 qz2
      go_simp
      refine hKK.out _ _ ⟨hHeld.1.other (by omega) 0 [.bool gx3, .slice Ax3 nx3 kx3, .slice Bx3 mx3 dx3], hHeld.2.1.other (by omega) 0 [.bool gx3, .slice Ax3 nx3 kx3, .slice Bx3 mx3 dx3], hHeld.2.2.1.other (by omega) 0 [.bool gx3, .slice Ax3 nx3 kx3, .slice Bx3 mx3 dx3], hHeld.2.2.2.1.other (by omega) 0 [.bool gx3, .slice Ax3 nx3 kx3, .slice Bx3 mx3 dx3], below_sets (by omega) [.bool gx3, .slice Ax3 nx3 kx3, .slice Bx3 mx3 dx3] 0 _ hHeld.2.2.2.2⟩ (fun _ => ?_)
      clear hKK KK
      rename_i hNew
      try simp only [Act.put, List.getElem_toArray, List.getElem_cons_succ, List.getElem_cons_zero, List.setIfInBounds_toArray, List.set_cons_zero, List.set_cons_succ]
      refine wpAnyH_done (by kernel_rfl) ?_ _
      go_wp2_with fail
      go_meet
      have HBL := HasBlk.of (n := 3) BL rfl rfl
      exact ⟨gl, _, _, _, _, _, _, _, rfl, hlr, by have hbs := Blk.sets [.bool gx3, .slice Ax3 nx3 kx3, .slice Bx3 mx3 dx3] 0 _ _ BL; simpa [laid, sets] using hbs, HBL.rat hx3 [.bool gx3, .slice Ax3 nx3 kx3, .slice Bx3 mx3 dx3], HBL.rat hc0 [.bool gx3, .slice Ax3 nx3 kx3, .slice Bx3 mx3 dx3], hNew⟩
  case rest =>
  obtain ⟨glb, ggb, AAb, nnb, kkb, BBb, mmb, ddb, rfl, hgb, blb, rtb, rc0b, hHeld⟩ := hcut
  have LG0_9 := Lib.hid hHeld.1
  have LG1_9 := Lib.hid hHeld.2.1
  have LG2_9 := Lib.hid hHeld.2.2.1
  have LR9 := Lib.hid hHeld.2.2.2.1
  have LB9 := Lib.hid hHeld.2.2.2.2
  have LG3_9 := Lib.hid blb
  have RTB := Lib.hid rtb
  have RTC := Lib.hid rc0b
  clear hHeld blb rtb rc0b RTA LB8 LR8 LG0_8 LG1_8 LG2_8 F3 F4 RS2
  have q2_0 : _ = some (.bool gga : Value) := LG2_9.out.cell 0
  have q2_1 : _ = some (.slice AAa nna kka : Value) := LG2_9.out.cell 1
  have q2_2 : _ = some (.slice BBa mma dda : Value) := LG2_9.out.cell 2
  have q3_0 : _ = some (.bool ggb : Value) := LG3_9.out.cell 0
  have q3_1 : _ = some (.slice AAb nnb kkb : Value) := LG3_9.out.cell 1
  have q3_2 : _ = some (.slice BBb mmb ddb : Value) := LG3_9.out.cell 2
  go_wp2_with fail
  refine (RC1.out _ _ _ _ _ _ _ _ _ _ _ _ _ _ _ RTB.out RTC.out).mono ?_
  rintro e w20 ⟨rfl, hb20⟩
  have LB10 := Lib.hid (LB9.out.trans (hb20.mono LB9.out.size))
  have LR10 := Lib.hid (LR9.out.keep hb20)
  have LG0_10 := Lib.hid (LG0_9.out.keep hb20)
  have LG1_10 := Lib.hid (LG1_9.out.keep hb20)
  have LG2_10 := Lib.hid (LG2_9.out.keep hb20)
  have LG3_10 := Lib.hid (LG3_9.out.keep hb20)
  clear LB9 LR9 LG0_9 LG1_9 LG2_9 LG3_9
  have RB := Lib.hid (RTB.out.below hb20)
  have RA := Lib.hid (RTC.out.below hb20)
  have hrr := HRR.out
  clear hb20 RTB RTC RC1 HRR q2_0 q2_1 q2_2 q3_0 q3_1 q3_2
  go_wp2_with fail
  clear hrr
  refine wp_region_held_drew (S := fun W' => Blk W' w1.heap.size 24 #[.int .u64 (P1 : Int), .int .u64 (Q1 : Int)] ∧ Blk W' w2.heap.size 24 #[.int .u64 (P2 : Int), .int .u64 (Q2 : Int)] ∧ Blk W' gla 60 #[.bool gga, .slice AAa nna kka, .slice BBa mma dda] ∧ Blk W' glb 60 #[.bool ggb, .slice AAb nnb kkb, .slice BBb mmb ddb] ∧ HasBlk W' (w.heap.size + 2) 24 2 ∧ Below w.heap.size w W') (by kernel_rfl) (by exact ⟨LG0_10.out.drew, LG1_10.out.drew, LG2_10.out.drew, LG3_10.out.drew, LR10.out.drew, LB10.out.drew⟩) (fun hHeld => ?_)
  refine wpAnyH_take (i := 0) (v := ?_) rfl (by kernel_rfl) (by kernel_rfl) (by kernel_rfl) (fun _ _ _ h => h) (Or.inl ⟨by rfl, ?_⟩) (by assumption) ?_
  rotate_left
  · (intro W2 hSw; (try dsimp only at hSw); have q0 : _ = some (.bool gga : Value) := hSw.2.2.1.cell 0; have q1 : _ = some (.slice AAa nna kka : Value) := hSw.2.2.1.cell 1; have q2 : _ = some (.slice BBa mma dda : Value) := hSw.2.2.1.cell 2; go_simp; (try with_reducible rfl))
  try simp only [Act.put, List.getElem_toArray, List.getElem_cons_succ, List.getElem_cons_zero, List.setIfInBounds_toArray, List.set_cons_zero, List.set_cons_succ]
  refine wpAnyH_take (i := 2) (v := ?_) rfl (by kernel_rfl) (by kernel_rfl) (by kernel_rfl) (fun _ _ _ h => h) (Or.inl ⟨by rfl, ?_⟩) (by assumption) ?_
  rotate_left
  · (intro W2 hSw; (try dsimp only at hSw); have q0 : _ = some (.bool ggb : Value) := hSw.2.2.2.1.cell 0; have q1 : _ = some (.slice AAb nnb kkb : Value) := hSw.2.2.2.1.cell 1; have q2 : _ = some (.slice BBb mmb ddb : Value) := hSw.2.2.2.1.cell 2; go_simp; (try with_reducible rfl))
  try simp only [Act.put, List.getElem_toArray, List.getElem_cons_succ, List.getElem_cons_zero, List.setIfInBounds_toArray, List.set_cons_zero, List.set_cons_succ]
  refine wpAnyH_ready (rs := [1]) (by kernel_rfl) (by simp) ?_
  refine AllReadyH.cons rfl (fun KK hKK => ?_) AllReadyH.nil
  go_simp
  refine (BD.out _ _ _ _ _ _ _ _ (RA.out.below (Below.refl _ _).drew)).mono ?_
  rintro e w22 ⟨rfl, hbI⟩
  go_wp2_with fail
  refine hKK.out _ _ (⟨hHeld.1.keep hbI, hHeld.2.1.keep hbI, hHeld.2.2.1.keep hbI, hHeld.2.2.2.1.keep hbI, hHeld.2.2.2.2.1.keep hbI, hHeld.2.2.2.2.2.trans (hbI.mono hHeld.2.2.2.2.2.size)⟩) (fun _ => ?_)
  clear hKK KK hHeld; rename_i hHeld
  try simp only [Act.put, List.getElem_toArray, List.getElem_cons_succ, List.getElem_cons_zero, List.setIfInBounds_toArray, List.set_cons_zero, List.set_cons_succ]
  refine wpAnyH_ready (rs := [3]) (by kernel_rfl) (by simp) ?_
  refine AllReadyH.cons rfl (fun KK hKK => ?_) AllReadyH.nil
  go_simp
  refine (BU.out _ _ _ _ _ _ _ _ ((RB.out.below (Below.refl _ _).drew).below hbI)).mono ?_
  rintro e w23 ⟨rfl, hbJ⟩
  go_wp2_with fail
  refine hKK.out _ _ (⟨hHeld.1.keep hbJ, hHeld.2.1.keep hbJ, hHeld.2.2.1.keep hbJ, hHeld.2.2.2.1.keep hbJ, hHeld.2.2.2.2.1.keep hbJ, hHeld.2.2.2.2.2.trans (hbJ.mono hHeld.2.2.2.2.2.size)⟩) (fun _ => ?_)
  clear hKK KK hHeld; rename_i hHeld
  try simp only [Act.put, List.getElem_toArray, List.getElem_cons_succ, List.getElem_cons_zero, List.setIfInBounds_toArray, List.set_cons_zero, List.set_cons_succ]
  refine wpAnyH_take (i := 4) (v := ?_) rfl (by kernel_rfl) (by kernel_rfl) (by kernel_rfl) (fun _ _ _ h => h) (Or.inl ⟨by rfl, ?_⟩) (by assumption) ?_
  rotate_left
  · (intro W2 hSw; go_simp; (try with_reducible rfl))
  try simp only [Act.put, List.getElem_toArray, List.getElem_cons_succ, List.getElem_cons_zero, List.setIfInBounds_toArray, List.set_cons_zero, List.set_cons_succ]
  refine wpAnyH_ready (rs := [5]) (by kernel_rfl) (by simp) ?_
  refine AllReadyH.cons rfl (fun KK hKK => ?_) AllReadyH.nil
  have ha0 := hHeld.2.2.2.2.1.someCell 0 (by decide); have hf0 := hHeld.2.2.2.2.1.frozen 0; have ha1 := hHeld.2.2.2.2.1.someCell 1 (by decide); have hf1 := hHeld.2.2.2.2.1.frozen 1; have HK := Lib.hid (hHeld.2.2.2.2.1.setCell [.int .u64 (z1 : Int), .int .u64 (z2 : Int)] rfl); have F := Lib.hid (below_sets (w0 := w) (r := (w.heap.size + 2)) (by omega) [.int .u64 (z1 : Int), .int .u64 (z2 : Int)] 0 _ hHeld.2.2.2.2.2)
  go_simp
  refine hKK.out _ _ (⟨hHeld.1.other (by omega) 0 [.int .u64 (z1 : Int), .int .u64 (z2 : Int)], hHeld.2.1.other (by omega) 0 [.int .u64 (z1 : Int), .int .u64 (z2 : Int)], hHeld.2.2.1.other (by omega) 0 [.int .u64 (z1 : Int), .int .u64 (z2 : Int)], hHeld.2.2.2.1.other (by omega) 0 [.int .u64 (z1 : Int), .int .u64 (z2 : Int)], hHeld.2.2.2.2.1.sets [.int .u64 (z1 : Int), .int .u64 (z2 : Int)] rfl rfl, below_sets (by omega) [.int .u64 (z1 : Int), .int .u64 (z2 : Int)] 0 _ hHeld.2.2.2.2.2⟩) (fun _ => ?_)
  clear hKK KK hHeld; rename_i hHeld
  try simp only [Act.put, List.getElem_toArray, List.getElem_cons_succ, List.getElem_cons_zero, List.setIfInBounds_toArray, List.set_cons_zero, List.set_cons_succ]
  refine wpAnyH_done (by kernel_rfl) ?_ _
  have hk0 := HK.out 0 (by decide)
  have hk1 := HK.out 1 (by decide)
  simp [sets] at hk0 hk1
  clear hHeld HK hbI hbJ
  clear LB10 LR10 LG0_10 LG1_10 LG2_10 LG3_10
  go_wp2
  refine bodyPost_ret (v := .agg #[.int .u64 (z1 : Int), .int .u64 (z2 : Int)]) (by simp [results, Tryz.results20, go_sem, hk0, hk1]) rfl ?_
  exact ⟨rfl, F.out⟩

theorem cancel6_any (b1 b2 c1 c2 : Nat) (w : World) (hb1 : b1 < 18446744073709551616) (hb2 : b2 < 18446744073709551616) (hc1 : c1 < 18446744073709551616) (hc2 : c2 < 18446744073709551616) :
    Calls Tryz.prog 20 #[.agg #[.int .u64 (b1 : Int), .int .u64 (b2 : Int)], .agg #[.int .u64 (c1 : Int), .int .u64 (c2 : Int)]] w fun e w' => e = .returned (.agg #[.int .u64 (pat (cm6 (rd b1 b2).1 (rd b1 b2).2 (rd c1 c2).1 (rd c1 c2).2).1 : Int), .int .u64 (pat (cm6 (rd b1 b2).1 (rd b1 b2).2 (rd c1 c2).1 (rd c1 c2).2).2 : Int)]) ∧ Below w.heap.size w w' := by
  unfold cm6
  by_cases a : (rd b1 b2).2 < (rd b1 b2).1
  · by_cases b : (rd c1 c2).2 < (rd c1 c2).1
    · rw [if_pos ⟨a, .inl b⟩]; exact cancel6_A1 b1 b2 c1 c2 _ _ _ _ w hb1 hb2 hc1 hc2 rfl rfl a b
    · cases c : com (rd c1 c2).1 (rd c1 c2).2
      · rw [if_neg (by rintro ⟨-, h | h⟩; exact b h; cases h), if_pos (.inr rfl)]; exact cancel6_B0 b1 b2 c1 c2 _ _ _ _ w hb1 hb2 hc1 hc2 rfl rfl a b c
      · rw [if_pos ⟨a, .inr rfl⟩]; exact cancel6_A2 b1 b2 c1 c2 _ _ _ _ w hb1 hb2 hc1 hc2 rfl rfl a c
  · rw [if_neg (fun h => a h.1)]
    cases c1' : com (rd b1 b2).1 (rd b1 b2).2
    · rw [if_pos (.inl rfl)]; exact cancel6_B1 b1 b2 c1 c2 _ _ _ _ w hb1 hb2 hc1 hc2 rfl rfl a c1'
    · cases c2' : com (rd c1 c2).1 (rd c1 c2).2
      · rw [if_pos (.inr rfl)]; exact cancel6_B2 b1 b2 c1 c2 _ _ _ _ w hb1 hb2 hc1 hc2 rfl rfl c1' c2'
      · rw [if_neg (by simp)]
        by_cases d : fl (rd b1 b2).2 - fl (rd c1 c2).2 < fl (rd b1 b2).1 - fl (rd c1 c2).1
        · rw [if_pos d]; exact cancel6_C b1 b2 c1 c2 _ _ _ _ w hb1 hb2 hc1 hc2 rfl rfl c1' c2' d
        · rw [if_neg d]; exact cancel6_D b1 b2 c1 c2 _ _ _ _ w hb1 hb2 hc1 hc2 rfl rfl c1' c2' d
theorem Iv.negc {i j : Int} (h : Iv i j) : Iv (-j) (-i) := by
  unfold Iv at *
  rw [M_val] at *
  omega
theorem cancel6_idx (b1 b2 : Nat) (i2 j2 : Int) (w : World) (hb1 : b1 < 18446744073709551616) (hb2 : b2 < 18446744073709551616) (h : Iv i2 j2) :
    Calls Tryz.prog 20 #[.agg #[.int .u64 (b1 : Int), .int .u64 (b2 : Int)], .agg #[.int .u64 (pat i2 : Int), .int .u64 (pat j2 : Int)]] w fun e w' => e = .returned (.agg #[.int .u64 (pat (cm6 (rd b1 b2).1 (rd b1 b2).2 i2 j2).1 : Int), .int .u64 (pat (cm6 (rd b1 b2).1 (rd b1 b2).2 i2 j2).2 : Int)]) ∧ Below w.heap.size w w' := by
  have h2 := cancel6_any b1 b2 (pat i2) (pat j2) w hb1 hb2 (pat_lt h.lo.1 h.lo.2) (pat_lt h.hi.1 h.hi.2)
  rw [rd_pat h] at h2
  exact h2
set_option maxHeartbeats 6400000 in
theorem cancelp6_any (b1 b2 c1 c2 : Nat) (w : World) (hb1 : b1 < 18446744073709551616) (hb2 : b2 < 18446744073709551616) (hc1 : c1 < 18446744073709551616) (hc2 : c2 < 18446744073709551616) :
    Calls Tryz.prog 22 #[.agg #[.int .u64 (b1 : Int), .int .u64 (b2 : Int)], .agg #[.int .u64 (c1 : Int), .int .u64 (c2 : Int)]] w fun e w' => e = .returned (.agg #[.int .u64 (pat (cm6 (rd b1 b2).1 (rd b1 b2).2 (-(rd c1 c2).2) (-(rd c1 c2).1)).1 : Int), .int .u64 (pat (cm6 (rd b1 b2).1 (rd b1 b2).2 (-(rd c1 c2).2) (-(rd c1 c2).1)).2 : Int)]) ∧ Below w.heap.size w w' := by
  have HN1 := Lib.hid fun W => neg6 c1 c2 W hc1 hc2
  have HM := Lib.hid fun W => cancel6_idx b1 b2 _ _ W hb1 hb2 (rd_iv c1 c2).negc
  obtain ⟨z1, hz1⟩ : ∃ z, pat (cm6 (rd b1 b2).1 (rd b1 b2).2 (-(rd c1 c2).2) (-(rd c1 c2).1)).1 = z := ⟨_, rfl⟩
  obtain ⟨z2, hz2⟩ : ∃ z, pat (cm6 (rd b1 b2).1 (rd b1 b2).2 (-(rd c1 c2).2) (-(rd c1 c2).1)).2 = z := ⟨_, rfl⟩
  obtain ⟨p1, e1⟩ : ∃ z, pat (-(rd c1 c2).2) = z := ⟨_, rfl⟩
  obtain ⟨p2, e2⟩ : ∃ z, pat (-(rd c1 c2).1) = z := ⟨_, rfl⟩
  rw [e1, e2] at HN1 HM
  simp only [hz1, hz2] at HM ⊢
  clear hz1 hz2 e1 e2
  have LB0 := Lib.hid (show Below w.heap.size w (((w.alloc (.cells #[.int .u64 (b1 : Int), .int .u64 (b2 : Int)] 24)).alloc (.cells #[.int .u64 (c1 : Int), .int .u64 (c2 : Int)] 24)).alloc (.cells #[.int .u64 0, .int .u64 0] 24)) from (((below_alloc w _).alloc (by simp <;> omega) _).alloc (by simp <;> omega) _))
  have LG0_0 := Lib.hid ((((Blk.at (W := w) (g := w.heap.size) (by simp <;> omega) 24 #[.int .u64 (b1 : Int), .int .u64 (b2 : Int)]).alloc (.cells #[.int .u64 (c1 : Int), .int .u64 (c2 : Int)] 24)).alloc (.cells #[.int .u64 0, .int .u64 0] 24)))
  have LG1_0 := Lib.hid (((Blk.at (W := (w.alloc (.cells #[.int .u64 (b1 : Int), .int .u64 (b2 : Int)] 24))) (g := (w.heap.size + 1)) (by simp <;> omega) 24 #[.int .u64 (c1 : Int), .int .u64 (c2 : Int)]).alloc (.cells #[.int .u64 0, .int .u64 0] 24)))
  have LR0 := Lib.hid (HasBlk.of (n := 2) (Blk.at (W := ((w.alloc (.cells #[.int .u64 (b1 : Int), .int .u64 (b2 : Int)] 24)).alloc (.cells #[.int .u64 (c1 : Int), .int .u64 (c2 : Int)] 24))) (g := (w.heap.size + 2)) (by simp <;> omega) 24 #[.int .u64 0, .int .u64 0]) rfl rfl)
  go_enter Tryz.func22, Tryz.ntmps22
  go_wp2_with fail
  refine wp_region_held_drew (S := fun W' => Blk W' w.heap.size 24 #[.int .u64 (b1 : Int), .int .u64 (b2 : Int)] ∧ Blk W' (w.heap.size + 1) 24 #[.int .u64 (c1 : Int), .int .u64 (c2 : Int)] ∧ HasBlk W' (w.heap.size + 2) 24 2 ∧ Below w.heap.size w W') (by kernel_rfl) (by exact ⟨LG0_0.out.drew, LG1_0.out.drew, LR0.out.drew, LB0.out.drew⟩) (fun hHeld => ?_)
  refine wpAnyH_take (i := 0) (v := ?_) rfl (by kernel_rfl) (by kernel_rfl) (by kernel_rfl) (fun _ _ _ h => h) (Or.inl ⟨by rfl, ?_⟩) (by assumption) ?_
  rotate_left
  · (intro W2 hSw; (try dsimp only at hSw); have q0 : _ = some (.int .u64 (b1 : Int) : Value) := hSw.1.cell 0; have q1 : _ = some (.int .u64 (b2 : Int) : Value) := hSw.1.cell 1; go_simp; (try with_reducible rfl))
  try simp only [Act.put, List.getElem_toArray, List.getElem_cons_succ, List.getElem_cons_zero, List.setIfInBounds_toArray, List.set_cons_zero, List.set_cons_succ]
  refine wpAnyH_take (i := 1) (v := ?_) rfl (by kernel_rfl) (by kernel_rfl) (by kernel_rfl) (fun _ _ _ h => h) (Or.inl ⟨by rfl, ?_⟩) (by assumption) ?_
  rotate_left
  · (intro W2 hSw; (try dsimp only at hSw); have q0 : _ = some (.int .u64 (c1 : Int) : Value) := hSw.2.1.cell 0; have q1 : _ = some (.int .u64 (c2 : Int) : Value) := hSw.2.1.cell 1; go_simp; (try with_reducible rfl))
  try simp only [Act.put, List.getElem_toArray, List.getElem_cons_succ, List.getElem_cons_zero, List.setIfInBounds_toArray, List.set_cons_zero, List.set_cons_succ]
  refine wpAnyH_ready (rs := [2]) (by kernel_rfl) (by simp) ?_
  refine AllReadyH.cons rfl (fun KK hKK => ?_) AllReadyH.nil
  go_simp
  refine (HN1.out _).mono ?_
  rintro e w1 ⟨rfl, hbA⟩
  go_wp2_with fail
  refine hKK.out _ _ (⟨hHeld.1.keep hbA, hHeld.2.1.keep hbA, hHeld.2.2.1.keep hbA, hHeld.2.2.2.trans (hbA.mono hHeld.2.2.2.size)⟩) (fun _ => ?_)
  clear hKK KK hHeld; rename_i hHeld
  try simp only [Act.put, List.getElem_toArray, List.getElem_cons_succ, List.getElem_cons_zero, List.setIfInBounds_toArray, List.set_cons_zero, List.set_cons_succ]
  refine wpAnyH_ready (rs := [3]) (by kernel_rfl) (by simp) ?_
  refine AllReadyH.cons rfl (fun KK hKK => ?_) AllReadyH.nil
  go_simp
  refine (HM.out _).mono ?_
  rintro e w3 ⟨rfl, hbC⟩
  go_wp2_with fail
  refine hKK.out _ _ (⟨hHeld.1.keep hbC, hHeld.2.1.keep hbC, hHeld.2.2.1.keep hbC, hHeld.2.2.2.trans (hbC.mono hHeld.2.2.2.size)⟩) (fun _ => ?_)
  clear hKK KK hHeld; rename_i hHeld
  try simp only [Act.put, List.getElem_toArray, List.getElem_cons_succ, List.getElem_cons_zero, List.setIfInBounds_toArray, List.set_cons_zero, List.set_cons_succ]
  refine wpAnyH_ready (rs := [4]) (by kernel_rfl) (by simp) ?_
  refine AllReadyH.cons rfl (fun KK hKK => ?_) AllReadyH.nil
  have ha0 := hHeld.2.2.1.someCell 0 (by decide); have hf0 := hHeld.2.2.1.frozen 0; have ha1 := hHeld.2.2.1.someCell 1 (by decide); have hf1 := hHeld.2.2.1.frozen 1; have HK := Lib.hid (hHeld.2.2.1.setCell [.int .u64 (z1 : Int), .int .u64 (z2 : Int)] rfl); have F := Lib.hid (below_sets (w0 := w) (r := (w.heap.size + 2)) (by omega) [.int .u64 (z1 : Int), .int .u64 (z2 : Int)] 0 _ hHeld.2.2.2)
  go_simp
  refine hKK.out _ _ (⟨hHeld.1.other (by omega) 0 [.int .u64 (z1 : Int), .int .u64 (z2 : Int)], hHeld.2.1.other (by omega) 0 [.int .u64 (z1 : Int), .int .u64 (z2 : Int)], hHeld.2.2.1.sets [.int .u64 (z1 : Int), .int .u64 (z2 : Int)] rfl rfl, below_sets (by omega) [.int .u64 (z1 : Int), .int .u64 (z2 : Int)] 0 _ hHeld.2.2.2⟩) (fun _ => ?_)
  clear hKK KK hHeld; rename_i hHeld
  try simp only [Act.put, List.getElem_toArray, List.getElem_cons_succ, List.getElem_cons_zero, List.setIfInBounds_toArray, List.set_cons_zero, List.set_cons_succ]
  refine wpAnyH_done (by kernel_rfl) ?_ _
  have hk0 := HK.out 0 (by decide)
  have hk1 := HK.out 1 (by decide)
  simp [sets] at hk0 hk1
  clear hHeld HK hbA hbC
  clear LB0 LR0 LG0_0 LG1_0
  go_wp2
  refine bodyPost_ret (v := .agg #[.int .u64 (z1 : Int), .int .u64 (z2 : Int)]) (by simp [results, Tryz.results22, go_sem, hk0, hk1]) rfl ?_
  exact ⟨rfl, F.out⟩

end Go.Proofs.YtmjkmoahkanblaaGreat
