/-
Walks: package vergeref10, CancelMinus.
-/
import Derived.Test.YtmjkmoahkanblaaGreatM18
import Derived.Test.YtmjkmoahkanblaaGreatM07
import Derived.Test.YtmjkmoahkanblaaGreatM09
import Derived.Test.YtmjkmoahkanblaaGreatM10
import Derived.Test.YtmjkmoahkanblaaGreatM11
import Derived.Test.YtmjkmoahkanblaaGreatM19
set_option linter.unusedSimpArgs false
set_option linter.unusedVariables false

namespace Go.Proofs.YtmjkmoahkanblaaGreat
open Go.RowKit

theorem bits_v (K : Nat) (neg : Bool) (A B : Option Addr) (n c m d : Nat) (x : Rat) (dd : Int) (w : World) (h : RatV w K neg (.slice A n c) (.slice B m d) x) (hK : K ≤ 1048576) (hd : dd = -1 ∨ dd = 1) :
    Calls Tryz.prog 72 #[.int .i64 dd, .agg #[.bool neg, .slice A n c, .slice B m d]] w fun e w' => e = .returned (.int .u64 (pat (rndI dd x) : Int)) ∧ Below w.heap.size w w' := by
  refine (bits_any K neg A B n c m d x dd w h hK hd).mono ?_
  rintro e w' ⟨i, rfl, hr, hb⟩
  exact ⟨by rw [hr.eq], hb⟩
theorem from_v (i : Int) (w : World) (h0 : -(M : Int) < i) (h1 : i < M) : Calls Tryz.prog 70 #[.int .u64 (pat i : Int)] w (NewRatS w 34 (fl i)) := by
  have hf : fin (pat i) := by
    show rungOf _ < M
    rw [rung_pat (by omega) (by omega)]; omega
  have h := frombits_any (pat i) w (pat_lt (by omega) (by omega)) hf
  rw [idx_pat (by omega) (by omega)] at h
  exact h.mono fun _ _ h => h.s
theorem rc_lt_zero {x y : Rat} : rc x y < 0 ↔ x < y := by
  unfold rc
  by_cases h : x < y
  · rw [if_pos h]; exact ⟨fun _ => h, fun _ => by omega⟩
  · rw [if_neg h]
    constructor
    · intro h2; split at h2 <;> omega
    · intro h2; exact absurd h2 h
theorem rc_nonneg {x y : Rat} (h : ¬ x < y) : 0 ≤ rc x y := by
  by_cases h2 : 0 ≤ rc x y
  · exact h2
  · exact absurd (rc_lt_zero.1 (by omega)) h
/-- What chapter 10 says of CancelMinus. -/
def cm6 (i1 j1 i2 j2 : Int) : Int × Int :=
  if j1 < i1 ∧ (j2 < i2 ∨ com i2 j2 = true) then ((M : Int), -(M : Int)) else if com i1 j1 = false ∨ com i2 j2 = false then (-(M : Int), (M : Int))
  else if fl j1 - fl j2 < fl i1 - fl i2 then (-(M : Int), (M : Int)) else (rndI (-1) (fl i1 - fl i2), rndI 1 (fl j1 - fl j2))

set_option maxHeartbeats 6400000 in
theorem cancel6_A1 (b1 b2 c1 c2 : Nat) (i1 j1 i2 j2 : Int) (w : World) (hb1 : b1 < 18446744073709551616) (hb2 : b2 < 18446744073709551616) (hc1 : c1 < 18446744073709551616) (hc2 : c2 < 18446744073709551616) (r1 : rd b1 b2 = (i1, j1)) (r2 : rd c1 c2 = (i2, j2)) (h1 : j1 < i1) (h2 : j2 < i2) :
    Calls Tryz.prog 20 #[.agg #[.int .u64 (b1 : Int), .int .u64 (b2 : Int)], .agg #[.int .u64 (c1 : Int), .int .u64 (c2 : Int)]] w fun e w' => e = .returned (.agg #[.int .u64 (pat (((M : Int), -(M : Int))).1 : Int), .int .u64 (pat (((M : Int), -(M : Int))).2 : Int)]) ∧ Below w.heap.size w w' := by
  have v1 := rd_iv b1 b2
  have v2 := rd_iv c1 c2
  rw [r1] at v1
  rw [r2] at v2
  dsimp only at v1 v2
  have hM : M = 9218868437227405312 := rfl
  have t1 := fun W => read6 b1 b2 W hb1 hb2
  have t2 := fun W => read6 c1 c2 W hc1 hc2
  rw [r1] at t1
  rw [r2] at t2
  dsimp only at t1 t2
  have K1 := fun W => numbers_any i1 j1 W v1
  have K2 := fun W => numbers_any i2 j2 W v2
  have HE := Lib.hid empty6
  have HN := Lib.hid entire6
  have ec1 : com i1 j1 = false := decide_eq_false (by omega)
  rw [ec1] at K1
  obtain ⟨rfl, rfl⟩ : i1 = M ∧ j1 = -(M : Int) := by unfold Iv at v1; omega
  simp only [pat_max, pat_min] at t1 K1
  obtain ⟨rfl, rfl⟩ : i2 = M ∧ j2 = -(M : Int) := by unfold Iv at v2; omega
  simp only [pat_max, pat_min] at t2 K2
  dsimp only
  rw [pat_max, pat_min]
  have KC1 := Lib.hid K1
  have KC2 := Lib.hid K2
  have HR1 := Lib.hid t1
  have HR2 := Lib.hid t2
  clear K1 K2 t1 t2 v1 v2 hM r1 r2 hb1 hb2 hc1 hc2 h1 h2 ec1
  have LB0 := Lib.hid (show Below w.heap.size w (((w.alloc (.cells #[.int .u64 (b1 : Int), .int .u64 (b2 : Int)] 24)).alloc (.cells #[.int .u64 (c1 : Int), .int .u64 (c2 : Int)] 24)).alloc (.cells #[.int .u64 0, .int .u64 0] 24)) from (((below_alloc w _).alloc (by simp <;> omega) _).alloc (by simp <;> omega) _))
  have LG0_0 := Lib.hid ((((Blk.at (W := w) (g := w.heap.size) (by simp <;> omega) 24 #[.int .u64 (b1 : Int), .int .u64 (b2 : Int)]).alloc (.cells #[.int .u64 (c1 : Int), .int .u64 (c2 : Int)] 24)).alloc (.cells #[.int .u64 0, .int .u64 0] 24)))
  have LG1_0 := Lib.hid (((Blk.at (W := (w.alloc (.cells #[.int .u64 (b1 : Int), .int .u64 (b2 : Int)] 24))) (g := (w.heap.size + 1)) (by simp <;> omega) 24 #[.int .u64 (c1 : Int), .int .u64 (c2 : Int)]).alloc (.cells #[.int .u64 0, .int .u64 0] 24)))
  have LR0 := Lib.hid (HasBlk.of (n := 2) (Blk.at (W := ((w.alloc (.cells #[.int .u64 (b1 : Int), .int .u64 (b2 : Int)] 24)).alloc (.cells #[.int .u64 (c1 : Int), .int .u64 (c2 : Int)] 24))) (g := (w.heap.size + 2)) (by simp <;> omega) 24 #[.int .u64 0, .int .u64 0]) rfl rfl)
  go_enter Tryz.func20, Tryz.ntmps20
  go_wp2_with fail
  refine (HR1.out _).mono ?_
  rintro e w1 ⟨rfl, hb1⟩
  have LB1 := Lib.hid (LB0.out.trans (hb1.mono LB0.out.size))
  have LR1 := Lib.hid (LR0.out.keep hb1)
  have LG0_1 := Lib.hid (LG0_0.out.keep hb1)
  have LG1_1 := Lib.hid (LG1_0.out.keep hb1)
  clear LB0 LR0 LG0_0 LG1_0
  clear hb1
  go_upto_region 2 with fail
  have hlt2 := LR1.out.lt
  have LB2 := Lib.hid (LB1.out.alloc LB1.out.size (.cells #[.int .u64 9218868437227405312, .int .u64 18442240474082181120] 24))
  have LR2 := Lib.hid (LR1.out.alloc (.cells #[.int .u64 9218868437227405312, .int .u64 18442240474082181120] 24))
  have LG0_2 := Lib.hid (LG0_1.out.alloc (.cells #[.int .u64 9218868437227405312, .int .u64 18442240474082181120] 24))
  have LG1_2 := Lib.hid (LG1_1.out.alloc (.cells #[.int .u64 9218868437227405312, .int .u64 18442240474082181120] 24))
  have LG2_2 := Lib.hid (Blk.new w1 24 #[.int .u64 9218868437227405312, .int .u64 18442240474082181120])
  clear LB1 LR1 LG0_1 LG1_1
  obtain ⟨V1, hV1⟩ : ∃ X, (w1.alloc (.cells #[.int .u64 9218868437227405312, .int .u64 18442240474082181120] 24)) = X := ⟨_, rfl⟩
  rw [hV1] at LB2 LR2 LG0_2 LG1_2 LG2_2 ⊢
  clear hV1
  have q1_0 : _ = some (.int .u64 (c1 : Int) : Value) := LG1_2.out.cell 0
  have q1_1 : _ = some (.int .u64 (c2 : Int) : Value) := LG1_2.out.cell 1
  go_wp2_with fail
  refine (HR2.out _).mono ?_
  rintro e w2 ⟨rfl, hb2⟩
  have LB3 := Lib.hid (LB2.out.trans (hb2.mono LB2.out.size))
  have LR3 := Lib.hid (LR2.out.keep hb2)
  have LG0_3 := Lib.hid (LG0_2.out.keep hb2)
  have LG1_3 := Lib.hid (LG1_2.out.keep hb2)
  have LG2_3 := Lib.hid (LG2_2.out.keep hb2)
  clear LB2 LR2 LG0_2 LG1_2 LG2_2
  clear hb2 q1_0 q1_1
  go_upto_region 3 with fail
  have hlt4 := LR3.out.lt
  have LB4 := Lib.hid (LB3.out.alloc LB3.out.size (.cells #[.int .u64 9218868437227405312, .int .u64 18442240474082181120] 24))
  have LR4 := Lib.hid (LR3.out.alloc (.cells #[.int .u64 9218868437227405312, .int .u64 18442240474082181120] 24))
  have LG0_4 := Lib.hid (LG0_3.out.alloc (.cells #[.int .u64 9218868437227405312, .int .u64 18442240474082181120] 24))
  have LG1_4 := Lib.hid (LG1_3.out.alloc (.cells #[.int .u64 9218868437227405312, .int .u64 18442240474082181120] 24))
  have LG2_4 := Lib.hid (LG2_3.out.alloc (.cells #[.int .u64 9218868437227405312, .int .u64 18442240474082181120] 24))
  have LG3_4 := Lib.hid (Blk.new w2 24 #[.int .u64 9218868437227405312, .int .u64 18442240474082181120])
  clear LB3 LR3 LG0_3 LG1_3 LG2_3
  obtain ⟨V2, hV2⟩ : ∃ X, (w2.alloc (.cells #[.int .u64 9218868437227405312, .int .u64 18442240474082181120] 24)) = X := ⟨_, rfl⟩
  rw [hV2] at LB4 LR4 LG0_4 LG1_4 LG2_4 LG3_4 ⊢
  clear hV2
  refine wp_region_held_drew (S := fun W' => Blk W' w.heap.size 24 #[.int .u64 (b1 : Int), .int .u64 (b2 : Int)] ∧ Blk W' (w.heap.size + 1) 24 #[.int .u64 (c1 : Int), .int .u64 (c2 : Int)] ∧ Blk W' w1.heap.size 24 #[.int .u64 9218868437227405312, .int .u64 18442240474082181120] ∧ Blk W' w2.heap.size 24 #[.int .u64 9218868437227405312, .int .u64 18442240474082181120] ∧ HasBlk W' (w.heap.size + 2) 24 2 ∧ Below w.heap.size w W') (by kernel_rfl) (by exact ⟨LG0_4.out.drew, LG1_4.out.drew, LG2_4.out.drew, LG3_4.out.drew, LR4.out.drew, LB4.out.drew⟩) (fun hHeld => ?_)
  refine wpAnyH_take (i := 0) (v := ?_) rfl (by kernel_rfl) (by kernel_rfl) (by kernel_rfl) (fun _ _ _ h => h) (Or.inl ⟨by rfl, ?_⟩) (by assumption) ?_
  rotate_left
  · (intro W2 hSw; (try dsimp only at hSw); have q0 : _ = some (.int .u64 9218868437227405312 : Value) := hSw.2.2.1.cell 0; have q1 : _ = some (.int .u64 18442240474082181120 : Value) := hSw.2.2.1.cell 1; go_simp; (try with_reducible rfl))
  try simp only [Act.put, List.getElem_toArray, List.getElem_cons_succ, List.getElem_cons_zero, List.setIfInBounds_toArray, List.set_cons_zero, List.set_cons_succ]
  refine wpAnyH_ready (rs := [1]) (by kernel_rfl) (by simp) ?_
  refine AllReadyH.cons rfl (fun KK hKK => ?_) AllReadyH.nil
  go_simp
  refine (HE.out _).mono ?_
  rintro e w3 ⟨rfl, hbA⟩
  go_wp2_with fail
  refine hKK.out _ _ (⟨hHeld.1.keep hbA, hHeld.2.1.keep hbA, hHeld.2.2.1.keep hbA, hHeld.2.2.2.1.keep hbA, hHeld.2.2.2.2.1.keep hbA, hHeld.2.2.2.2.2.trans (hbA.mono hHeld.2.2.2.2.2.size)⟩) (fun _ => ?_)
  clear hKK KK hHeld; rename_i hHeld
  try simp only [Act.put, List.getElem_toArray, List.getElem_cons_succ, List.getElem_cons_zero, List.setIfInBounds_toArray, List.set_cons_zero, List.set_cons_succ]
  refine wpAnyH_take (i := 2) (v := ?_) rfl (by kernel_rfl) (by kernel_rfl) (by kernel_rfl) (fun _ _ _ h => h) (Or.inl ⟨by rfl, ?_⟩) (by assumption) ?_
  rotate_left
  · (intro W2 hSw; go_simp; (try with_reducible rfl))
  try simp only [Act.put, List.getElem_toArray, List.getElem_cons_succ, List.getElem_cons_zero, List.setIfInBounds_toArray, List.set_cons_zero, List.set_cons_succ]
  refine wpAnyH_take (i := 3) (v := ?_) rfl (by kernel_rfl) (by kernel_rfl) (by kernel_rfl) (fun _ _ _ h => h) (Or.inl ⟨by rfl, ?_⟩) (by assumption) ?_
  rotate_left
  · (intro W2 hSw; go_simp; (try with_reducible rfl))
  try simp only [Act.put, List.getElem_toArray, List.getElem_cons_succ, List.getElem_cons_zero, List.setIfInBounds_toArray, List.set_cons_zero, List.set_cons_succ]
  refine wpAnyH_take (i := 4) (v := ?_) rfl (by kernel_rfl) (by kernel_rfl) (by kernel_rfl) (fun _ _ _ h => h) (Or.inl ⟨by rfl, ?_⟩) (by assumption) ?_
  rotate_left
  · (intro W2 hSw; (try dsimp only at hSw); have q0 : _ = some (.int .u64 9218868437227405312 : Value) := hSw.2.2.2.1.cell 0; have q1 : _ = some (.int .u64 18442240474082181120 : Value) := hSw.2.2.2.1.cell 1; go_simp; (try with_reducible rfl))
  try simp only [Act.put, List.getElem_toArray, List.getElem_cons_succ, List.getElem_cons_zero, List.setIfInBounds_toArray, List.set_cons_zero, List.set_cons_succ]
  refine wpAnyH_ready (rs := [5]) (by kernel_rfl) (by simp) ?_
  refine AllReadyH.cons rfl (fun KK hKK => ?_) AllReadyH.nil
  go_simp
  refine (HE.out _).mono ?_
  rintro e w4 ⟨rfl, hbB⟩
  go_wp2_with fail
  refine hKK.out _ _ (⟨hHeld.1.keep hbB, hHeld.2.1.keep hbB, hHeld.2.2.1.keep hbB, hHeld.2.2.2.1.keep hbB, hHeld.2.2.2.2.1.keep hbB, hHeld.2.2.2.2.2.trans (hbB.mono hHeld.2.2.2.2.2.size)⟩) (fun _ => ?_)
  clear hKK KK hHeld; rename_i hHeld
  try simp only [Act.put, List.getElem_toArray, List.getElem_cons_succ, List.getElem_cons_zero, List.setIfInBounds_toArray, List.set_cons_zero, List.set_cons_succ]
  refine wpAnyH_take (i := 6) (v := ?_) rfl (by kernel_rfl) (by kernel_rfl) (by kernel_rfl) (fun _ _ _ h => h) (Or.inl ⟨by rfl, ?_⟩) (by assumption) ?_
  rotate_left
  · (intro W2 hSw; go_simp; (try with_reducible rfl))
  try simp only [Act.put, List.getElem_toArray, List.getElem_cons_succ, List.getElem_cons_zero, List.setIfInBounds_toArray, List.set_cons_zero, List.set_cons_succ]
  refine wpAnyH_take (i := 7) (v := ?_) rfl (by kernel_rfl) (by kernel_rfl) (by kernel_rfl) (fun _ _ _ h => h) (Or.inl ⟨by rfl, ?_⟩) (by assumption) ?_
  rotate_left
  · (intro W2 hSw; go_simp; (try with_reducible rfl))
  try simp only [Act.put, List.getElem_toArray, List.getElem_cons_succ, List.getElem_cons_zero, List.setIfInBounds_toArray, List.set_cons_zero, List.set_cons_succ]
  refine wpAnyH_take (i := 8) (v := undef) rfl (by kernel_rfl) (by kernel_rfl) (by kernel_rfl) (fun _ _ _ h => h) (Or.inr ⟨by rfl, rfl⟩) (by assumption) ?_
  try simp only [Act.put, List.getElem_toArray, List.getElem_cons_succ, List.getElem_cons_zero, List.setIfInBounds_toArray, List.set_cons_zero, List.set_cons_succ]
  refine wpAnyH_take (i := 9) (v := undef) rfl (by kernel_rfl) (by kernel_rfl) (by kernel_rfl) (fun _ _ _ h => h) (Or.inr ⟨by rfl, rfl⟩) (by assumption) ?_
  try simp only [Act.put, List.getElem_toArray, List.getElem_cons_succ, List.getElem_cons_zero, List.setIfInBounds_toArray, List.set_cons_zero, List.set_cons_succ]
  refine wpAnyH_take (i := 10) (v := ?_) rfl (by kernel_rfl) (by kernel_rfl) (by kernel_rfl) (fun _ _ _ h => h) (Or.inl ⟨by rfl, ?_⟩) (by assumption) ?_
  rotate_left
  · (intro W2 hSw; go_simp; (try with_reducible rfl))
  try simp only [Act.put, List.getElem_toArray, List.getElem_cons_succ, List.getElem_cons_zero, List.setIfInBounds_toArray, List.set_cons_zero, List.set_cons_succ]
  refine wpAnyH_take (i := 11) (v := ?_) rfl (by kernel_rfl) (by kernel_rfl) (by kernel_rfl) (fun _ _ _ h => h) (Or.inl ⟨by rfl, ?_⟩) (by assumption) ?_
  rotate_left
  · (intro W2 hSw; go_simp; (try with_reducible rfl))
  try simp only [Act.put, List.getElem_toArray, List.getElem_cons_succ, List.getElem_cons_zero, List.setIfInBounds_toArray, List.set_cons_zero, List.set_cons_succ]
  refine wpAnyH_done (by kernel_rfl) ?_ _
  clear LB4 LR4 LG0_4 LG1_4 LG2_4 LG3_4
  have LG0_5 := Lib.hid hHeld.1
  have LG1_5 := Lib.hid hHeld.2.1
  have LG2_5 := Lib.hid hHeld.2.2.1
  have LG3_5 := Lib.hid hHeld.2.2.2.1
  have LR5 := Lib.hid hHeld.2.2.2.2.1
  have LB5 := Lib.hid hHeld.2.2.2.2.2
  clear hHeld hbA hbB
  go_wp2_with fail
  refine (HE.out _).mono ?_
  rintro e w6 ⟨rfl, hb6⟩
  have LB6 := Lib.hid (LB5.out.trans (hb6.mono LB5.out.size))
  have LR6 := Lib.hid (LR5.out.keep hb6)
  have LG0_6 := Lib.hid (LG0_5.out.keep hb6)
  have LG1_6 := Lib.hid (LG1_5.out.keep hb6)
  have LG2_6 := Lib.hid (LG2_5.out.keep hb6)
  have LG3_6 := Lib.hid (LG3_5.out.keep hb6)
  clear LB5 LR5 LG0_5 LG1_5 LG2_5 LG3_5
  clear hb6
  have ha0 := LR6.out.someCell 0 (by decide)
  have hf0 := LR6.out.frozen 0
  have ha1 := LR6.out.someCell 1 (by decide)
  have hf1 := LR6.out.frozen 1
  have hk0 := LR6.out.setCell [.int .u64 9218868437227405312, .int .u64 18442240474082181120] rfl 0 (by decide)
  have hk1 := LR6.out.setCell [.int .u64 9218868437227405312, .int .u64 18442240474082181120] rfl 1 (by decide)
  have F := Lib.hid (below_sets (w0 := w) (r := (w.heap.size + 2)) (by omega) [.int .u64 9218868437227405312, .int .u64 18442240474082181120] 0 _ LB6.out)
  simp [sets] at hk0 hk1
  go_wp2
  refine bodyPost_ret (v := .agg #[.int .u64 9218868437227405312, .int .u64 18442240474082181120]) (by simp [results, Tryz.results20, go_sem, hk0, hk1]) rfl ?_
  exact ⟨rfl, F.out⟩

set_option maxHeartbeats 6400000 in
theorem cancel6_A2 (b1 b2 c1 c2 : Nat) (i1 j1 i2 j2 : Int) (w : World) (hb1 : b1 < 18446744073709551616) (hb2 : b2 < 18446744073709551616) (hc1 : c1 < 18446744073709551616) (hc2 : c2 < 18446744073709551616) (r1 : rd b1 b2 = (i1, j1)) (r2 : rd c1 c2 = (i2, j2)) (h1 : j1 < i1) (h2 : com i2 j2 = true) :
    Calls Tryz.prog 20 #[.agg #[.int .u64 (b1 : Int), .int .u64 (b2 : Int)], .agg #[.int .u64 (c1 : Int), .int .u64 (c2 : Int)]] w fun e w' => e = .returned (.agg #[.int .u64 (pat (((M : Int), -(M : Int))).1 : Int), .int .u64 (pat (((M : Int), -(M : Int))).2 : Int)]) ∧ Below w.heap.size w w' := by
  have v1 := rd_iv b1 b2
  have v2 := rd_iv c1 c2
  rw [r1] at v1
  rw [r2] at v2
  dsimp only at v1 v2
  have hM : M = 9218868437227405312 := rfl
  have t1 := fun W => read6 b1 b2 W hb1 hb2
  have t2 := fun W => read6 c1 c2 W hc1 hc2
  rw [r1] at t1
  rw [r2] at t2
  dsimp only at t1 t2
  have K1 := fun W => numbers_any i1 j1 W v1
  have K2 := fun W => numbers_any i2 j2 W v2
  have HE := Lib.hid empty6
  have HN := Lib.hid entire6
  have ec1 : com i1 j1 = false := decide_eq_false (by omega)
  rw [ec1] at K1
  obtain ⟨rfl, rfl⟩ : i1 = M ∧ j1 = -(M : Int) := by unfold Iv at v1; omega
  simp only [pat_max, pat_min] at t1 K1
  have h4 := of_decide_eq_true h2
  rw [h2] at K2
  have hp2 := pat_ne_max v2.lo.1 (by omega)
  dsimp only
  rw [pat_max, pat_min]
  obtain ⟨P2, hP2⟩ : ∃ z, pat i2 = z := ⟨_, rfl⟩
  obtain ⟨Q2, hQ2⟩ : ∃ z, pat j2 = z := ⟨_, rfl⟩
  rw [hP2, hQ2] at t2 K2
  rw [hP2] at hp2
  have KC1 := Lib.hid K1
  have KC2 := Lib.hid K2
  have HR1 := Lib.hid t1
  have HR2 := Lib.hid t2
  clear K1 K2 t1 t2 v1 v2 hM r1 r2 hb1 hb2 hc1 hc2 h1 hP2 hQ2 h2 h4 ec1
  have LB0 := Lib.hid (show Below w.heap.size w (((w.alloc (.cells #[.int .u64 (b1 : Int), .int .u64 (b2 : Int)] 24)).alloc (.cells #[.int .u64 (c1 : Int), .int .u64 (c2 : Int)] 24)).alloc (.cells #[.int .u64 0, .int .u64 0] 24)) from (((below_alloc w _).alloc (by simp <;> omega) _).alloc (by simp <;> omega) _))
  have LG0_0 := Lib.hid ((((Blk.at (W := w) (g := w.heap.size) (by simp <;> omega) 24 #[.int .u64 (b1 : Int), .int .u64 (b2 : Int)]).alloc (.cells #[.int .u64 (c1 : Int), .int .u64 (c2 : Int)] 24)).alloc (.cells #[.int .u64 0, .int .u64 0] 24)))
  have LG1_0 := Lib.hid (((Blk.at (W := (w.alloc (.cells #[.int .u64 (b1 : Int), .int .u64 (b2 : Int)] 24))) (g := (w.heap.size + 1)) (by simp <;> omega) 24 #[.int .u64 (c1 : Int), .int .u64 (c2 : Int)]).alloc (.cells #[.int .u64 0, .int .u64 0] 24)))
  have LR0 := Lib.hid (HasBlk.of (n := 2) (Blk.at (W := ((w.alloc (.cells #[.int .u64 (b1 : Int), .int .u64 (b2 : Int)] 24)).alloc (.cells #[.int .u64 (c1 : Int), .int .u64 (c2 : Int)] 24))) (g := (w.heap.size + 2)) (by simp <;> omega) 24 #[.int .u64 0, .int .u64 0]) rfl rfl)
  go_enter Tryz.func20, Tryz.ntmps20
  go_wp2_with fail
  refine (HR1.out _).mono ?_
  rintro e w1 ⟨rfl, hb1⟩
  have LB1 := Lib.hid (LB0.out.trans (hb1.mono LB0.out.size))
  have LR1 := Lib.hid (LR0.out.keep hb1)
  have LG0_1 := Lib.hid (LG0_0.out.keep hb1)
  have LG1_1 := Lib.hid (LG1_0.out.keep hb1)
  clear LB0 LR0 LG0_0 LG1_0
  clear hb1
  go_upto_region 2 with fail
  have hlt2 := LR1.out.lt
  have LB2 := Lib.hid (LB1.out.alloc LB1.out.size (.cells #[.int .u64 9218868437227405312, .int .u64 18442240474082181120] 24))
  have LR2 := Lib.hid (LR1.out.alloc (.cells #[.int .u64 9218868437227405312, .int .u64 18442240474082181120] 24))
  have LG0_2 := Lib.hid (LG0_1.out.alloc (.cells #[.int .u64 9218868437227405312, .int .u64 18442240474082181120] 24))
  have LG1_2 := Lib.hid (LG1_1.out.alloc (.cells #[.int .u64 9218868437227405312, .int .u64 18442240474082181120] 24))
  have LG2_2 := Lib.hid (Blk.new w1 24 #[.int .u64 9218868437227405312, .int .u64 18442240474082181120])
  clear LB1 LR1 LG0_1 LG1_1
  obtain ⟨V1, hV1⟩ : ∃ X, (w1.alloc (.cells #[.int .u64 9218868437227405312, .int .u64 18442240474082181120] 24)) = X := ⟨_, rfl⟩
  rw [hV1] at LB2 LR2 LG0_2 LG1_2 LG2_2 ⊢
  clear hV1
  have q1_0 : _ = some (.int .u64 (c1 : Int) : Value) := LG1_2.out.cell 0
  have q1_1 : _ = some (.int .u64 (c2 : Int) : Value) := LG1_2.out.cell 1
  go_wp2_with fail
  refine (HR2.out _).mono ?_
  rintro e w2 ⟨rfl, hb2⟩
  have LB3 := Lib.hid (LB2.out.trans (hb2.mono LB2.out.size))
  have LR3 := Lib.hid (LR2.out.keep hb2)
  have LG0_3 := Lib.hid (LG0_2.out.keep hb2)
  have LG1_3 := Lib.hid (LG1_2.out.keep hb2)
  have LG2_3 := Lib.hid (LG2_2.out.keep hb2)
  clear LB2 LR2 LG0_2 LG1_2 LG2_2
  clear hb2 q1_0 q1_1
  go_upto_region 3 with fail
  have hlt4 := LR3.out.lt
  have LB4 := Lib.hid (LB3.out.alloc LB3.out.size (.cells #[.int .u64 (P2 : Int), .int .u64 (Q2 : Int)] 24))
  have LR4 := Lib.hid (LR3.out.alloc (.cells #[.int .u64 (P2 : Int), .int .u64 (Q2 : Int)] 24))
  have LG0_4 := Lib.hid (LG0_3.out.alloc (.cells #[.int .u64 (P2 : Int), .int .u64 (Q2 : Int)] 24))
  have LG1_4 := Lib.hid (LG1_3.out.alloc (.cells #[.int .u64 (P2 : Int), .int .u64 (Q2 : Int)] 24))
  have LG2_4 := Lib.hid (LG2_3.out.alloc (.cells #[.int .u64 (P2 : Int), .int .u64 (Q2 : Int)] 24))
  have LG3_4 := Lib.hid (Blk.new w2 24 #[.int .u64 (P2 : Int), .int .u64 (Q2 : Int)])
  clear LB3 LR3 LG0_3 LG1_3 LG2_3
  obtain ⟨V2, hV2⟩ : ∃ X, (w2.alloc (.cells #[.int .u64 (P2 : Int), .int .u64 (Q2 : Int)] 24)) = X := ⟨_, rfl⟩
  rw [hV2] at LB4 LR4 LG0_4 LG1_4 LG2_4 LG3_4 ⊢
  clear hV2
  refine wp_region_held_drew (S := fun W' => Blk W' w.heap.size 24 #[.int .u64 (b1 : Int), .int .u64 (b2 : Int)] ∧ Blk W' (w.heap.size + 1) 24 #[.int .u64 (c1 : Int), .int .u64 (c2 : Int)] ∧ Blk W' w1.heap.size 24 #[.int .u64 9218868437227405312, .int .u64 18442240474082181120] ∧ Blk W' w2.heap.size 24 #[.int .u64 (P2 : Int), .int .u64 (Q2 : Int)] ∧ HasBlk W' (w.heap.size + 2) 24 2 ∧ Below w.heap.size w W') (by kernel_rfl) (by exact ⟨LG0_4.out.drew, LG1_4.out.drew, LG2_4.out.drew, LG3_4.out.drew, LR4.out.drew, LB4.out.drew⟩) (fun hHeld => ?_)
  refine wpAnyH_take (i := 0) (v := ?_) rfl (by kernel_rfl) (by kernel_rfl) (by kernel_rfl) (fun _ _ _ h => h) (Or.inl ⟨by rfl, ?_⟩) (by assumption) ?_
  rotate_left
  · (intro W2 hSw; (try dsimp only at hSw); have q0 : _ = some (.int .u64 9218868437227405312 : Value) := hSw.2.2.1.cell 0; have q1 : _ = some (.int .u64 18442240474082181120 : Value) := hSw.2.2.1.cell 1; go_simp; (try with_reducible rfl))
  try simp only [Act.put, List.getElem_toArray, List.getElem_cons_succ, List.getElem_cons_zero, List.setIfInBounds_toArray, List.set_cons_zero, List.set_cons_succ]
  refine wpAnyH_ready (rs := [1]) (by kernel_rfl) (by simp) ?_
  refine AllReadyH.cons rfl (fun KK hKK => ?_) AllReadyH.nil
  go_simp
  refine (HE.out _).mono ?_
  rintro e w3 ⟨rfl, hbA⟩
  go_wp2_with fail
  refine hKK.out _ _ (⟨hHeld.1.keep hbA, hHeld.2.1.keep hbA, hHeld.2.2.1.keep hbA, hHeld.2.2.2.1.keep hbA, hHeld.2.2.2.2.1.keep hbA, hHeld.2.2.2.2.2.trans (hbA.mono hHeld.2.2.2.2.2.size)⟩) (fun _ => ?_)
  clear hKK KK hHeld; rename_i hHeld
  try simp only [Act.put, List.getElem_toArray, List.getElem_cons_succ, List.getElem_cons_zero, List.setIfInBounds_toArray, List.set_cons_zero, List.set_cons_succ]
  refine wpAnyH_take (i := 2) (v := ?_) rfl (by kernel_rfl) (by kernel_rfl) (by kernel_rfl) (fun _ _ _ h => h) (Or.inl ⟨by rfl, ?_⟩) (by assumption) ?_
  rotate_left
  · (intro W2 hSw; go_simp; (try with_reducible rfl))
  try simp only [Act.put, List.getElem_toArray, List.getElem_cons_succ, List.getElem_cons_zero, List.setIfInBounds_toArray, List.set_cons_zero, List.set_cons_succ]
  refine wpAnyH_take (i := 3) (v := ?_) rfl (by kernel_rfl) (by kernel_rfl) (by kernel_rfl) (fun _ _ _ h => h) (Or.inl ⟨by rfl, ?_⟩) (by assumption) ?_
  rotate_left
  · (intro W2 hSw; go_simp; (try with_reducible rfl))
  try simp only [Act.put, List.getElem_toArray, List.getElem_cons_succ, List.getElem_cons_zero, List.setIfInBounds_toArray, List.set_cons_zero, List.set_cons_succ]
  refine wpAnyH_take (i := 4) (v := ?_) rfl (by kernel_rfl) (by kernel_rfl) (by kernel_rfl) (fun _ _ _ h => h) (Or.inl ⟨by rfl, ?_⟩) (by assumption) ?_
  rotate_left
  · (intro W2 hSw; (try dsimp only at hSw); have q0 : _ = some (.int .u64 (P2 : Int) : Value) := hSw.2.2.2.1.cell 0; have q1 : _ = some (.int .u64 (Q2 : Int) : Value) := hSw.2.2.2.1.cell 1; go_simp; (try with_reducible rfl))
  try simp only [Act.put, List.getElem_toArray, List.getElem_cons_succ, List.getElem_cons_zero, List.setIfInBounds_toArray, List.set_cons_zero, List.set_cons_succ]
  refine wpAnyH_ready (rs := [5]) (by kernel_rfl) (by simp) ?_
  refine AllReadyH.cons rfl (fun KK hKK => ?_) AllReadyH.nil
  go_simp
  refine (HE.out _).mono ?_
  rintro e w4 ⟨rfl, hbB⟩
  go_wp2_with fail
  refine hKK.out _ _ (⟨hHeld.1.keep hbB, hHeld.2.1.keep hbB, hHeld.2.2.1.keep hbB, hHeld.2.2.2.1.keep hbB, hHeld.2.2.2.2.1.keep hbB, hHeld.2.2.2.2.2.trans (hbB.mono hHeld.2.2.2.2.2.size)⟩) (fun _ => ?_)
  clear hKK KK hHeld; rename_i hHeld
  try simp only [Act.put, List.getElem_toArray, List.getElem_cons_succ, List.getElem_cons_zero, List.setIfInBounds_toArray, List.set_cons_zero, List.set_cons_succ]
  refine wpAnyH_take (i := 6) (v := ?_) rfl (by kernel_rfl) (by kernel_rfl) (by kernel_rfl) (fun _ _ _ h => h) (Or.inl ⟨by rfl, ?_⟩) (by assumption) ?_
  rotate_left
  · (intro W2 hSw; go_simp; (try with_reducible rfl))
  try simp only [Act.put, List.getElem_toArray, List.getElem_cons_succ, List.getElem_cons_zero, List.setIfInBounds_toArray, List.set_cons_zero, List.set_cons_succ]
  refine wpAnyH_take (i := 7) (v := ?_) rfl (by kernel_rfl) (by kernel_rfl) (by kernel_rfl) (fun _ _ _ h => h) (Or.inl ⟨by rfl, ?_⟩) (by assumption) ?_
  rotate_left
  · (intro W2 hSw; go_simp; (try with_reducible rfl))
  try simp only [Act.put, List.getElem_toArray, List.getElem_cons_succ, List.getElem_cons_zero, List.setIfInBounds_toArray, List.set_cons_zero, List.set_cons_succ]
  refine wpAnyH_take (i := 8) (v := ?_) rfl (by kernel_rfl) (by kernel_rfl) (by kernel_rfl) (fun _ _ _ h => h) (Or.inl ⟨by rfl, ?_⟩) (by assumption) ?_
  rotate_left
  · (intro W2 hSw; (try dsimp only at hSw); have q0 : _ = some (.int .u64 (P2 : Int) : Value) := hSw.2.2.2.1.cell 0; have q1 : _ = some (.int .u64 (Q2 : Int) : Value) := hSw.2.2.2.1.cell 1; go_simp; (try with_reducible rfl))
  try simp only [Act.put, List.getElem_toArray, List.getElem_cons_succ, List.getElem_cons_zero, List.setIfInBounds_toArray, List.set_cons_zero, List.set_cons_succ]
  refine wpAnyH_ready (rs := [9]) (by kernel_rfl) (by simp) ?_
  refine AllReadyH.cons rfl (fun KK hKK => ?_) AllReadyH.nil
  go_simp
  refine (KC2.out _).mono ?_
  rintro e w5 ⟨rfl, hbC⟩
  go_wp2_with fail
  refine hKK.out _ _ (⟨hHeld.1.keep hbC, hHeld.2.1.keep hbC, hHeld.2.2.1.keep hbC, hHeld.2.2.2.1.keep hbC, hHeld.2.2.2.2.1.keep hbC, hHeld.2.2.2.2.2.trans (hbC.mono hHeld.2.2.2.2.2.size)⟩) (fun _ => ?_)
  clear hKK KK hHeld; rename_i hHeld
  try simp only [Act.put, List.getElem_toArray, List.getElem_cons_succ, List.getElem_cons_zero, List.setIfInBounds_toArray, List.set_cons_zero, List.set_cons_succ]
  refine wpAnyH_take (i := 10) (v := ?_) rfl (by kernel_rfl) (by kernel_rfl) (by kernel_rfl) (fun _ _ _ h => h) (Or.inl ⟨by rfl, ?_⟩) (by assumption) ?_
  rotate_left
  · (intro W2 hSw; go_simp; (try with_reducible rfl))
  try simp only [Act.put, List.getElem_toArray, List.getElem_cons_succ, List.getElem_cons_zero, List.setIfInBounds_toArray, List.set_cons_zero, List.set_cons_succ]
  refine wpAnyH_take (i := 11) (v := ?_) rfl (by kernel_rfl) (by kernel_rfl) (by kernel_rfl) (fun _ _ _ h => h) (Or.inl ⟨by rfl, ?_⟩) (by assumption) ?_
  rotate_left
  · (intro W2 hSw; go_simp; (try with_reducible rfl))
  try simp only [Act.put, List.getElem_toArray, List.getElem_cons_succ, List.getElem_cons_zero, List.setIfInBounds_toArray, List.set_cons_zero, List.set_cons_succ]
  refine wpAnyH_done (by kernel_rfl) ?_ _
  clear LB4 LR4 LG0_4 LG1_4 LG2_4 LG3_4
  have LG0_5 := Lib.hid hHeld.1
  have LG1_5 := Lib.hid hHeld.2.1
  have LG2_5 := Lib.hid hHeld.2.2.1
  have LG3_5 := Lib.hid hHeld.2.2.2.1
  have LR5 := Lib.hid hHeld.2.2.2.2.1
  have LB5 := Lib.hid hHeld.2.2.2.2.2
  clear hHeld hbA hbB hbC hp2
  go_wp2_with fail
  refine (HE.out _).mono ?_
  rintro e w6 ⟨rfl, hb6⟩
  have LB6 := Lib.hid (LB5.out.trans (hb6.mono LB5.out.size))
  have LR6 := Lib.hid (LR5.out.keep hb6)
  have LG0_6 := Lib.hid (LG0_5.out.keep hb6)
  have LG1_6 := Lib.hid (LG1_5.out.keep hb6)
  have LG2_6 := Lib.hid (LG2_5.out.keep hb6)
  have LG3_6 := Lib.hid (LG3_5.out.keep hb6)
  clear LB5 LR5 LG0_5 LG1_5 LG2_5 LG3_5
  clear hb6
  have ha0 := LR6.out.someCell 0 (by decide)
  have hf0 := LR6.out.frozen 0
  have ha1 := LR6.out.someCell 1 (by decide)
  have hf1 := LR6.out.frozen 1
  have hk0 := LR6.out.setCell [.int .u64 9218868437227405312, .int .u64 18442240474082181120] rfl 0 (by decide)
  have hk1 := LR6.out.setCell [.int .u64 9218868437227405312, .int .u64 18442240474082181120] rfl 1 (by decide)
  have F := Lib.hid (below_sets (w0 := w) (r := (w.heap.size + 2)) (by omega) [.int .u64 9218868437227405312, .int .u64 18442240474082181120] 0 _ LB6.out)
  simp [sets] at hk0 hk1
  go_wp2
  refine bodyPost_ret (v := .agg #[.int .u64 9218868437227405312, .int .u64 18442240474082181120]) (by simp [results, Tryz.results20, go_sem, hk0, hk1]) rfl ?_
  exact ⟨rfl, F.out⟩

set_option maxHeartbeats 6400000 in
theorem cancel6_B0 (b1 b2 c1 c2 : Nat) (i1 j1 i2 j2 : Int) (w : World) (hb1 : b1 < 18446744073709551616) (hb2 : b2 < 18446744073709551616) (hc1 : c1 < 18446744073709551616) (hc2 : c2 < 18446744073709551616) (r1 : rd b1 b2 = (i1, j1)) (r2 : rd c1 c2 = (i2, j2)) (h1 : j1 < i1) (h2 : ¬ j2 < i2) (h3 : com i2 j2 = false) :
    Calls Tryz.prog 20 #[.agg #[.int .u64 (b1 : Int), .int .u64 (b2 : Int)], .agg #[.int .u64 (c1 : Int), .int .u64 (c2 : Int)]] w fun e w' => e = .returned (.agg #[.int .u64 (pat ((-(M : Int), (M : Int))).1 : Int), .int .u64 (pat ((-(M : Int), (M : Int))).2 : Int)]) ∧ Below w.heap.size w w' := by
  have v1 := rd_iv b1 b2
  have v2 := rd_iv c1 c2
  rw [r1] at v1
  rw [r2] at v2
  dsimp only at v1 v2
  have hM : M = 9218868437227405312 := rfl
  have t1 := fun W => read6 b1 b2 W hb1 hb2
  have t2 := fun W => read6 c1 c2 W hc1 hc2
  rw [r1] at t1
  rw [r2] at t2
  dsimp only at t1 t2
  have K1 := fun W => numbers_any i1 j1 W v1
  have K2 := fun W => numbers_any i2 j2 W v2
  have HE := Lib.hid empty6
  have HN := Lib.hid entire6
  have ec1 : com i1 j1 = false := decide_eq_false (by omega)
  rw [ec1] at K1
  obtain ⟨rfl, rfl⟩ : i1 = M ∧ j1 = -(M : Int) := by unfold Iv at v1; omega
  simp only [pat_max, pat_min] at t1 K1
  rw [h3] at K2
  have hp2 := pat_ne_max v2.lo.1 (show i2 < M by unfold Iv at v2; omega)
  dsimp only
  rw [pat_max, pat_min]
  obtain ⟨P2, hP2⟩ : ∃ z, pat i2 = z := ⟨_, rfl⟩
  obtain ⟨Q2, hQ2⟩ : ∃ z, pat j2 = z := ⟨_, rfl⟩
  rw [hP2, hQ2] at t2 K2
  rw [hP2] at hp2
  have KC1 := Lib.hid K1
  have KC2 := Lib.hid K2
  have HR1 := Lib.hid t1
  have HR2 := Lib.hid t2
  clear K1 K2 t1 t2 v1 v2 hM r1 r2 hb1 hb2 hc1 hc2 h1 hP2 hQ2 h2 h3 ec1
  have LB0 := Lib.hid (show Below w.heap.size w (((w.alloc (.cells #[.int .u64 (b1 : Int), .int .u64 (b2 : Int)] 24)).alloc (.cells #[.int .u64 (c1 : Int), .int .u64 (c2 : Int)] 24)).alloc (.cells #[.int .u64 0, .int .u64 0] 24)) from (((below_alloc w _).alloc (by simp <;> omega) _).alloc (by simp <;> omega) _))
  have LG0_0 := Lib.hid ((((Blk.at (W := w) (g := w.heap.size) (by simp <;> omega) 24 #[.int .u64 (b1 : Int), .int .u64 (b2 : Int)]).alloc (.cells #[.int .u64 (c1 : Int), .int .u64 (c2 : Int)] 24)).alloc (.cells #[.int .u64 0, .int .u64 0] 24)))
  have LG1_0 := Lib.hid (((Blk.at (W := (w.alloc (.cells #[.int .u64 (b1 : Int), .int .u64 (b2 : Int)] 24))) (g := (w.heap.size + 1)) (by simp <;> omega) 24 #[.int .u64 (c1 : Int), .int .u64 (c2 : Int)]).alloc (.cells #[.int .u64 0, .int .u64 0] 24)))
  have LR0 := Lib.hid (HasBlk.of (n := 2) (Blk.at (W := ((w.alloc (.cells #[.int .u64 (b1 : Int), .int .u64 (b2 : Int)] 24)).alloc (.cells #[.int .u64 (c1 : Int), .int .u64 (c2 : Int)] 24))) (g := (w.heap.size + 2)) (by simp <;> omega) 24 #[.int .u64 0, .int .u64 0]) rfl rfl)
  go_enter Tryz.func20, Tryz.ntmps20
  go_wp2_with fail
  refine (HR1.out _).mono ?_
  rintro e w1 ⟨rfl, hb1⟩
  have LB1 := Lib.hid (LB0.out.trans (hb1.mono LB0.out.size))
  have LR1 := Lib.hid (LR0.out.keep hb1)
  have LG0_1 := Lib.hid (LG0_0.out.keep hb1)
  have LG1_1 := Lib.hid (LG1_0.out.keep hb1)
  clear LB0 LR0 LG0_0 LG1_0
  clear hb1
  go_upto_region 2 with fail
  have hlt2 := LR1.out.lt
  have LB2 := Lib.hid (LB1.out.alloc LB1.out.size (.cells #[.int .u64 9218868437227405312, .int .u64 18442240474082181120] 24))
  have LR2 := Lib.hid (LR1.out.alloc (.cells #[.int .u64 9218868437227405312, .int .u64 18442240474082181120] 24))
  have LG0_2 := Lib.hid (LG0_1.out.alloc (.cells #[.int .u64 9218868437227405312, .int .u64 18442240474082181120] 24))
  have LG1_2 := Lib.hid (LG1_1.out.alloc (.cells #[.int .u64 9218868437227405312, .int .u64 18442240474082181120] 24))
  have LG2_2 := Lib.hid (Blk.new w1 24 #[.int .u64 9218868437227405312, .int .u64 18442240474082181120])
  clear LB1 LR1 LG0_1 LG1_1
  obtain ⟨V1, hV1⟩ : ∃ X, (w1.alloc (.cells #[.int .u64 9218868437227405312, .int .u64 18442240474082181120] 24)) = X := ⟨_, rfl⟩
  rw [hV1] at LB2 LR2 LG0_2 LG1_2 LG2_2 ⊢
  clear hV1
  have q1_0 : _ = some (.int .u64 (c1 : Int) : Value) := LG1_2.out.cell 0
  have q1_1 : _ = some (.int .u64 (c2 : Int) : Value) := LG1_2.out.cell 1
  go_wp2_with fail
  refine (HR2.out _).mono ?_
  rintro e w2 ⟨rfl, hb2⟩
  have LB3 := Lib.hid (LB2.out.trans (hb2.mono LB2.out.size))
  have LR3 := Lib.hid (LR2.out.keep hb2)
  have LG0_3 := Lib.hid (LG0_2.out.keep hb2)
  have LG1_3 := Lib.hid (LG1_2.out.keep hb2)
  have LG2_3 := Lib.hid (LG2_2.out.keep hb2)
  clear LB2 LR2 LG0_2 LG1_2 LG2_2
  clear hb2 q1_0 q1_1
  go_upto_region 3 with fail
  have hlt4 := LR3.out.lt
  have LB4 := Lib.hid (LB3.out.alloc LB3.out.size (.cells #[.int .u64 (P2 : Int), .int .u64 (Q2 : Int)] 24))
  have LR4 := Lib.hid (LR3.out.alloc (.cells #[.int .u64 (P2 : Int), .int .u64 (Q2 : Int)] 24))
  have LG0_4 := Lib.hid (LG0_3.out.alloc (.cells #[.int .u64 (P2 : Int), .int .u64 (Q2 : Int)] 24))
  have LG1_4 := Lib.hid (LG1_3.out.alloc (.cells #[.int .u64 (P2 : Int), .int .u64 (Q2 : Int)] 24))
  have LG2_4 := Lib.hid (LG2_3.out.alloc (.cells #[.int .u64 (P2 : Int), .int .u64 (Q2 : Int)] 24))
  have LG3_4 := Lib.hid (Blk.new w2 24 #[.int .u64 (P2 : Int), .int .u64 (Q2 : Int)])
  clear LB3 LR3 LG0_3 LG1_3 LG2_3
  obtain ⟨V2, hV2⟩ : ∃ X, (w2.alloc (.cells #[.int .u64 (P2 : Int), .int .u64 (Q2 : Int)] 24)) = X := ⟨_, rfl⟩
  rw [hV2] at LB4 LR4 LG0_4 LG1_4 LG2_4 LG3_4 ⊢
  clear hV2
  refine wp_region_held_drew (S := fun W' => Blk W' w.heap.size 24 #[.int .u64 (b1 : Int), .int .u64 (b2 : Int)] ∧ Blk W' (w.heap.size + 1) 24 #[.int .u64 (c1 : Int), .int .u64 (c2 : Int)] ∧ Blk W' w1.heap.size 24 #[.int .u64 9218868437227405312, .int .u64 18442240474082181120] ∧ Blk W' w2.heap.size 24 #[.int .u64 (P2 : Int), .int .u64 (Q2 : Int)] ∧ HasBlk W' (w.heap.size + 2) 24 2 ∧ Below w.heap.size w W') (by kernel_rfl) (by exact ⟨LG0_4.out.drew, LG1_4.out.drew, LG2_4.out.drew, LG3_4.out.drew, LR4.out.drew, LB4.out.drew⟩) (fun hHeld => ?_)
  refine wpAnyH_take (i := 0) (v := ?_) rfl (by kernel_rfl) (by kernel_rfl) (by kernel_rfl) (fun _ _ _ h => h) (Or.inl ⟨by rfl, ?_⟩) (by assumption) ?_
  rotate_left
  · (intro W2 hSw; (try dsimp only at hSw); have q0 : _ = some (.int .u64 9218868437227405312 : Value) := hSw.2.2.1.cell 0; have q1 : _ = some (.int .u64 18442240474082181120 : Value) := hSw.2.2.1.cell 1; go_simp; (try with_reducible rfl))
  try simp only [Act.put, List.getElem_toArray, List.getElem_cons_succ, List.getElem_cons_zero, List.setIfInBounds_toArray, List.set_cons_zero, List.set_cons_succ]
  refine wpAnyH_ready (rs := [1]) (by kernel_rfl) (by simp) ?_
  refine AllReadyH.cons rfl (fun KK hKK => ?_) AllReadyH.nil
  go_simp
  refine (HE.out _).mono ?_
  rintro e w3 ⟨rfl, hbA⟩
  go_wp2_with fail
  refine hKK.out _ _ (⟨hHeld.1.keep hbA, hHeld.2.1.keep hbA, hHeld.2.2.1.keep hbA, hHeld.2.2.2.1.keep hbA, hHeld.2.2.2.2.1.keep hbA, hHeld.2.2.2.2.2.trans (hbA.mono hHeld.2.2.2.2.2.size)⟩) (fun _ => ?_)
  clear hKK KK hHeld; rename_i hHeld
  try simp only [Act.put, List.getElem_toArray, List.getElem_cons_succ, List.getElem_cons_zero, List.setIfInBounds_toArray, List.set_cons_zero, List.set_cons_succ]
  refine wpAnyH_take (i := 2) (v := ?_) rfl (by kernel_rfl) (by kernel_rfl) (by kernel_rfl) (fun _ _ _ h => h) (Or.inl ⟨by rfl, ?_⟩) (by assumption) ?_
  rotate_left
  · (intro W2 hSw; go_simp; (try with_reducible rfl))
  try simp only [Act.put, List.getElem_toArray, List.getElem_cons_succ, List.getElem_cons_zero, List.setIfInBounds_toArray, List.set_cons_zero, List.set_cons_succ]
  refine wpAnyH_take (i := 3) (v := ?_) rfl (by kernel_rfl) (by kernel_rfl) (by kernel_rfl) (fun _ _ _ h => h) (Or.inl ⟨by rfl, ?_⟩) (by assumption) ?_
  rotate_left
  · (intro W2 hSw; go_simp; (try with_reducible rfl))
  try simp only [Act.put, List.getElem_toArray, List.getElem_cons_succ, List.getElem_cons_zero, List.setIfInBounds_toArray, List.set_cons_zero, List.set_cons_succ]
  refine wpAnyH_take (i := 4) (v := ?_) rfl (by kernel_rfl) (by kernel_rfl) (by kernel_rfl) (fun _ _ _ h => h) (Or.inl ⟨by rfl, ?_⟩) (by assumption) ?_
  rotate_left
  · (intro W2 hSw; (try dsimp only at hSw); have q0 : _ = some (.int .u64 (P2 : Int) : Value) := hSw.2.2.2.1.cell 0; have q1 : _ = some (.int .u64 (Q2 : Int) : Value) := hSw.2.2.2.1.cell 1; go_simp; (try with_reducible rfl))
  try simp only [Act.put, List.getElem_toArray, List.getElem_cons_succ, List.getElem_cons_zero, List.setIfInBounds_toArray, List.set_cons_zero, List.set_cons_succ]
  refine wpAnyH_ready (rs := [5]) (by kernel_rfl) (by simp) ?_
  refine AllReadyH.cons rfl (fun KK hKK => ?_) AllReadyH.nil
  go_simp
  refine (HE.out _).mono ?_
  rintro e w4 ⟨rfl, hbB⟩
  go_wp2_with fail
  refine hKK.out _ _ (⟨hHeld.1.keep hbB, hHeld.2.1.keep hbB, hHeld.2.2.1.keep hbB, hHeld.2.2.2.1.keep hbB, hHeld.2.2.2.2.1.keep hbB, hHeld.2.2.2.2.2.trans (hbB.mono hHeld.2.2.2.2.2.size)⟩) (fun _ => ?_)
  clear hKK KK hHeld; rename_i hHeld
  try simp only [Act.put, List.getElem_toArray, List.getElem_cons_succ, List.getElem_cons_zero, List.setIfInBounds_toArray, List.set_cons_zero, List.set_cons_succ]
  refine wpAnyH_take (i := 6) (v := ?_) rfl (by kernel_rfl) (by kernel_rfl) (by kernel_rfl) (fun _ _ _ h => h) (Or.inl ⟨by rfl, ?_⟩) (by assumption) ?_
  rotate_left
  · (intro W2 hSw; go_simp; (try with_reducible rfl))
  try simp only [Act.put, List.getElem_toArray, List.getElem_cons_succ, List.getElem_cons_zero, List.setIfInBounds_toArray, List.set_cons_zero, List.set_cons_succ]
  refine wpAnyH_take (i := 7) (v := ?_) rfl (by kernel_rfl) (by kernel_rfl) (by kernel_rfl) (fun _ _ _ h => h) (Or.inl ⟨by rfl, ?_⟩) (by assumption) ?_
  rotate_left
  · (intro W2 hSw; go_simp; (try with_reducible rfl))
  try simp only [Act.put, List.getElem_toArray, List.getElem_cons_succ, List.getElem_cons_zero, List.setIfInBounds_toArray, List.set_cons_zero, List.set_cons_succ]
  refine wpAnyH_take (i := 8) (v := ?_) rfl (by kernel_rfl) (by kernel_rfl) (by kernel_rfl) (fun _ _ _ h => h) (Or.inl ⟨by rfl, ?_⟩) (by assumption) ?_
  rotate_left
  · (intro W2 hSw; (try dsimp only at hSw); have q0 : _ = some (.int .u64 (P2 : Int) : Value) := hSw.2.2.2.1.cell 0; have q1 : _ = some (.int .u64 (Q2 : Int) : Value) := hSw.2.2.2.1.cell 1; go_simp; (try with_reducible rfl))
  try simp only [Act.put, List.getElem_toArray, List.getElem_cons_succ, List.getElem_cons_zero, List.setIfInBounds_toArray, List.set_cons_zero, List.set_cons_succ]
  refine wpAnyH_ready (rs := [9]) (by kernel_rfl) (by simp) ?_
  refine AllReadyH.cons rfl (fun KK hKK => ?_) AllReadyH.nil
  go_simp
  refine (KC2.out _).mono ?_
  rintro e w5 ⟨rfl, hbC⟩
  go_wp2_with fail
  refine hKK.out _ _ (⟨hHeld.1.keep hbC, hHeld.2.1.keep hbC, hHeld.2.2.1.keep hbC, hHeld.2.2.2.1.keep hbC, hHeld.2.2.2.2.1.keep hbC, hHeld.2.2.2.2.2.trans (hbC.mono hHeld.2.2.2.2.2.size)⟩) (fun _ => ?_)
  clear hKK KK hHeld; rename_i hHeld
  try simp only [Act.put, List.getElem_toArray, List.getElem_cons_succ, List.getElem_cons_zero, List.setIfInBounds_toArray, List.set_cons_zero, List.set_cons_succ]
  refine wpAnyH_take (i := 10) (v := ?_) rfl (by kernel_rfl) (by kernel_rfl) (by kernel_rfl) (fun _ _ _ h => h) (Or.inl ⟨by rfl, ?_⟩) (by assumption) ?_
  rotate_left
  · (intro W2 hSw; go_simp; (try with_reducible rfl))
  try simp only [Act.put, List.getElem_toArray, List.getElem_cons_succ, List.getElem_cons_zero, List.setIfInBounds_toArray, List.set_cons_zero, List.set_cons_succ]
  refine wpAnyH_take (i := 11) (v := ?_) rfl (by kernel_rfl) (by kernel_rfl) (by kernel_rfl) (fun _ _ _ h => h) (Or.inl ⟨by rfl, ?_⟩) (by assumption) ?_
  rotate_left
  · (intro W2 hSw; go_simp; (try with_reducible rfl))
  try simp only [Act.put, List.getElem_toArray, List.getElem_cons_succ, List.getElem_cons_zero, List.setIfInBounds_toArray, List.set_cons_zero, List.set_cons_succ]
  refine wpAnyH_done (by kernel_rfl) ?_ _
  clear LB4 LR4 LG0_4 LG1_4 LG2_4 LG3_4
  have LG0_5 := Lib.hid hHeld.1
  have LG1_5 := Lib.hid hHeld.2.1
  have LG2_5 := Lib.hid hHeld.2.2.1
  have LG3_5 := Lib.hid hHeld.2.2.2.1
  have LR5 := Lib.hid hHeld.2.2.2.2.1
  have LB5 := Lib.hid hHeld.2.2.2.2.2
  clear hHeld hbA hbB hbC hp2
  have q2_0 : _ = some (.int .u64 9218868437227405312 : Value) := LG2_5.out.cell 0
  have q2_1 : _ = some (.int .u64 18442240474082181120 : Value) := LG2_5.out.cell 1
  have q3_0 : _ = some (.int .u64 (P2 : Int) : Value) := LG3_5.out.cell 0
  have q3_1 : _ = some (.int .u64 (Q2 : Int) : Value) := LG3_5.out.cell 1
  go_wp2_with fail
  refine (KC1.out _).mono ?_
  rintro e w6 ⟨rfl, hb6⟩
  have LB6 := Lib.hid (LB5.out.trans (hb6.mono LB5.out.size))
  have LR6 := Lib.hid (LR5.out.keep hb6)
  have LG0_6 := Lib.hid (LG0_5.out.keep hb6)
  have LG1_6 := Lib.hid (LG1_5.out.keep hb6)
  have LG2_6 := Lib.hid (LG2_5.out.keep hb6)
  have LG3_6 := Lib.hid (LG3_5.out.keep hb6)
  clear LB5 LR5 LG0_5 LG1_5 LG2_5 LG3_5
  clear hb6 q2_0 q2_1 q3_0 q3_1
  have q2_0 : _ = some (.int .u64 9218868437227405312 : Value) := LG2_6.out.cell 0
  have q2_1 : _ = some (.int .u64 18442240474082181120 : Value) := LG2_6.out.cell 1
  have q3_0 : _ = some (.int .u64 (P2 : Int) : Value) := LG3_6.out.cell 0
  have q3_1 : _ = some (.int .u64 (Q2 : Int) : Value) := LG3_6.out.cell 1
  go_wp2_with fail
  refine (HN.out _).mono ?_
  rintro e w8 ⟨rfl, hb8⟩
  have LB7 := Lib.hid (LB6.out.trans (hb8.mono LB6.out.size))
  have LR7 := Lib.hid (LR6.out.keep hb8)
  have LG0_7 := Lib.hid (LG0_6.out.keep hb8)
  have LG1_7 := Lib.hid (LG1_6.out.keep hb8)
  have LG2_7 := Lib.hid (LG2_6.out.keep hb8)
  have LG3_7 := Lib.hid (LG3_6.out.keep hb8)
  clear LB6 LR6 LG0_6 LG1_6 LG2_6 LG3_6
  clear hb8 q2_0 q2_1 q3_0 q3_1
  have ha0 := LR7.out.someCell 0 (by decide)
  have hf0 := LR7.out.frozen 0
  have ha1 := LR7.out.someCell 1 (by decide)
  have hf1 := LR7.out.frozen 1
  have hk0 := LR7.out.setCell [.int .u64 18442240474082181120, .int .u64 9218868437227405312] rfl 0 (by decide)
  have hk1 := LR7.out.setCell [.int .u64 18442240474082181120, .int .u64 9218868437227405312] rfl 1 (by decide)
  have F := Lib.hid (below_sets (w0 := w) (r := (w.heap.size + 2)) (by omega) [.int .u64 18442240474082181120, .int .u64 9218868437227405312] 0 _ LB7.out)
  simp [sets] at hk0 hk1
  go_wp2
  refine bodyPost_ret (v := .agg #[.int .u64 18442240474082181120, .int .u64 9218868437227405312]) (by simp [results, Tryz.results20, go_sem, hk0, hk1]) rfl ?_
  exact ⟨rfl, F.out⟩

set_option maxHeartbeats 6400000 in
theorem cancel6_B1 (b1 b2 c1 c2 : Nat) (i1 j1 i2 j2 : Int) (w : World) (hb1 : b1 < 18446744073709551616) (hb2 : b2 < 18446744073709551616) (hc1 : c1 < 18446744073709551616) (hc2 : c2 < 18446744073709551616) (r1 : rd b1 b2 = (i1, j1)) (r2 : rd c1 c2 = (i2, j2)) (h1 : ¬ j1 < i1) (h3 : com i1 j1 = false) :
    Calls Tryz.prog 20 #[.agg #[.int .u64 (b1 : Int), .int .u64 (b2 : Int)], .agg #[.int .u64 (c1 : Int), .int .u64 (c2 : Int)]] w fun e w' => e = .returned (.agg #[.int .u64 (pat ((-(M : Int), (M : Int))).1 : Int), .int .u64 (pat ((-(M : Int), (M : Int))).2 : Int)]) ∧ Below w.heap.size w w' := by
  have v1 := rd_iv b1 b2
  have v2 := rd_iv c1 c2
  rw [r1] at v1
  rw [r2] at v2
  dsimp only at v1 v2
  have hM : M = 9218868437227405312 := rfl
  have t1 := fun W => read6 b1 b2 W hb1 hb2
  have t2 := fun W => read6 c1 c2 W hc1 hc2
  rw [r1] at t1
  rw [r2] at t2
  dsimp only at t1 t2
  have K1 := fun W => numbers_any i1 j1 W v1
  have K2 := fun W => numbers_any i2 j2 W v2
  have HE := Lib.hid empty6
  have HN := Lib.hid entire6
  rw [h3] at K1
  have hp1 := pat_ne_max v1.lo.1 (show i1 < M by unfold Iv at v1; omega)
  dsimp only
  rw [pat_max, pat_min]
  obtain ⟨P1, hP1⟩ : ∃ z, pat i1 = z := ⟨_, rfl⟩
  obtain ⟨Q1, hQ1⟩ : ∃ z, pat j1 = z := ⟨_, rfl⟩
  obtain ⟨P2, hP2⟩ : ∃ z, pat i2 = z := ⟨_, rfl⟩
  obtain ⟨Q2, hQ2⟩ : ∃ z, pat j2 = z := ⟨_, rfl⟩
  rw [hP1, hQ1] at t1 K1
  rw [hP2, hQ2] at t2 K2
  rw [hP1] at hp1
  have KC1 := Lib.hid K1
  have KC2 := Lib.hid K2
  have HR1 := Lib.hid t1
  have HR2 := Lib.hid t2
  clear K1 K2 t1 t2 v1 v2 hM r1 r2 hb1 hb2 hc1 hc2 h1 hP1 hQ1 hP2 hQ2 h3
  have LB0 := Lib.hid (show Below w.heap.size w (((w.alloc (.cells #[.int .u64 (b1 : Int), .int .u64 (b2 : Int)] 24)).alloc (.cells #[.int .u64 (c1 : Int), .int .u64 (c2 : Int)] 24)).alloc (.cells #[.int .u64 0, .int .u64 0] 24)) from (((below_alloc w _).alloc (by simp <;> omega) _).alloc (by simp <;> omega) _))
  have LG0_0 := Lib.hid ((((Blk.at (W := w) (g := w.heap.size) (by simp <;> omega) 24 #[.int .u64 (b1 : Int), .int .u64 (b2 : Int)]).alloc (.cells #[.int .u64 (c1 : Int), .int .u64 (c2 : Int)] 24)).alloc (.cells #[.int .u64 0, .int .u64 0] 24)))
  have LG1_0 := Lib.hid (((Blk.at (W := (w.alloc (.cells #[.int .u64 (b1 : Int), .int .u64 (b2 : Int)] 24))) (g := (w.heap.size + 1)) (by simp <;> omega) 24 #[.int .u64 (c1 : Int), .int .u64 (c2 : Int)]).alloc (.cells #[.int .u64 0, .int .u64 0] 24)))
  have LR0 := Lib.hid (HasBlk.of (n := 2) (Blk.at (W := ((w.alloc (.cells #[.int .u64 (b1 : Int), .int .u64 (b2 : Int)] 24)).alloc (.cells #[.int .u64 (c1 : Int), .int .u64 (c2 : Int)] 24))) (g := (w.heap.size + 2)) (by simp <;> omega) 24 #[.int .u64 0, .int .u64 0]) rfl rfl)
  go_enter Tryz.func20, Tryz.ntmps20
  go_wp2_with fail
  refine (HR1.out _).mono ?_
  rintro e w1 ⟨rfl, hb1⟩
  have LB1 := Lib.hid (LB0.out.trans (hb1.mono LB0.out.size))
  have LR1 := Lib.hid (LR0.out.keep hb1)
  have LG0_1 := Lib.hid (LG0_0.out.keep hb1)
  have LG1_1 := Lib.hid (LG1_0.out.keep hb1)
  clear LB0 LR0 LG0_0 LG1_0
  clear hb1
  go_upto_region 2 with fail
  have hlt2 := LR1.out.lt
  have LB2 := Lib.hid (LB1.out.alloc LB1.out.size (.cells #[.int .u64 (P1 : Int), .int .u64 (Q1 : Int)] 24))
  have LR2 := Lib.hid (LR1.out.alloc (.cells #[.int .u64 (P1 : Int), .int .u64 (Q1 : Int)] 24))
  have LG0_2 := Lib.hid (LG0_1.out.alloc (.cells #[.int .u64 (P1 : Int), .int .u64 (Q1 : Int)] 24))
  have LG1_2 := Lib.hid (LG1_1.out.alloc (.cells #[.int .u64 (P1 : Int), .int .u64 (Q1 : Int)] 24))
  have LG2_2 := Lib.hid (Blk.new w1 24 #[.int .u64 (P1 : Int), .int .u64 (Q1 : Int)])
  clear LB1 LR1 LG0_1 LG1_1
  obtain ⟨V1, hV1⟩ : ∃ X, (w1.alloc (.cells #[.int .u64 (P1 : Int), .int .u64 (Q1 : Int)] 24)) = X := ⟨_, rfl⟩
  rw [hV1] at LB2 LR2 LG0_2 LG1_2 LG2_2 ⊢
  clear hV1
  have q1_0 : _ = some (.int .u64 (c1 : Int) : Value) := LG1_2.out.cell 0
  have q1_1 : _ = some (.int .u64 (c2 : Int) : Value) := LG1_2.out.cell 1
  go_wp2_with fail
  refine (HR2.out _).mono ?_
  rintro e w2 ⟨rfl, hb2⟩
  have LB3 := Lib.hid (LB2.out.trans (hb2.mono LB2.out.size))
  have LR3 := Lib.hid (LR2.out.keep hb2)
  have LG0_3 := Lib.hid (LG0_2.out.keep hb2)
  have LG1_3 := Lib.hid (LG1_2.out.keep hb2)
  have LG2_3 := Lib.hid (LG2_2.out.keep hb2)
  clear LB2 LR2 LG0_2 LG1_2 LG2_2
  clear hb2 q1_0 q1_1
  go_upto_region 3 with fail
  have hlt4 := LR3.out.lt
  have LB4 := Lib.hid (LB3.out.alloc LB3.out.size (.cells #[.int .u64 (P2 : Int), .int .u64 (Q2 : Int)] 24))
  have LR4 := Lib.hid (LR3.out.alloc (.cells #[.int .u64 (P2 : Int), .int .u64 (Q2 : Int)] 24))
  have LG0_4 := Lib.hid (LG0_3.out.alloc (.cells #[.int .u64 (P2 : Int), .int .u64 (Q2 : Int)] 24))
  have LG1_4 := Lib.hid (LG1_3.out.alloc (.cells #[.int .u64 (P2 : Int), .int .u64 (Q2 : Int)] 24))
  have LG2_4 := Lib.hid (LG2_3.out.alloc (.cells #[.int .u64 (P2 : Int), .int .u64 (Q2 : Int)] 24))
  have LG3_4 := Lib.hid (Blk.new w2 24 #[.int .u64 (P2 : Int), .int .u64 (Q2 : Int)])
  clear LB3 LR3 LG0_3 LG1_3 LG2_3
  obtain ⟨V2, hV2⟩ : ∃ X, (w2.alloc (.cells #[.int .u64 (P2 : Int), .int .u64 (Q2 : Int)] 24)) = X := ⟨_, rfl⟩
  rw [hV2] at LB4 LR4 LG0_4 LG1_4 LG2_4 LG3_4 ⊢
  clear hV2
  refine wp_region_held_drew (S := fun W' => Blk W' w.heap.size 24 #[.int .u64 (b1 : Int), .int .u64 (b2 : Int)] ∧ Blk W' (w.heap.size + 1) 24 #[.int .u64 (c1 : Int), .int .u64 (c2 : Int)] ∧ Blk W' w1.heap.size 24 #[.int .u64 (P1 : Int), .int .u64 (Q1 : Int)] ∧ Blk W' w2.heap.size 24 #[.int .u64 (P2 : Int), .int .u64 (Q2 : Int)] ∧ HasBlk W' (w.heap.size + 2) 24 2 ∧ Below w.heap.size w W') (by kernel_rfl) (by exact ⟨LG0_4.out.drew, LG1_4.out.drew, LG2_4.out.drew, LG3_4.out.drew, LR4.out.drew, LB4.out.drew⟩) (fun hHeld => ?_)
  refine wpAnyH_take (i := 0) (v := ?_) rfl (by kernel_rfl) (by kernel_rfl) (by kernel_rfl) (fun _ _ _ h => h) (Or.inl ⟨by rfl, ?_⟩) (by assumption) ?_
  rotate_left
  · (intro W2 hSw; (try dsimp only at hSw); have q0 : _ = some (.int .u64 (P1 : Int) : Value) := hSw.2.2.1.cell 0; have q1 : _ = some (.int .u64 (Q1 : Int) : Value) := hSw.2.2.1.cell 1; go_simp; (try with_reducible rfl))
  try simp only [Act.put, List.getElem_toArray, List.getElem_cons_succ, List.getElem_cons_zero, List.setIfInBounds_toArray, List.set_cons_zero, List.set_cons_succ]
  refine wpAnyH_ready (rs := [1]) (by kernel_rfl) (by simp) ?_
  refine AllReadyH.cons rfl (fun KK hKK => ?_) AllReadyH.nil
  go_simp
  refine (HE.out _).mono ?_
  rintro e w3 ⟨rfl, hbA⟩
  go_wp2_with fail
  refine hKK.out _ _ (⟨hHeld.1.keep hbA, hHeld.2.1.keep hbA, hHeld.2.2.1.keep hbA, hHeld.2.2.2.1.keep hbA, hHeld.2.2.2.2.1.keep hbA, hHeld.2.2.2.2.2.trans (hbA.mono hHeld.2.2.2.2.2.size)⟩) (fun _ => ?_)
  clear hKK KK hHeld; rename_i hHeld
  try simp only [Act.put, List.getElem_toArray, List.getElem_cons_succ, List.getElem_cons_zero, List.setIfInBounds_toArray, List.set_cons_zero, List.set_cons_succ]
  refine wpAnyH_take (i := 2) (v := ?_) rfl (by kernel_rfl) (by kernel_rfl) (by kernel_rfl) (fun _ _ _ h => h) (Or.inl ⟨by rfl, ?_⟩) (by assumption) ?_
  rotate_left
  · (intro W2 hSw; go_simp; (try with_reducible rfl))
  try simp only [Act.put, List.getElem_toArray, List.getElem_cons_succ, List.getElem_cons_zero, List.setIfInBounds_toArray, List.set_cons_zero, List.set_cons_succ]
  refine wpAnyH_take (i := 3) (v := ?_) rfl (by kernel_rfl) (by kernel_rfl) (by kernel_rfl) (fun _ _ _ h => h) (Or.inl ⟨by rfl, ?_⟩) (by assumption) ?_
  rotate_left
  · (intro W2 hSw; go_simp; (try with_reducible rfl))
  try simp only [Act.put, List.getElem_toArray, List.getElem_cons_succ, List.getElem_cons_zero, List.setIfInBounds_toArray, List.set_cons_zero, List.set_cons_succ]
  refine wpAnyH_take (i := 4) (v := undef) rfl (by kernel_rfl) (by kernel_rfl) (by kernel_rfl) (fun _ _ _ h => h) (Or.inr ⟨by rfl, rfl⟩) (by assumption) ?_
  try simp only [Act.put, List.getElem_toArray, List.getElem_cons_succ, List.getElem_cons_zero, List.setIfInBounds_toArray, List.set_cons_zero, List.set_cons_succ]
  refine wpAnyH_take (i := 5) (v := undef) rfl (by kernel_rfl) (by kernel_rfl) (by kernel_rfl) (fun _ _ _ h => h) (Or.inr ⟨by rfl, rfl⟩) (by assumption) ?_
  try simp only [Act.put, List.getElem_toArray, List.getElem_cons_succ, List.getElem_cons_zero, List.setIfInBounds_toArray, List.set_cons_zero, List.set_cons_succ]
  refine wpAnyH_take (i := 6) (v := undef) rfl (by kernel_rfl) (by kernel_rfl) (by kernel_rfl) (fun _ _ _ h => h) (Or.inr ⟨by rfl, rfl⟩) (by assumption) ?_
  try simp only [Act.put, List.getElem_toArray, List.getElem_cons_succ, List.getElem_cons_zero, List.setIfInBounds_toArray, List.set_cons_zero, List.set_cons_succ]
  refine wpAnyH_take (i := 7) (v := undef) rfl (by kernel_rfl) (by kernel_rfl) (by kernel_rfl) (fun _ _ _ h => h) (Or.inr ⟨by rfl, rfl⟩) (by assumption) ?_
  try simp only [Act.put, List.getElem_toArray, List.getElem_cons_succ, List.getElem_cons_zero, List.setIfInBounds_toArray, List.set_cons_zero, List.set_cons_succ]
  refine wpAnyH_take (i := 8) (v := undef) rfl (by kernel_rfl) (by kernel_rfl) (by kernel_rfl) (fun _ _ _ h => h) (Or.inr ⟨by rfl, rfl⟩) (by assumption) ?_
  try simp only [Act.put, List.getElem_toArray, List.getElem_cons_succ, List.getElem_cons_zero, List.setIfInBounds_toArray, List.set_cons_zero, List.set_cons_succ]
  refine wpAnyH_take (i := 9) (v := undef) rfl (by kernel_rfl) (by kernel_rfl) (by kernel_rfl) (fun _ _ _ h => h) (Or.inr ⟨by rfl, rfl⟩) (by assumption) ?_
  try simp only [Act.put, List.getElem_toArray, List.getElem_cons_succ, List.getElem_cons_zero, List.setIfInBounds_toArray, List.set_cons_zero, List.set_cons_succ]
  refine wpAnyH_take (i := 10) (v := undef) rfl (by kernel_rfl) (by kernel_rfl) (by kernel_rfl) (fun _ _ _ h => h) (Or.inr ⟨by rfl, rfl⟩) (by assumption) ?_
  try simp only [Act.put, List.getElem_toArray, List.getElem_cons_succ, List.getElem_cons_zero, List.setIfInBounds_toArray, List.set_cons_zero, List.set_cons_succ]
  refine wpAnyH_take (i := 11) (v := ?_) rfl (by kernel_rfl) (by kernel_rfl) (by kernel_rfl) (fun _ _ _ h => h) (Or.inl ⟨by rfl, ?_⟩) (by assumption) ?_
  rotate_left
  · (intro W2 hSw; go_simp; (try with_reducible rfl))
  try simp only [Act.put, List.getElem_toArray, List.getElem_cons_succ, List.getElem_cons_zero, List.setIfInBounds_toArray, List.set_cons_zero, List.set_cons_succ]
  refine wpAnyH_done (by kernel_rfl) ?_ _
  clear LB4 LR4 LG0_4 LG1_4 LG2_4 LG3_4
  have LG0_5 := Lib.hid hHeld.1
  have LG1_5 := Lib.hid hHeld.2.1
  have LG2_5 := Lib.hid hHeld.2.2.1
  have LG3_5 := Lib.hid hHeld.2.2.2.1
  have LR5 := Lib.hid hHeld.2.2.2.2.1
  have LB5 := Lib.hid hHeld.2.2.2.2.2
  clear hHeld hbA hp1
  have q2_0 : _ = some (.int .u64 (P1 : Int) : Value) := LG2_5.out.cell 0
  have q2_1 : _ = some (.int .u64 (Q1 : Int) : Value) := LG2_5.out.cell 1
  have q3_0 : _ = some (.int .u64 (P2 : Int) : Value) := LG3_5.out.cell 0
  have q3_1 : _ = some (.int .u64 (Q2 : Int) : Value) := LG3_5.out.cell 1
  go_wp2_with fail
  refine (KC1.out _).mono ?_
  rintro e w6 ⟨rfl, hb6⟩
  have LB6 := Lib.hid (LB5.out.trans (hb6.mono LB5.out.size))
  have LR6 := Lib.hid (LR5.out.keep hb6)
  have LG0_6 := Lib.hid (LG0_5.out.keep hb6)
  have LG1_6 := Lib.hid (LG1_5.out.keep hb6)
  have LG2_6 := Lib.hid (LG2_5.out.keep hb6)
  have LG3_6 := Lib.hid (LG3_5.out.keep hb6)
  clear LB5 LR5 LG0_5 LG1_5 LG2_5 LG3_5
  clear hb6 q2_0 q2_1 q3_0 q3_1
  have q2_0 : _ = some (.int .u64 (P1 : Int) : Value) := LG2_6.out.cell 0
  have q2_1 : _ = some (.int .u64 (Q1 : Int) : Value) := LG2_6.out.cell 1
  have q3_0 : _ = some (.int .u64 (P2 : Int) : Value) := LG3_6.out.cell 0
  have q3_1 : _ = some (.int .u64 (Q2 : Int) : Value) := LG3_6.out.cell 1
  go_wp2_with fail
  refine (HN.out _).mono ?_
  rintro e w8 ⟨rfl, hb8⟩
  have LB7 := Lib.hid (LB6.out.trans (hb8.mono LB6.out.size))
  have LR7 := Lib.hid (LR6.out.keep hb8)
  have LG0_7 := Lib.hid (LG0_6.out.keep hb8)
  have LG1_7 := Lib.hid (LG1_6.out.keep hb8)
  have LG2_7 := Lib.hid (LG2_6.out.keep hb8)
  have LG3_7 := Lib.hid (LG3_6.out.keep hb8)
  clear LB6 LR6 LG0_6 LG1_6 LG2_6 LG3_6
  clear hb8 q2_0 q2_1 q3_0 q3_1
  have ha0 := LR7.out.someCell 0 (by decide)
  have hf0 := LR7.out.frozen 0
  have ha1 := LR7.out.someCell 1 (by decide)
  have hf1 := LR7.out.frozen 1
  have hk0 := LR7.out.setCell [.int .u64 18442240474082181120, .int .u64 9218868437227405312] rfl 0 (by decide)
  have hk1 := LR7.out.setCell [.int .u64 18442240474082181120, .int .u64 9218868437227405312] rfl 1 (by decide)
  have F := Lib.hid (below_sets (w0 := w) (r := (w.heap.size + 2)) (by omega) [.int .u64 18442240474082181120, .int .u64 9218868437227405312] 0 _ LB7.out)
  simp [sets] at hk0 hk1
  go_wp2
  refine bodyPost_ret (v := .agg #[.int .u64 18442240474082181120, .int .u64 9218868437227405312]) (by simp [results, Tryz.results20, go_sem, hk0, hk1]) rfl ?_
  exact ⟨rfl, F.out⟩

set_option maxHeartbeats 6400000 in
theorem cancel6_B2 (b1 b2 c1 c2 : Nat) (i1 j1 i2 j2 : Int) (w : World) (hb1 : b1 < 18446744073709551616) (hb2 : b2 < 18446744073709551616) (hc1 : c1 < 18446744073709551616) (hc2 : c2 < 18446744073709551616) (r1 : rd b1 b2 = (i1, j1)) (r2 : rd c1 c2 = (i2, j2)) (h1 : com i1 j1 = true) (h3 : com i2 j2 = false) :
    Calls Tryz.prog 20 #[.agg #[.int .u64 (b1 : Int), .int .u64 (b2 : Int)], .agg #[.int .u64 (c1 : Int), .int .u64 (c2 : Int)]] w fun e w' => e = .returned (.agg #[.int .u64 (pat ((-(M : Int), (M : Int))).1 : Int), .int .u64 (pat ((-(M : Int), (M : Int))).2 : Int)]) ∧ Below w.heap.size w w' := by
  have v1 := rd_iv b1 b2
  have v2 := rd_iv c1 c2
  rw [r1] at v1
  rw [r2] at v2
  dsimp only at v1 v2
  have hM : M = 9218868437227405312 := rfl
  have t1 := fun W => read6 b1 b2 W hb1 hb2
  have t2 := fun W => read6 c1 c2 W hc1 hc2
  rw [r1] at t1
  rw [r2] at t2
  dsimp only at t1 t2
  have K1 := fun W => numbers_any i1 j1 W v1
  have K2 := fun W => numbers_any i2 j2 W v2
  have HE := Lib.hid empty6
  have HN := Lib.hid entire6
  have h4 := of_decide_eq_true h1
  rw [h1] at K1
  have hp1 := pat_ne_max v1.lo.1 (by omega)
  rw [h3] at K2
  dsimp only
  rw [pat_max, pat_min]
  obtain ⟨P1, hP1⟩ : ∃ z, pat i1 = z := ⟨_, rfl⟩
  obtain ⟨Q1, hQ1⟩ : ∃ z, pat j1 = z := ⟨_, rfl⟩
  obtain ⟨P2, hP2⟩ : ∃ z, pat i2 = z := ⟨_, rfl⟩
  obtain ⟨Q2, hQ2⟩ : ∃ z, pat j2 = z := ⟨_, rfl⟩
  rw [hP1, hQ1] at t1 K1
  rw [hP2, hQ2] at t2 K2
  rw [hP1] at hp1
  have KC1 := Lib.hid K1
  have KC2 := Lib.hid K2
  have HR1 := Lib.hid t1
  have HR2 := Lib.hid t2
  clear K1 K2 t1 t2 v1 v2 hM r1 r2 hb1 hb2 hc1 hc2 h1 hP1 hQ1 hP2 hQ2 h3 h4
  have LB0 := Lib.hid (show Below w.heap.size w (((w.alloc (.cells #[.int .u64 (b1 : Int), .int .u64 (b2 : Int)] 24)).alloc (.cells #[.int .u64 (c1 : Int), .int .u64 (c2 : Int)] 24)).alloc (.cells #[.int .u64 0, .int .u64 0] 24)) from (((below_alloc w _).alloc (by simp <;> omega) _).alloc (by simp <;> omega) _))
  have LG0_0 := Lib.hid ((((Blk.at (W := w) (g := w.heap.size) (by simp <;> omega) 24 #[.int .u64 (b1 : Int), .int .u64 (b2 : Int)]).alloc (.cells #[.int .u64 (c1 : Int), .int .u64 (c2 : Int)] 24)).alloc (.cells #[.int .u64 0, .int .u64 0] 24)))
  have LG1_0 := Lib.hid (((Blk.at (W := (w.alloc (.cells #[.int .u64 (b1 : Int), .int .u64 (b2 : Int)] 24))) (g := (w.heap.size + 1)) (by simp <;> omega) 24 #[.int .u64 (c1 : Int), .int .u64 (c2 : Int)]).alloc (.cells #[.int .u64 0, .int .u64 0] 24)))
  have LR0 := Lib.hid (HasBlk.of (n := 2) (Blk.at (W := ((w.alloc (.cells #[.int .u64 (b1 : Int), .int .u64 (b2 : Int)] 24)).alloc (.cells #[.int .u64 (c1 : Int), .int .u64 (c2 : Int)] 24))) (g := (w.heap.size + 2)) (by simp <;> omega) 24 #[.int .u64 0, .int .u64 0]) rfl rfl)
  go_enter Tryz.func20, Tryz.ntmps20
  go_wp2_with fail
  refine (HR1.out _).mono ?_
  rintro e w1 ⟨rfl, hb1⟩
  have LB1 := Lib.hid (LB0.out.trans (hb1.mono LB0.out.size))
  have LR1 := Lib.hid (LR0.out.keep hb1)
  have LG0_1 := Lib.hid (LG0_0.out.keep hb1)
  have LG1_1 := Lib.hid (LG1_0.out.keep hb1)
  clear LB0 LR0 LG0_0 LG1_0
  clear hb1
  go_upto_region 2 with fail
  have hlt2 := LR1.out.lt
  have LB2 := Lib.hid (LB1.out.alloc LB1.out.size (.cells #[.int .u64 (P1 : Int), .int .u64 (Q1 : Int)] 24))
  have LR2 := Lib.hid (LR1.out.alloc (.cells #[.int .u64 (P1 : Int), .int .u64 (Q1 : Int)] 24))
  have LG0_2 := Lib.hid (LG0_1.out.alloc (.cells #[.int .u64 (P1 : Int), .int .u64 (Q1 : Int)] 24))
  have LG1_2 := Lib.hid (LG1_1.out.alloc (.cells #[.int .u64 (P1 : Int), .int .u64 (Q1 : Int)] 24))
  have LG2_2 := Lib.hid (Blk.new w1 24 #[.int .u64 (P1 : Int), .int .u64 (Q1 : Int)])
  clear LB1 LR1 LG0_1 LG1_1
  obtain ⟨V1, hV1⟩ : ∃ X, (w1.alloc (.cells #[.int .u64 (P1 : Int), .int .u64 (Q1 : Int)] 24)) = X := ⟨_, rfl⟩
  rw [hV1] at LB2 LR2 LG0_2 LG1_2 LG2_2 ⊢
  clear hV1
  have q1_0 : _ = some (.int .u64 (c1 : Int) : Value) := LG1_2.out.cell 0
  have q1_1 : _ = some (.int .u64 (c2 : Int) : Value) := LG1_2.out.cell 1
  go_wp2_with fail
  refine (HR2.out _).mono ?_
  rintro e w2 ⟨rfl, hb2⟩
  have LB3 := Lib.hid (LB2.out.trans (hb2.mono LB2.out.size))
  have LR3 := Lib.hid (LR2.out.keep hb2)
  have LG0_3 := Lib.hid (LG0_2.out.keep hb2)
  have LG1_3 := Lib.hid (LG1_2.out.keep hb2)
  have LG2_3 := Lib.hid (LG2_2.out.keep hb2)
  clear LB2 LR2 LG0_2 LG1_2 LG2_2
  clear hb2 q1_0 q1_1
  go_upto_region 3 with fail
  have hlt4 := LR3.out.lt
  have LB4 := Lib.hid (LB3.out.alloc LB3.out.size (.cells #[.int .u64 (P2 : Int), .int .u64 (Q2 : Int)] 24))
  have LR4 := Lib.hid (LR3.out.alloc (.cells #[.int .u64 (P2 : Int), .int .u64 (Q2 : Int)] 24))
  have LG0_4 := Lib.hid (LG0_3.out.alloc (.cells #[.int .u64 (P2 : Int), .int .u64 (Q2 : Int)] 24))
  have LG1_4 := Lib.hid (LG1_3.out.alloc (.cells #[.int .u64 (P2 : Int), .int .u64 (Q2 : Int)] 24))
  have LG2_4 := Lib.hid (LG2_3.out.alloc (.cells #[.int .u64 (P2 : Int), .int .u64 (Q2 : Int)] 24))
  have LG3_4 := Lib.hid (Blk.new w2 24 #[.int .u64 (P2 : Int), .int .u64 (Q2 : Int)])
  clear LB3 LR3 LG0_3 LG1_3 LG2_3
  obtain ⟨V2, hV2⟩ : ∃ X, (w2.alloc (.cells #[.int .u64 (P2 : Int), .int .u64 (Q2 : Int)] 24)) = X := ⟨_, rfl⟩
  rw [hV2] at LB4 LR4 LG0_4 LG1_4 LG2_4 LG3_4 ⊢
  clear hV2
  refine wp_region_held_drew (S := fun W' => Blk W' w.heap.size 24 #[.int .u64 (b1 : Int), .int .u64 (b2 : Int)] ∧ Blk W' (w.heap.size + 1) 24 #[.int .u64 (c1 : Int), .int .u64 (c2 : Int)] ∧ Blk W' w1.heap.size 24 #[.int .u64 (P1 : Int), .int .u64 (Q1 : Int)] ∧ Blk W' w2.heap.size 24 #[.int .u64 (P2 : Int), .int .u64 (Q2 : Int)] ∧ HasBlk W' (w.heap.size + 2) 24 2 ∧ Below w.heap.size w W') (by kernel_rfl) (by exact ⟨LG0_4.out.drew, LG1_4.out.drew, LG2_4.out.drew, LG3_4.out.drew, LR4.out.drew, LB4.out.drew⟩) (fun hHeld => ?_)
  refine wpAnyH_take (i := 0) (v := ?_) rfl (by kernel_rfl) (by kernel_rfl) (by kernel_rfl) (fun _ _ _ h => h) (Or.inl ⟨by rfl, ?_⟩) (by assumption) ?_
  rotate_left
  · (intro W2 hSw; (try dsimp only at hSw); have q0 : _ = some (.int .u64 (P1 : Int) : Value) := hSw.2.2.1.cell 0; have q1 : _ = some (.int .u64 (Q1 : Int) : Value) := hSw.2.2.1.cell 1; go_simp; (try with_reducible rfl))
  try simp only [Act.put, List.getElem_toArray, List.getElem_cons_succ, List.getElem_cons_zero, List.setIfInBounds_toArray, List.set_cons_zero, List.set_cons_succ]
  refine wpAnyH_ready (rs := [1]) (by kernel_rfl) (by simp) ?_
  refine AllReadyH.cons rfl (fun KK hKK => ?_) AllReadyH.nil
  go_simp
  refine (HE.out _).mono ?_
  rintro e w3 ⟨rfl, hbA⟩
  go_wp2_with fail
  refine hKK.out _ _ (⟨hHeld.1.keep hbA, hHeld.2.1.keep hbA, hHeld.2.2.1.keep hbA, hHeld.2.2.2.1.keep hbA, hHeld.2.2.2.2.1.keep hbA, hHeld.2.2.2.2.2.trans (hbA.mono hHeld.2.2.2.2.2.size)⟩) (fun _ => ?_)
  clear hKK KK hHeld; rename_i hHeld
  try simp only [Act.put, List.getElem_toArray, List.getElem_cons_succ, List.getElem_cons_zero, List.setIfInBounds_toArray, List.set_cons_zero, List.set_cons_succ]
  refine wpAnyH_take (i := 2) (v := ?_) rfl (by kernel_rfl) (by kernel_rfl) (by kernel_rfl) (fun _ _ _ h => h) (Or.inl ⟨by rfl, ?_⟩) (by assumption) ?_
  rotate_left
  · (intro W2 hSw; go_simp; (try with_reducible rfl))
  try simp only [Act.put, List.getElem_toArray, List.getElem_cons_succ, List.getElem_cons_zero, List.setIfInBounds_toArray, List.set_cons_zero, List.set_cons_succ]
  refine wpAnyH_take (i := 3) (v := ?_) rfl (by kernel_rfl) (by kernel_rfl) (by kernel_rfl) (fun _ _ _ h => h) (Or.inl ⟨by rfl, ?_⟩) (by assumption) ?_
  rotate_left
  · (intro W2 hSw; go_simp; (try with_reducible rfl))
  try simp only [Act.put, List.getElem_toArray, List.getElem_cons_succ, List.getElem_cons_zero, List.setIfInBounds_toArray, List.set_cons_zero, List.set_cons_succ]
  refine wpAnyH_take (i := 4) (v := undef) rfl (by kernel_rfl) (by kernel_rfl) (by kernel_rfl) (fun _ _ _ h => h) (Or.inr ⟨by rfl, rfl⟩) (by assumption) ?_
  try simp only [Act.put, List.getElem_toArray, List.getElem_cons_succ, List.getElem_cons_zero, List.setIfInBounds_toArray, List.set_cons_zero, List.set_cons_succ]
  refine wpAnyH_take (i := 5) (v := undef) rfl (by kernel_rfl) (by kernel_rfl) (by kernel_rfl) (fun _ _ _ h => h) (Or.inr ⟨by rfl, rfl⟩) (by assumption) ?_
  try simp only [Act.put, List.getElem_toArray, List.getElem_cons_succ, List.getElem_cons_zero, List.setIfInBounds_toArray, List.set_cons_zero, List.set_cons_succ]
  refine wpAnyH_take (i := 6) (v := undef) rfl (by kernel_rfl) (by kernel_rfl) (by kernel_rfl) (fun _ _ _ h => h) (Or.inr ⟨by rfl, rfl⟩) (by assumption) ?_
  try simp only [Act.put, List.getElem_toArray, List.getElem_cons_succ, List.getElem_cons_zero, List.setIfInBounds_toArray, List.set_cons_zero, List.set_cons_succ]
  refine wpAnyH_take (i := 7) (v := undef) rfl (by kernel_rfl) (by kernel_rfl) (by kernel_rfl) (fun _ _ _ h => h) (Or.inr ⟨by rfl, rfl⟩) (by assumption) ?_
  try simp only [Act.put, List.getElem_toArray, List.getElem_cons_succ, List.getElem_cons_zero, List.setIfInBounds_toArray, List.set_cons_zero, List.set_cons_succ]
  refine wpAnyH_take (i := 8) (v := undef) rfl (by kernel_rfl) (by kernel_rfl) (by kernel_rfl) (fun _ _ _ h => h) (Or.inr ⟨by rfl, rfl⟩) (by assumption) ?_
  try simp only [Act.put, List.getElem_toArray, List.getElem_cons_succ, List.getElem_cons_zero, List.setIfInBounds_toArray, List.set_cons_zero, List.set_cons_succ]
  refine wpAnyH_take (i := 9) (v := undef) rfl (by kernel_rfl) (by kernel_rfl) (by kernel_rfl) (fun _ _ _ h => h) (Or.inr ⟨by rfl, rfl⟩) (by assumption) ?_
  try simp only [Act.put, List.getElem_toArray, List.getElem_cons_succ, List.getElem_cons_zero, List.setIfInBounds_toArray, List.set_cons_zero, List.set_cons_succ]
  refine wpAnyH_take (i := 10) (v := undef) rfl (by kernel_rfl) (by kernel_rfl) (by kernel_rfl) (fun _ _ _ h => h) (Or.inr ⟨by rfl, rfl⟩) (by assumption) ?_
  try simp only [Act.put, List.getElem_toArray, List.getElem_cons_succ, List.getElem_cons_zero, List.setIfInBounds_toArray, List.set_cons_zero, List.set_cons_succ]
  refine wpAnyH_take (i := 11) (v := ?_) rfl (by kernel_rfl) (by kernel_rfl) (by kernel_rfl) (fun _ _ _ h => h) (Or.inl ⟨by rfl, ?_⟩) (by assumption) ?_
  rotate_left
  · (intro W2 hSw; go_simp; (try with_reducible rfl))
  try simp only [Act.put, List.getElem_toArray, List.getElem_cons_succ, List.getElem_cons_zero, List.setIfInBounds_toArray, List.set_cons_zero, List.set_cons_succ]
  refine wpAnyH_done (by kernel_rfl) ?_ _
  clear LB4 LR4 LG0_4 LG1_4 LG2_4 LG3_4
  have LG0_5 := Lib.hid hHeld.1
  have LG1_5 := Lib.hid hHeld.2.1
  have LG2_5 := Lib.hid hHeld.2.2.1
  have LG3_5 := Lib.hid hHeld.2.2.2.1
  have LR5 := Lib.hid hHeld.2.2.2.2.1
  have LB5 := Lib.hid hHeld.2.2.2.2.2
  clear hHeld hbA hp1
  have q2_0 : _ = some (.int .u64 (P1 : Int) : Value) := LG2_5.out.cell 0
  have q2_1 : _ = some (.int .u64 (Q1 : Int) : Value) := LG2_5.out.cell 1
  have q3_0 : _ = some (.int .u64 (P2 : Int) : Value) := LG3_5.out.cell 0
  have q3_1 : _ = some (.int .u64 (Q2 : Int) : Value) := LG3_5.out.cell 1
  go_wp2_with fail
  refine (KC1.out _).mono ?_
  rintro e w6 ⟨rfl, hb6⟩
  have LB6 := Lib.hid (LB5.out.trans (hb6.mono LB5.out.size))
  have LR6 := Lib.hid (LR5.out.keep hb6)
  have LG0_6 := Lib.hid (LG0_5.out.keep hb6)
  have LG1_6 := Lib.hid (LG1_5.out.keep hb6)
  have LG2_6 := Lib.hid (LG2_5.out.keep hb6)
  have LG3_6 := Lib.hid (LG3_5.out.keep hb6)
  clear LB5 LR5 LG0_5 LG1_5 LG2_5 LG3_5
  clear hb6 q2_0 q2_1 q3_0 q3_1
  have q2_0 : _ = some (.int .u64 (P1 : Int) : Value) := LG2_6.out.cell 0
  have q2_1 : _ = some (.int .u64 (Q1 : Int) : Value) := LG2_6.out.cell 1
  have q3_0 : _ = some (.int .u64 (P2 : Int) : Value) := LG3_6.out.cell 0
  have q3_1 : _ = some (.int .u64 (Q2 : Int) : Value) := LG3_6.out.cell 1
  go_wp2_with fail
  refine (KC2.out _).mono ?_
  rintro e w7 ⟨rfl, hb7⟩
  have LB7 := Lib.hid (LB6.out.trans (hb7.mono LB6.out.size))
  have LR7 := Lib.hid (LR6.out.keep hb7)
  have LG0_7 := Lib.hid (LG0_6.out.keep hb7)
  have LG1_7 := Lib.hid (LG1_6.out.keep hb7)
  have LG2_7 := Lib.hid (LG2_6.out.keep hb7)
  have LG3_7 := Lib.hid (LG3_6.out.keep hb7)
  clear LB6 LR6 LG0_6 LG1_6 LG2_6 LG3_6
  clear hb7 q2_0 q2_1 q3_0 q3_1
  have q2_0 : _ = some (.int .u64 (P1 : Int) : Value) := LG2_7.out.cell 0
  have q2_1 : _ = some (.int .u64 (Q1 : Int) : Value) := LG2_7.out.cell 1
  have q3_0 : _ = some (.int .u64 (P2 : Int) : Value) := LG3_7.out.cell 0
  have q3_1 : _ = some (.int .u64 (Q2 : Int) : Value) := LG3_7.out.cell 1
  go_wp2_with fail
  refine (HN.out _).mono ?_
  rintro e w8 ⟨rfl, hb8⟩
  have LB8 := Lib.hid (LB7.out.trans (hb8.mono LB7.out.size))
  have LR8 := Lib.hid (LR7.out.keep hb8)
  have LG0_8 := Lib.hid (LG0_7.out.keep hb8)
  have LG1_8 := Lib.hid (LG1_7.out.keep hb8)
  have LG2_8 := Lib.hid (LG2_7.out.keep hb8)
  have LG3_8 := Lib.hid (LG3_7.out.keep hb8)
  clear LB7 LR7 LG0_7 LG1_7 LG2_7 LG3_7
  clear hb8 q2_0 q2_1 q3_0 q3_1
  have ha0 := LR8.out.someCell 0 (by decide)
  have hf0 := LR8.out.frozen 0
  have ha1 := LR8.out.someCell 1 (by decide)
  have hf1 := LR8.out.frozen 1
  have hk0 := LR8.out.setCell [.int .u64 18442240474082181120, .int .u64 9218868437227405312] rfl 0 (by decide)
  have hk1 := LR8.out.setCell [.int .u64 18442240474082181120, .int .u64 9218868437227405312] rfl 1 (by decide)
  have F := Lib.hid (below_sets (w0 := w) (r := (w.heap.size + 2)) (by omega) [.int .u64 18442240474082181120, .int .u64 9218868437227405312] 0 _ LB8.out)
  simp [sets] at hk0 hk1
  go_wp2
  refine bodyPost_ret (v := .agg #[.int .u64 18442240474082181120, .int .u64 9218868437227405312]) (by simp [results, Tryz.results20, go_sem, hk0, hk1]) rfl ?_
  exact ⟨rfl, F.out⟩

end Go.Proofs.YtmjkmoahkanblaaGreat
