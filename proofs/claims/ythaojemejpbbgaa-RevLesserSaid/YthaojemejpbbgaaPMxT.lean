/-
Walks: package vergeref10, MaxRev.
-/
import Derived.Test.YthaojemejpbbgaaM19
set_option linter.unusedSimpArgs false
set_option linter.unusedVariables false

namespace Go.Proofs.Ythaojemejpbbgaa
open Go.RowKit

theorem Iv.neg {i j : Int} (h : Iv i j) : Iv (-j) (-i) := by
  unfold Iv at *
  rw [M_val] at *
  omega
theorem mr_iv {bi bj ci cj xi xj : Int} (hb : Iv bi bj) (hc : Iv ci cj) (hx : Iv xi xj) : Iv (mr bi bj ci cj xi xj).1 (mr bi bj ci cj xi xj).2 := by
  unfold mr
  split
  · exact Iv.none
  · rename_i h
    have hM : M = 9218868437227405312 := rfl
    unfold Iv at hb hc
    have hL : ∀ t : Nat, (t < 1 ∨ ¬ cj < bi) → -(M : Int) ≤ (mrL bi bj ci cj t).1 ∧ (mrL bi bj ci cj t).1 < M ∧ -(M : Int) < (mrL bi bj ci cj t).2 ∧ (mrL bi bj ci cj t).2 ≤ M ∧ (mrL bi bj ci cj t).1 ≤ (mrL bi bj ci cj t).2 := by
      intro t ht
      unfold mrL
      split
      · dsimp only; omega
      · dsimp only; omega
    split
    · exact zf_iv hx 1 fun t ht => hL t (.inl ht)
    · exact zf_iv hx 2 fun t ht => hL t (.inr (by assumption))
theorem minrev_idx (i1 i2 i3 i4 i5 i6 : Int) (w : World) (hb : Iv i1 i2) (hc : Iv i3 i4) (hx : Iv i5 i6) :
    Calls Try.prog 7 #[.agg #[.int .u64 (pat i1 : Int), .int .u64 (pat i2 : Int)], .agg #[.int .u64 (pat i3 : Int), .int .u64 (pat i4 : Int)], .agg #[.int .u64 (pat i5 : Int), .int .u64 (pat i6 : Int)]] w
      fun e w' => e = .returned (.agg #[.int .u64 (pat (mr i1 i2 i3 i4 i5 i6).1 : Int), .int .u64 (pat (mr i1 i2 i3 i4 i5 i6).2 : Int)]) ∧ Below w.heap.size w w' := by
  have h := minrev_any (pat i1) (pat i2) (pat i3) (pat i4) (pat i5) (pat i6) w (pat_lt hb.lo.1 hb.lo.2) (pat_lt hb.hi.1 hb.hi.2) (pat_lt hc.lo.1 hc.lo.2) (pat_lt hc.hi.1 hc.hi.2) (pat_lt hx.lo.1 hx.lo.2) (pat_lt hx.hi.1 hx.hi.2)
  rw [rd_pat hb, rd_pat hc, rd_pat hx] at h
  exact h
theorem neg_idx (i j : Int) (w : World) (h : Iv i j) :
    Calls Try.prog 24 #[.agg #[.int .u64 (pat i : Int), .int .u64 (pat j : Int)]] w fun e w' => e = .returned (.agg #[.int .u64 (pat (-j) : Int), .int .u64 (pat (-i) : Int)]) ∧ Below w.heap.size w w' := by
  have h2 := neg6 (pat i) (pat j) w (pat_lt h.lo.1 h.lo.2) (pat_lt h.hi.1 h.hi.2)
  rw [rd_pat h] at h2
  exact h2
/-- What chapter 10 says of MaxRev. -/
def mx (b c x : Int × Int) : Int × Int := (-(mr (-b.2) (-b.1) (-c.2) (-c.1) (-x.2) (-x.1)).2, -(mr (-b.2) (-b.1) (-c.2) (-c.1) (-x.2) (-x.1)).1)

set_option maxHeartbeats 6400000 in
theorem maxrev_any (b1 b2 c1 c2 x y : Nat) (w : World) (hb1 : b1 < 18446744073709551616) (hb2 : b2 < 18446744073709551616) (hc1 : c1 < 18446744073709551616) (hc2 : c2 < 18446744073709551616) (hx : x < 18446744073709551616) (hy : y < 18446744073709551616) :
    Calls Try.prog 9 #[.agg #[.int .u64 (b1 : Int), .int .u64 (b2 : Int)], .agg #[.int .u64 (c1 : Int), .int .u64 (c2 : Int)], .agg #[.int .u64 (x : Int), .int .u64 (y : Int)]] w fun e w' => e = .returned (.agg #[.int .u64 (pat (mx (rd b1 b2) (rd c1 c2) (rd x y)).1 : Int), .int .u64 (pat (mx (rd b1 b2) (rd c1 c2) (rd x y)).2 : Int)]) ∧ Below w.heap.size w w' := by
  have HN1 := Lib.hid fun W => neg6 b1 b2 W hb1 hb2
  have HN2 := Lib.hid fun W => neg6 c1 c2 W hc1 hc2
  have HN3 := Lib.hid fun W => neg6 x y W hx hy
  have v1 := (rd_iv b1 b2).neg
  have v2 := (rd_iv c1 c2).neg
  have v3 := (rd_iv x y).neg
  have vm := mr_iv v1 v2 v3
  have HM := Lib.hid fun W => minrev_idx _ _ _ _ _ _ W v1 v2 v3
  have HN4 := Lib.hid fun W => neg_idx _ _ W vm
  unfold mx
  obtain ⟨z1, hz1⟩ : ∃ z, (mr (-(rd b1 b2).2) (-(rd b1 b2).1) (-(rd c1 c2).2) (-(rd c1 c2).1) (-(rd x y).2) (-(rd x y).1)).1 = z := ⟨_, rfl⟩
  obtain ⟨z2, hz2⟩ : ∃ z, (mr (-(rd b1 b2).2) (-(rd b1 b2).1) (-(rd c1 c2).2) (-(rd c1 c2).1) (-(rd x y).2) (-(rd x y).1)).2 = z := ⟨_, rfl⟩
  rw [hz1, hz2] at HM HN4 ⊢
  obtain ⟨p1, e1⟩ : ∃ z, pat (-(rd b1 b2).2) = z := ⟨_, rfl⟩
  obtain ⟨p2, e2⟩ : ∃ z, pat (-(rd b1 b2).1) = z := ⟨_, rfl⟩
  obtain ⟨p3, e3⟩ : ∃ z, pat (-(rd c1 c2).2) = z := ⟨_, rfl⟩
  obtain ⟨p4, e4⟩ : ∃ z, pat (-(rd c1 c2).1) = z := ⟨_, rfl⟩
  obtain ⟨p5, e5⟩ : ∃ z, pat (-(rd x y).2) = z := ⟨_, rfl⟩
  obtain ⟨p6, e6⟩ : ∃ z, pat (-(rd x y).1) = z := ⟨_, rfl⟩
  obtain ⟨p7, e7⟩ : ∃ z, pat z1 = z := ⟨_, rfl⟩
  obtain ⟨p8, e8⟩ : ∃ z, pat z2 = z := ⟨_, rfl⟩
  obtain ⟨q1, f1⟩ : ∃ z, pat (-z2) = z := ⟨_, rfl⟩
  obtain ⟨q2, f2⟩ : ∃ z, pat (-z1) = z := ⟨_, rfl⟩
  rw [e1, e2] at HN1
  rw [e3, e4] at HN2
  rw [e5, e6] at HN3
  rw [e1, e2, e3, e4, e5, e6, e7, e8] at HM
  rw [e7, e8, f1, f2] at HN4
  dsimp only
  rw [f1, f2]
  clear v1 v2 v3 vm hz1 hz2 e1 e2 e3 e4 e5 e6 e7 e8 f1 f2
  have LB0 := Lib.hid (show Below w.heap.size w ((((w.alloc (.cells #[.int .u64 (b1 : Int), .int .u64 (b2 : Int)] 24)).alloc (.cells #[.int .u64 (c1 : Int), .int .u64 (c2 : Int)] 24)).alloc (.cells #[.int .u64 (x : Int), .int .u64 (y : Int)] 24)).alloc (.cells #[.int .u64 0, .int .u64 0] 24)) from ((((below_alloc w _).alloc (by simp <;> omega) _).alloc (by simp <;> omega) _).alloc (by simp <;> omega) _))
  have LG0_0 := Lib.hid (((((Blk.at (W := w) (g := w.heap.size) (by simp <;> omega) 24 #[.int .u64 (b1 : Int), .int .u64 (b2 : Int)]).alloc (.cells #[.int .u64 (c1 : Int), .int .u64 (c2 : Int)] 24)).alloc (.cells #[.int .u64 (x : Int), .int .u64 (y : Int)] 24)).alloc (.cells #[.int .u64 0, .int .u64 0] 24)))
  have LG1_0 := Lib.hid ((((Blk.at (W := (w.alloc (.cells #[.int .u64 (b1 : Int), .int .u64 (b2 : Int)] 24))) (g := (w.heap.size + 1)) (by simp <;> omega) 24 #[.int .u64 (c1 : Int), .int .u64 (c2 : Int)]).alloc (.cells #[.int .u64 (x : Int), .int .u64 (y : Int)] 24)).alloc (.cells #[.int .u64 0, .int .u64 0] 24)))
  have LG2_0 := Lib.hid (((Blk.at (W := ((w.alloc (.cells #[.int .u64 (b1 : Int), .int .u64 (b2 : Int)] 24)).alloc (.cells #[.int .u64 (c1 : Int), .int .u64 (c2 : Int)] 24))) (g := (w.heap.size + 2)) (by simp <;> omega) 24 #[.int .u64 (x : Int), .int .u64 (y : Int)]).alloc (.cells #[.int .u64 0, .int .u64 0] 24)))
  have LR0 := Lib.hid (HasBlk.of (n := 2) (Blk.at (W := (((w.alloc (.cells #[.int .u64 (b1 : Int), .int .u64 (b2 : Int)] 24)).alloc (.cells #[.int .u64 (c1 : Int), .int .u64 (c2 : Int)] 24)).alloc (.cells #[.int .u64 (x : Int), .int .u64 (y : Int)] 24))) (g := (w.heap.size + 3)) (by simp <;> omega) 24 #[.int .u64 0, .int .u64 0]) rfl rfl)
  go_enter Try.func9, Try.ntmps9
  go_wp2_with fail
  refine wp_region_held_drew (S := fun W' => Blk W' w.heap.size 24 #[.int .u64 (b1 : Int), .int .u64 (b2 : Int)] ∧ Blk W' (w.heap.size + 1) 24 #[.int .u64 (c1 : Int), .int .u64 (c2 : Int)] ∧ Blk W' (w.heap.size + 2) 24 #[.int .u64 (x : Int), .int .u64 (y : Int)] ∧ HasBlk W' (w.heap.size + 3) 24 2 ∧ Below w.heap.size w W') (by kernel_rfl) (by exact ⟨LG0_0.out.drew, LG1_0.out.drew, LG2_0.out.drew, LR0.out.drew, LB0.out.drew⟩) (fun hHeld => ?_)
  refine wpAnyH_take (i := 0) (v := ?_) rfl (by kernel_rfl) (by kernel_rfl) (by kernel_rfl) (fun _ _ _ h => h) (Or.inl ⟨by rfl, ?_⟩) (by assumption) ?_
  rotate_left
  · (intro W2 hSw; (try dsimp only at hSw); have q0 : _ = some (.int .u64 (b1 : Int) : Value) := hSw.1.cell 0; have q1 : _ = some (.int .u64 (b2 : Int) : Value) := hSw.1.cell 1; go_simp; (try with_reducible rfl))
  try simp only [Act.put, List.getElem_toArray, List.getElem_cons_succ, List.getElem_cons_zero, List.setIfInBounds_toArray, List.set_cons_zero, List.set_cons_succ]
  refine wpAnyH_take (i := 2) (v := ?_) rfl (by kernel_rfl) (by kernel_rfl) (by kernel_rfl) (fun _ _ _ h => h) (Or.inl ⟨by rfl, ?_⟩) (by assumption) ?_
  rotate_left
  · (intro W2 hSw; (try dsimp only at hSw); have q0 : _ = some (.int .u64 (c1 : Int) : Value) := hSw.2.1.cell 0; have q1 : _ = some (.int .u64 (c2 : Int) : Value) := hSw.2.1.cell 1; go_simp; (try with_reducible rfl))
  try simp only [Act.put, List.getElem_toArray, List.getElem_cons_succ, List.getElem_cons_zero, List.setIfInBounds_toArray, List.set_cons_zero, List.set_cons_succ]
  refine wpAnyH_take (i := 4) (v := ?_) rfl (by kernel_rfl) (by kernel_rfl) (by kernel_rfl) (fun _ _ _ h => h) (Or.inl ⟨by rfl, ?_⟩) (by assumption) ?_
  rotate_left
  · (intro W2 hSw; (try dsimp only at hSw); have q0 : _ = some (.int .u64 (x : Int) : Value) := hSw.2.2.1.cell 0; have q1 : _ = some (.int .u64 (y : Int) : Value) := hSw.2.2.1.cell 1; go_simp; (try with_reducible rfl))
  try simp only [Act.put, List.getElem_toArray, List.getElem_cons_succ, List.getElem_cons_zero, List.setIfInBounds_toArray, List.set_cons_zero, List.set_cons_succ]
  refine wpAnyH_ready (rs := [1]) (by kernel_rfl) (by simp) ?_
  refine AllReadyH.cons rfl (fun KK hKK => ?_) AllReadyH.nil
  go_simp
  refine (HN1.out _).mono ?_
  rintro e w1 ⟨rfl, hbA⟩
  go_wp2_with fail
  refine hKK.out _ _ (⟨hHeld.1.keep hbA, hHeld.2.1.keep hbA, hHeld.2.2.1.keep hbA, hHeld.2.2.2.1.keep hbA, hHeld.2.2.2.2.trans (hbA.mono hHeld.2.2.2.2.size)⟩) (fun _ => ?_)
  clear hKK KK hHeld; rename_i hHeld
  try simp only [Act.put, List.getElem_toArray, List.getElem_cons_succ, List.getElem_cons_zero, List.setIfInBounds_toArray, List.set_cons_zero, List.set_cons_succ]
  refine wpAnyH_ready (rs := [3]) (by kernel_rfl) (by simp) ?_
  refine AllReadyH.cons rfl (fun KK hKK => ?_) AllReadyH.nil
  go_simp
  refine (HN2.out _).mono ?_
  rintro e w2 ⟨rfl, hbB⟩
  go_wp2_with fail
  refine hKK.out _ _ (⟨hHeld.1.keep hbB, hHeld.2.1.keep hbB, hHeld.2.2.1.keep hbB, hHeld.2.2.2.1.keep hbB, hHeld.2.2.2.2.trans (hbB.mono hHeld.2.2.2.2.size)⟩) (fun _ => ?_)
  clear hKK KK hHeld; rename_i hHeld
  try simp only [Act.put, List.getElem_toArray, List.getElem_cons_succ, List.getElem_cons_zero, List.setIfInBounds_toArray, List.set_cons_zero, List.set_cons_succ]
  refine wpAnyH_ready (rs := [5]) (by kernel_rfl) (by simp) ?_
  refine AllReadyH.cons rfl (fun KK hKK => ?_) AllReadyH.nil
  go_simp
  refine (HN3.out _).mono ?_
  rintro e w3 ⟨rfl, hbC⟩
  go_wp2_with fail
  refine hKK.out _ _ (⟨hHeld.1.keep hbC, hHeld.2.1.keep hbC, hHeld.2.2.1.keep hbC, hHeld.2.2.2.1.keep hbC, hHeld.2.2.2.2.trans (hbC.mono hHeld.2.2.2.2.size)⟩) (fun _ => ?_)
  clear hKK KK hHeld; rename_i hHeld
  try simp only [Act.put, List.getElem_toArray, List.getElem_cons_succ, List.getElem_cons_zero, List.setIfInBounds_toArray, List.set_cons_zero, List.set_cons_succ]
  refine wpAnyH_ready (rs := [6]) (by kernel_rfl) (by simp) ?_
  refine AllReadyH.cons rfl (fun KK hKK => ?_) AllReadyH.nil
  go_simp
  refine (HM.out _).mono ?_
  rintro e w4 ⟨rfl, hbD⟩
  go_wp2_with fail
  refine hKK.out _ _ (⟨hHeld.1.keep hbD, hHeld.2.1.keep hbD, hHeld.2.2.1.keep hbD, hHeld.2.2.2.1.keep hbD, hHeld.2.2.2.2.trans (hbD.mono hHeld.2.2.2.2.size)⟩) (fun _ => ?_)
  clear hKK KK hHeld; rename_i hHeld
  try simp only [Act.put, List.getElem_toArray, List.getElem_cons_succ, List.getElem_cons_zero, List.setIfInBounds_toArray, List.set_cons_zero, List.set_cons_succ]
  refine wpAnyH_ready (rs := [7]) (by kernel_rfl) (by simp) ?_
  refine AllReadyH.cons rfl (fun KK hKK => ?_) AllReadyH.nil
  go_simp
  refine (HN4.out _).mono ?_
  rintro e w5 ⟨rfl, hbE⟩
  go_wp2_with fail
  refine hKK.out _ _ (⟨hHeld.1.keep hbE, hHeld.2.1.keep hbE, hHeld.2.2.1.keep hbE, hHeld.2.2.2.1.keep hbE, hHeld.2.2.2.2.trans (hbE.mono hHeld.2.2.2.2.size)⟩) (fun _ => ?_)
  clear hKK KK hHeld; rename_i hHeld
  try simp only [Act.put, List.getElem_toArray, List.getElem_cons_succ, List.getElem_cons_zero, List.setIfInBounds_toArray, List.set_cons_zero, List.set_cons_succ]
  refine wpAnyH_ready (rs := [8]) (by kernel_rfl) (by simp) ?_
  refine AllReadyH.cons rfl (fun KK hKK => ?_) AllReadyH.nil
  have ha0 := hHeld.2.2.2.1.someCell 0 (by decide); have hf0 := hHeld.2.2.2.1.frozen 0; have ha1 := hHeld.2.2.2.1.someCell 1 (by decide); have hf1 := hHeld.2.2.2.1.frozen 1; have HK := Lib.hid (hHeld.2.2.2.1.setCell [.int .u64 (q1 : Int), .int .u64 (q2 : Int)] rfl); have F := Lib.hid (below_sets (w0 := w) (r := (w.heap.size + 3)) (by omega) [.int .u64 (q1 : Int), .int .u64 (q2 : Int)] 0 _ hHeld.2.2.2.2)
  go_simp
  refine hKK.out _ _ (⟨hHeld.1.other (by omega) 0 [.int .u64 (q1 : Int), .int .u64 (q2 : Int)], hHeld.2.1.other (by omega) 0 [.int .u64 (q1 : Int), .int .u64 (q2 : Int)], hHeld.2.2.1.other (by omega) 0 [.int .u64 (q1 : Int), .int .u64 (q2 : Int)], hHeld.2.2.2.1.sets [.int .u64 (q1 : Int), .int .u64 (q2 : Int)] rfl rfl, below_sets (by omega) [.int .u64 (q1 : Int), .int .u64 (q2 : Int)] 0 _ hHeld.2.2.2.2⟩) (fun _ => ?_)
  clear hKK KK hHeld; rename_i hHeld
  try simp only [Act.put, List.getElem_toArray, List.getElem_cons_succ, List.getElem_cons_zero, List.setIfInBounds_toArray, List.set_cons_zero, List.set_cons_succ]
  refine wpAnyH_done (by kernel_rfl) ?_ _
  have hk0 := HK.out 0 (by decide)
  have hk1 := HK.out 1 (by decide)
  simp [sets] at hk0 hk1
  clear hHeld HK hbA hbB hbC hbD hbE
  clear LB0 LR0 LG0_0 LG1_0 LG2_0
  go_wp2
  refine bodyPost_ret (v := .agg #[.int .u64 (q1 : Int), .int .u64 (q2 : Int)]) (by simp [results, Try.results9, go_sem, hk0, hk1]) rfl ?_
  exact ⟨rfl, F.out⟩

end Go.Proofs.Ythaojemejpbbgaa
