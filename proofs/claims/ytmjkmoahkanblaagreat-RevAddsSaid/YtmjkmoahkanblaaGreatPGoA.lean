/-
Walks: patterns as floats.
Walks: math.Inf, package ival.
Walks: package ival, intervals of floats.
Walks: package ival, negatives; package rel.
Plain: the one rounded answer of a rational number; an end of a piece (a number, or an infinity) and its two neighbours.
The model's sums and products of words, as the nearest index.
-/
import Derived.Test.YtmjkmoahkanblaaGreatM06
import Derived.Laws.Externs
import Derived.Deep.DeepCutAuto
import Derived.Test.YtmjkmoahkanblaaGreatM13
import Derived.Test.YtmjkmoahkanblaaGreatM05
set_option linter.unusedSimpArgs false
set_option linter.unusedVariables false

namespace Go.Proofs.YtmjkmoahkanblaaGreat
open Go.RowKit

theorem run_frombits (b : Nat) (w : World) : (callFunc 48 #[.int .u64 (b : Int)]).run Tryz.prog w = .ok (.value (.float .f64 b)) w := by
  rw [run_callFunc_extern (e := Extern.MathFloatBits.float64frombits) Tryz.func48 (by kernel_rfl) (by kernel_rfl) (by kernel_rfl) (by kernel_rfl)]
  rfl
theorem run_bitsof (b : Nat) (w : World) : (callFunc 49 #[.float .f64 b]).run Tryz.prog w = .ok (.value (.int .u64 (b : Int))) w := by
  rw [run_callFunc_extern (e := Extern.MathFloatBits.float64bits) Tryz.func49 (by kernel_rfl) (by kernel_rfl) (by kernel_rfl) (by kernel_rfl)]
  rfl

end Go.Proofs.YtmjkmoahkanblaaGreat

namespace Go.Proofs.YtmjkmoahkanblaaGreat
open Go.RowKit

theorem inf_pos (w : World) : Calls Tryz.prog 92 #[.int .i64 1] w fun e w' => e = .returned (.float .f64 9218868437227405312) ∧ w = w' := by
  have hf : ∀ W : World, (callFunc 48 #[.int .u64 9218868437227405312]).run Tryz.prog W = .ok (.value (.float .f64 9218868437227405312)) W := fun W => run_frombits 9218868437227405312 W
  go_enter Tryz.func92, Tryz.ntmps92
  go_wp2
  go_ret
  exact ⟨rfl, rfl⟩
theorem inf_neg (w : World) : Calls Tryz.prog 92 #[.int .i64 (-1)] w fun e w' => e = .returned (.float .f64 18442240474082181120) ∧ w = w' := by
  have hf : ∀ W : World, (callFunc 48 #[.int .u64 18442240474082181120]).run Tryz.prog W = .ok (.value (.float .f64 18442240474082181120)) W := fun W => run_frombits 18442240474082181120 W
  go_enter Tryz.func92, Tryz.ntmps92
  go_wp2
  go_ret
  exact ⟨rfl, rfl⟩
theorem plainf (b : Nat) (w : World) (hb : b < 18446744073709551616) (hr : rungOf b ≤ M) : Calls Tryz.prog 179 #[.float .f64 b] w fun e w' => e = .returned (.float .f64 (pat (idx b))) ∧ w = w' := by
  have ho : FloatKind.f64.format.order b 0 = some (compare (idx b) (idx 0)) := order_real hr (by show rungOf 0 ≤ M; decide)
  rw [show idx 0 = 0 from by decide] at ho
  have hp := pl_real hb hr
  by_cases h : idx b = 0
  · have hq : (FloatKind.f64.format.order b 0 == some Ordering.eq) = true := by rw [ho, h]; rfl
    rw [h, pat_zero]
    clear ho hp h hr
    go_enter Tryz.func179, Tryz.ntmps179
    go_wp2
    go_ret
    exact ⟨rfl, rfl⟩
  · have hq : (FloatKind.f64.format.order b 0 == some Ordering.eq) = false := by
      rw [ho]
      rcases Int.lt_trichotomy (idx b) 0 with h1 | h1 | h1
      · rw [show compare (idx b) 0 = .lt from Int.compare_eq_lt.2 h1]; rfl
      · exact absurd h1 h
      · rw [show compare (idx b) 0 = .gt from Int.compare_eq_gt.2 h1]; rfl
    have e : pat (idx b) = b := by
      rw [← hp]; unfold pl
      have := pat_cases hb
      rw [if_neg (by omega), if_neg (by omega)]
    rw [e]
    clear ho hp h hr e
    go_enter Tryz.func179, Tryz.ntmps179
    go_wp2
    go_ret
    exact ⟨rfl, rfl⟩
theorem soundf (x y : Nat) (w : World) (hx : x < 18446744073709551616) (hy : y < 18446744073709551616) : Calls Tryz.prog 178 #[.float .f64 x, .float .f64 y] w fun e w' => e = .returned (.bool (snd x y)) ∧ w = w' := by
  have H1 := Lib.hid inf_pos
  have H2 := Lib.hid inf_neg
  have hM : M = 9218868437227405312 := rfl
  have n1 : idx 9218868437227405312 = M := by decide
  have n2 : idx 18442240474082181120 = -(M : Int) := by decide
  have r1 : real 9218868437227405312 := by show rungOf _ ≤ M; decide
  have r2 : real 18442240474082181120 := by show rungOf _ ≤ M; decide
  by_cases hx' : rungOf x ≤ M
  · by_cases hy' : rungOf y ≤ M
    · have ho : FloatKind.f64.format.order x y = some (compare (idx x) (idx y)) := order_real hx' hy'
      have h2 : FloatKind.f64.format.order x 9218868437227405312 = some (compare (idx x) (idx 9218868437227405312)) := order_real hx' r1
      have h3 : FloatKind.f64.format.order y 18442240474082181120 = some (compare (idx y) (idx 18442240474082181120)) := order_real hy' r2
      rw [n1] at h2
      rw [n2] at h3
      have bx := idx_bounds hx'
      have bY := idx_bounds hy'
      by_cases h : idx y < idx x
      · rw [show compare (idx x) (idx y) = .gt from Int.compare_eq_gt.2 h] at ho
        have hs : snd x y = false := decide_eq_false (by omega)
        rw [hs]
        clear h2 h3 n1 n2 r1 r2 bx bY h hs hx' hy' hM
        go_enter Tryz.func178, Tryz.ntmps178
        go_wp2
        go_ret
        exact ⟨rfl, rfl⟩
      · have hle : compare (idx x) (idx y) = .lt ∨ compare (idx x) (idx y) = .eq := by
          rcases Int.lt_trichotomy (idx x) (idx y) with h1 | h1 | h1
          · exact .inl (Int.compare_eq_lt.2 h1)
          · exact .inr (by rw [h1]; exact Int.compare_eq_eq.2 rfl)
          · exact absurd h1 h
        by_cases hm : idx x = M
        · rw [show compare (idx x) (M : Int) = .eq from by rw [hm]; exact Int.compare_eq_eq.2 rfl] at h2
          have hs : snd x y = false := decide_eq_false (by omega)
          rw [hs]
          clear h3 n1 n2 r1 r2 bx bY h hs hx' hy' hM hm
          rcases hle with e | e <;> rw [e] at ho <;> clear e
          all_goals
            go_enter Tryz.func178, Tryz.ntmps178
            go_wp2_with fail
            refine (H1.out _).mono ?_
            rintro e w1 ⟨rfl, rfl⟩
            go_wp2
            go_ret
            exact ⟨rfl, rfl⟩
        · rw [show compare (idx x) (M : Int) = .lt from Int.compare_eq_lt.2 (by omega)] at h2
          by_cases hn : idx y = -(M : Int)
          · rw [show compare (idx y) (-(M : Int)) = .eq from by rw [hn]; exact Int.compare_eq_eq.2 rfl] at h3
            have hs : snd x y = false := decide_eq_false (by omega)
            rw [hs]
            clear n1 n2 r1 r2 bx bY h hs hx' hy' hM hm hn
            rcases hle with e | e <;> rw [e] at ho <;> clear e
            all_goals
              go_enter Tryz.func178, Tryz.ntmps178
              go_wp2_with fail
              refine (H1.out _).mono ?_
              rintro e w1 ⟨rfl, rfl⟩
              go_wp2_with fail
              refine (H2.out _).mono ?_
              rintro e w1 ⟨rfl, rfl⟩
              go_wp2
              go_ret
              exact ⟨rfl, rfl⟩
          · rw [show compare (idx y) (-(M : Int)) = .gt from Int.compare_eq_gt.2 (by omega)] at h3
            have hs : snd x y = true := decide_eq_true (by omega)
            rw [hs]
            clear n1 n2 r1 r2 bx bY h hs hx' hy' hM hm hn
            rcases hle with e | e <;> rw [e] at ho <;> clear e
            all_goals
              go_enter Tryz.func178, Tryz.ntmps178
              go_wp2_with fail
              refine (H1.out _).mono ?_
              rintro e w1 ⟨rfl, rfl⟩
              go_wp2_with fail
              refine (H2.out _).mono ?_
              rintro e w1 ⟨rfl, rfl⟩
              go_wp2
              go_ret
              exact ⟨rfl, rfl⟩
    · have ho : FloatKind.f64.format.order x y = none := order_nan_right x (by omega)
      have hs : snd x y = false := decide_eq_false (by omega)
      rw [hs]
      clear n1 n2 r1 r2 hs hx' hy' hM
      go_enter Tryz.func178, Tryz.ntmps178
      go_wp2
      go_ret
      exact ⟨rfl, rfl⟩
  · have ho : FloatKind.f64.format.order x y = none := order_nan_left y (by omega)
    have hs : snd x y = false := decide_eq_false (by omega)
    rw [hs]
    clear n1 n2 r1 r2 hs hx' hM
    go_enter Tryz.func178, Tryz.ntmps178
    go_wp2
    go_ret
    exact ⟨rfl, rfl⟩

end Go.Proofs.YtmjkmoahkanblaaGreat

namespace Go.Proofs.YtmjkmoahkanblaaGreat
open Go.RowKit
theorem run_store_float (P : Program) (w : World) (a : Addr) (m : Mode) (k : FloatKind) (b : Nat) : (store a (.float k b) m).run P w = stored P w a (.float k b) m := run_store P w a _ m rfl
attribute [local go_sem] run_store_float

set_option maxHeartbeats 1600000 in
theorem emptyf (w : World) : Calls Tryz.prog 51 #[] w fun e w' => e = .returned (.agg #[.float .f64 9218868437227405312, .float .f64 18442240474082181120]) ∧ Below w.heap.size w w' := by
  have H1 := Lib.hid inf_pos
  have H2 := Lib.hid inf_neg
  have LB0 := Lib.hid (show Below w.heap.size w (w.alloc (.cells #[.float .f64 0, .float .f64 0] 29)) from (below_alloc w _))
  have LR0 := Lib.hid (HasBlk.of (n := 2) (Blk.at (W := w) (g := w.heap.size) (by simp <;> omega) 29 #[.float .f64 0, .float .f64 0]) rfl rfl)
  have ba := LB0.out
  clear LB0 LR0 ba
  go_enter Tryz.func51, Tryz.ntmps51
  go_wp2_with fail
  refine (H1.out _).mono ?_
  rintro e w1 ⟨rfl, rfl⟩
  go_wp2_with fail
  refine (H2.out _).mono ?_
  rintro e w1 ⟨rfl, rfl⟩
  go_wp2
  refine bodyPost_ret (v := .agg #[.float .f64 9218868437227405312, .float .f64 18442240474082181120]) (by simp [results, Tryz.results51, go_sem]) rfl ?_
  exact have b := (below_alloc w _); ⟨rfl, b⟩

set_option maxHeartbeats 3200000 in
theorem readf (x y : Nat) (w : World) (hx : x < 18446744073709551616) (hy : y < 18446744073709551616) : Calls Tryz.prog 119 #[.agg #[.float .f64 x, .float .f64 y]] w fun e w' => e = .returned (.agg #[.float .f64 (pat (rd x y).1), .float .f64 (pat (rd x y).2)]) ∧ Below w.heap.size w w' := by
  have HS := Lib.hid fun W => soundf x y W hx hy
  obtain ⟨s, hs⟩ : ∃ s, snd x y = s := ⟨_, rfl⟩
  rw [hs] at HS
  unfold rd
  rw [hs]
  cases s
  · simp only [Bool.false_eq_true, if_false]
    rw [pat_max, pat_min]
    clear hs
    have HE := Lib.hid emptyf
    have LB0 := Lib.hid (show Below w.heap.size w ((w.alloc (.cells #[.float .f64 x, .float .f64 y] 29)).alloc (.cells #[.float .f64 0, .float .f64 0] 29)) from ((below_alloc w _).alloc (by simp <;> omega) _))
    have LG0_0 := Lib.hid (((Blk.at (W := w) (g := w.heap.size) (by simp <;> omega) 29 #[.float .f64 x, .float .f64 y]).alloc (.cells #[.float .f64 0, .float .f64 0] 29)))
    have LR0 := Lib.hid (HasBlk.of (n := 2) (Blk.at (W := (w.alloc (.cells #[.float .f64 x, .float .f64 y] 29))) (g := (w.heap.size + 1)) (by simp <;> omega) 29 #[.float .f64 0, .float .f64 0]) rfl rfl)
    go_enter Tryz.func119, Tryz.ntmps119
    go_wp2_with fail
    refine (HS.out _).mono ?_
    rintro e w1 ⟨rfl, rfl⟩
    go_wp2_with fail
    refine (HE.out _).mono ?_
    rintro e w2 ⟨rfl, hb2⟩
    have LB1 := Lib.hid (LB0.out.trans (hb2.mono LB0.out.size))
    have LR1 := Lib.hid (LR0.out.keep hb2)
    have LG0_1 := Lib.hid (LG0_0.out.keep hb2)
    clear LB0 LR0 LG0_0
    clear hb2
    have ha0 := LR1.out.someCell 0 (by decide)
    have hf0 := LR1.out.frozen 0
    have ha1 := LR1.out.someCell 1 (by decide)
    have hf1 := LR1.out.frozen 1
    have hk0 := LR1.out.setCell [.float .f64 9218868437227405312, .float .f64 18442240474082181120] rfl 0 (by decide)
    have hk1 := LR1.out.setCell [.float .f64 9218868437227405312, .float .f64 18442240474082181120] rfl 1 (by decide)
    have F := Lib.hid (below_sets (w0 := w) (r := (w.heap.size + 1)) (by omega) [.float .f64 9218868437227405312, .float .f64 18442240474082181120] 0 _ LB1.out)
    simp [sets] at hk0 hk1
    go_wp2
    refine bodyPost_ret (v := .agg #[.float .f64 9218868437227405312, .float .f64 18442240474082181120]) (by simp [results, Tryz.results119, go_sem, hk0, hk1]) rfl ?_
    exact ⟨rfl, F.out⟩
  · simp only [if_true]
    have hd := of_decide_eq_true hs
    have P1 := Lib.hid fun W => (plainf x W hx hd.1).mono (R' := fun e w' => e = .returned (.float .f64 (pat (idx x))) ∧ Below W.heap.size W w') (by rintro e w' ⟨h, rfl⟩; exact ⟨h, Below.refl _ _⟩)
    have P2 := Lib.hid fun W => (plainf y W hy hd.2.1).mono (R' := fun e w' => e = .returned (.float .f64 (pat (idx y))) ∧ Below W.heap.size W w') (by rintro e w' ⟨h, rfl⟩; exact ⟨h, Below.refl _ _⟩)
    obtain ⟨p, hp⟩ : ∃ p, pat (idx x) = p := ⟨_, rfl⟩
    obtain ⟨q, hq⟩ : ∃ p, pat (idx y) = p := ⟨_, rfl⟩
    rw [hp] at P1 ⊢
    rw [hq] at P2 ⊢
    clear hs hd hp hq
    have LB0 := Lib.hid (show Below w.heap.size w ((w.alloc (.cells #[.float .f64 x, .float .f64 y] 29)).alloc (.cells #[.float .f64 0, .float .f64 0] 29)) from ((below_alloc w _).alloc (by simp <;> omega) _))
    have LG0_0 := Lib.hid (((Blk.at (W := w) (g := w.heap.size) (by simp <;> omega) 29 #[.float .f64 x, .float .f64 y]).alloc (.cells #[.float .f64 0, .float .f64 0] 29)))
    have LR0 := Lib.hid (HasBlk.of (n := 2) (Blk.at (W := (w.alloc (.cells #[.float .f64 x, .float .f64 y] 29))) (g := (w.heap.size + 1)) (by simp <;> omega) 29 #[.float .f64 0, .float .f64 0]) rfl rfl)
    go_enter Tryz.func119, Tryz.ntmps119
    go_wp2_with fail
    refine (HS.out _).mono ?_
    rintro e w1 ⟨rfl, rfl⟩
    go_wp2_with fail
    refine wp_region_held_drew (S := fun W' => Blk W' w.heap.size 29 #[.float .f64 x, .float .f64 y] ∧ HasBlk W' (w.heap.size + 1) 29 2 ∧ Below w.heap.size w W') (by kernel_rfl) (by exact ⟨LG0_0.out.drew, LR0.out.drew, LB0.out.drew⟩) (fun hHeld => ?_)
    refine wpAnyH_take (i := 0) (v := ?_) rfl (by kernel_rfl) (by kernel_rfl) (by kernel_rfl) (fun _ _ _ h => h) (Or.inl ⟨by rfl, ?_⟩) (by assumption) ?_
    rotate_left
    · (intro W2 hSw; go_simp; (try with_reducible rfl))
    try simp only [Act.put, List.getElem_toArray, List.getElem_cons_succ, List.getElem_cons_zero, List.setIfInBounds_toArray, List.set_cons_zero, List.set_cons_succ]
    refine wpAnyH_take (i := 1) (v := ?_) rfl (by kernel_rfl) (by kernel_rfl) (by kernel_rfl) (fun _ _ _ h => h) (Or.inl ⟨by rfl, ?_⟩) (by assumption) ?_
    rotate_left
    · (intro W2 hSw; (try dsimp only at hSw); have q0 : _ = some (.float .f64 x : Value) := hSw.1.cell 0; have q1 : _ = some (.float .f64 y : Value) := hSw.1.cell 1; go_simp; (try with_reducible rfl))
    try simp only [Act.put, List.getElem_toArray, List.getElem_cons_succ, List.getElem_cons_zero, List.setIfInBounds_toArray, List.set_cons_zero, List.set_cons_succ]
    refine wpAnyH_take (i := 3) (v := ?_) rfl (by kernel_rfl) (by kernel_rfl) (by kernel_rfl) (fun _ _ _ h => h) (Or.inl ⟨by rfl, ?_⟩) (by assumption) ?_
    rotate_left
    · (intro W2 hSw; go_simp; (try with_reducible rfl))
    try simp only [Act.put, List.getElem_toArray, List.getElem_cons_succ, List.getElem_cons_zero, List.setIfInBounds_toArray, List.set_cons_zero, List.set_cons_succ]
    refine wpAnyH_take (i := 4) (v := ?_) rfl (by kernel_rfl) (by kernel_rfl) (by kernel_rfl) (fun _ _ _ h => h) (Or.inl ⟨by rfl, ?_⟩) (by assumption) ?_
    rotate_left
    · (intro W2 hSw; (try dsimp only at hSw); have q0 : _ = some (.float .f64 x : Value) := hSw.1.cell 0; have q1 : _ = some (.float .f64 y : Value) := hSw.1.cell 1; go_simp; (try with_reducible rfl))
    try simp only [Act.put, List.getElem_toArray, List.getElem_cons_succ, List.getElem_cons_zero, List.setIfInBounds_toArray, List.set_cons_zero, List.set_cons_succ]
    refine wpAnyH_ready (rs := [2]) (by kernel_rfl) (by simp) ?_
    refine AllReadyH.cons rfl (fun KK hKK => ?_) AllReadyH.nil
    go_simp
    refine (P1.out _).mono ?_
    rintro e w2 ⟨rfl, hb2⟩
    go_wp2_with fail
    refine hKK.out _ _ (⟨hHeld.1.keep hb2, hHeld.2.1.keep hb2, hHeld.2.2.trans (hb2.mono hHeld.2.2.size)⟩) (fun _ => ?_)
    clear hKK KK hHeld; rename_i hHeld
    try simp only [Act.put, List.getElem_toArray, List.getElem_cons_succ, List.getElem_cons_zero, List.setIfInBounds_toArray, List.set_cons_zero, List.set_cons_succ]
    refine wpAnyH_ready (rs := [5]) (by kernel_rfl) (by simp) ?_
    refine AllReadyH.cons rfl (fun KK hKK => ?_) AllReadyH.nil
    go_simp
    refine (P2.out _).mono ?_
    rintro e w3 ⟨rfl, hb3⟩
    go_wp2_with fail
    refine hKK.out _ _ (⟨hHeld.1.keep hb3, hHeld.2.1.keep hb3, hHeld.2.2.trans (hb3.mono hHeld.2.2.size)⟩) (fun _ => ?_)
    clear hKK KK hHeld; rename_i hHeld
    try simp only [Act.put, List.getElem_toArray, List.getElem_cons_succ, List.getElem_cons_zero, List.setIfInBounds_toArray, List.set_cons_zero, List.set_cons_succ]
    refine wpAnyH_take (i := 6) (v := ?_) rfl (by kernel_rfl) (by kernel_rfl) (by kernel_rfl) (fun _ _ _ h => h) (Or.inl ⟨by rfl, ?_⟩) (by assumption) ?_
    rotate_left
    · (intro W2 hSw; go_simp; (try with_reducible rfl))
    try simp only [Act.put, List.getElem_toArray, List.getElem_cons_succ, List.getElem_cons_zero, List.setIfInBounds_toArray, List.set_cons_zero, List.set_cons_succ]
    refine wpAnyH_ready (rs := [7]) (by kernel_rfl) (by simp) ?_
    refine AllReadyH.cons rfl (fun KK hKK => ?_) AllReadyH.nil
    have ha0 := hHeld.2.1.someCell 0 (by decide); have hf0 := hHeld.2.1.frozen 0; have ha1 := hHeld.2.1.someCell 1 (by decide); have hf1 := hHeld.2.1.frozen 1; have HK := Lib.hid (hHeld.2.1.setCell [.float .f64 p, .float .f64 q] rfl); have F := Lib.hid (below_sets (w0 := w) (r := (w.heap.size + 1)) (by omega) [.float .f64 p, .float .f64 q] 0 _ hHeld.2.2)
    go_simp
    refine hKK.out _ _ (⟨hHeld.1.other (by omega) 0 [.float .f64 p, .float .f64 q], hHeld.2.1.sets [.float .f64 p, .float .f64 q] rfl rfl, below_sets (by omega) [.float .f64 p, .float .f64 q] 0 _ hHeld.2.2⟩) (fun _ => ?_)
    clear hKK KK hHeld; rename_i hHeld
    try simp only [Act.put, List.getElem_toArray, List.getElem_cons_succ, List.getElem_cons_zero, List.setIfInBounds_toArray, List.set_cons_zero, List.set_cons_succ]
    refine wpAnyH_done (by kernel_rfl) ?_ _
    have hk0 := HK.out 0 (by decide)
    have hk1 := HK.out 1 (by decide)
    simp [sets] at hk0 hk1
    clear hHeld HK hb2 hb3
    clear LB0 LR0 LG0_0
    go_wp2
    refine bodyPost_ret (v := .agg #[.float .f64 p, .float .f64 q]) (by simp [results, Tryz.results119, go_sem, hk0, hk1]) rfl ?_
    exact ⟨rfl, F.out⟩

end Go.Proofs.YtmjkmoahkanblaaGreat

namespace Go.Proofs.YtmjkmoahkanblaaGreat
open Go.RowKit
attribute [local go_sem] run_store_float

theorem order_pat {i j : Int} (h1 : -(M : Int) ≤ i) (h2 : i ≤ M) (h3 : -(M : Int) ≤ j) (h4 : j ≤ M) : FloatKind.f64.format.order (pat i) (pat j) = some (compare i j) := by
  have h := order_real (x := pat i) (y := pat j) (by show rungOf _ ≤ M; rw [rung_pat h1 h2]; omega) (by show rungOf _ ≤ M; rw [rung_pat h3 h4]; omega)
  rw [idx_pat h1 h2, idx_pat h3 h4] at h
  exact h
theorem emptyq (i j : Int) (w : World) (h1 : -(M : Int) ≤ i ∧ i ≤ M) (h2 : -(M : Int) ≤ j ∧ j ≤ M) : Calls Tryz.prog 186 #[.agg #[.float .f64 (pat i), .float .f64 (pat j)]] w fun e w' => e = .returned (.bool (decide (j < i))) ∧ Below w.heap.size w w' := by
  have ho := order_pat h1.1 h1.2 h2.1 h2.2
  obtain ⟨p, hp⟩ : ∃ p, pat i = p := ⟨_, rfl⟩
  obtain ⟨q, hq⟩ : ∃ p, pat j = p := ⟨_, rfl⟩
  rw [hp, hq] at ho
  rw [hp, hq]
  clear hp hq h1 h2
  have hb := Lib.hid fun cs => below_alloc w (.cells cs 29)
  rcases Int.lt_trichotomy i j with h | h | h
  · rw [show compare i j = .lt from Int.compare_eq_lt.2 h] at ho
    rw [decide_eq_false (show ¬ j < i by omega)]
    clear h
    go_enter Tryz.func186, Tryz.ntmps186
    go_wp2
    go_ret
    exact ⟨rfl, hb.out _⟩
  · rw [show compare i j = .eq from Int.compare_eq_eq.2 h] at ho
    rw [decide_eq_false (show ¬ j < i by omega)]
    clear h
    go_enter Tryz.func186, Tryz.ntmps186
    go_wp2
    go_ret
    exact ⟨rfl, hb.out _⟩
  · rw [show compare i j = .gt from Int.compare_eq_gt.2 h] at ho
    rw [decide_eq_true (show j < i by omega)]
    clear h
    go_enter Tryz.func186, Tryz.ntmps186
    go_wp2
    go_ret
    exact ⟨rfl, hb.out _⟩
theorem run_negf (P : Program) (b : Nat) (w : World) : (Op.unary .neg (.float .f64 b)).run P w = .ok (.float .f64 (Op.negFloat .f64 b)) w := rfl
attribute [local go_sem] run_negf
theorem negFloat_val {b : Nat} (hb : b < 18446744073709551616) : Op.negFloat .f64 b < 18446744073709551616 ∧ rungOf (Op.negFloat .f64 b) = rungOf b ∧ idx (Op.negFloat .f64 b) = -idx b := by
  have e : Op.negFloat .f64 b = b ^^^ 2^63 := rfl
  have h := pat_cases hb
  have hx : b ^^^ 2^63 = if b < 9223372036854775808 then b + 9223372036854775808 else b - 9223372036854775808 := by
    apply Nat.eq_of_testBit_eq
    intro k
    rw [Nat.testBit_xor, Nat.testBit_two_pow]
    split
    · rename_i hlt
      have hj := nat_join 63 (2^63) b (by decide) (by exact hlt)
      rw [show b + 9223372036854775808 = 2^63 + b from by omega, ← hj, Nat.testBit_or, Nat.testBit_two_pow]
      by_cases hk : 63 = k
      · subst hk
        have : b.testBit 63 = false := Nat.testBit_lt_two_pow (by exact hlt)
        simp [this]
      · simp [hk]
    · rename_i hge
      have hsub : b - 9223372036854775808 < 2^63 := by omega
      have hj := nat_join 63 (2^63) (b - 9223372036854775808) (by decide) hsub
      have hb2 : b = 2^63 ||| (b - 9223372036854775808) := by rw [hj]; omega
      have hbit : b.testBit k = (decide (63 = k) || (b - 9223372036854775808).testBit k) := by
        conv => lhs; rw [hb2]
        rw [Nat.testBit_or, Nat.testBit_two_pow]
      rw [hbit]
      by_cases hk : 63 = k
      · subst hk
        have : (b - 9223372036854775808).testBit 63 = false := Nat.testBit_lt_two_pow hsub
        simp [this]
      · simp [hk]
  rw [e, hx]
  split
  · have h2 := pat_cases (b := b + 9223372036854775808) (by omega)
    exact ⟨by omega, by omega, by omega⟩
  · have h2 := pat_cases (b := b - 9223372036854775808) (by omega)
    exact ⟨by omega, by omega, by omega⟩
set_option maxHeartbeats 3200000 in
theorem turnedf (i j : Int) (w : World) (h1 : -(M : Int) ≤ i ∧ i ≤ M) (h2 : -(M : Int) ≤ j ∧ j ≤ M) : Calls Tryz.prog 187 #[.agg #[.float .f64 (pat i), .float .f64 (pat j)]] w fun e w' => e = .returned (.agg #[.float .f64 (pat (-j)), .float .f64 (pat (-i))]) ∧ Below w.heap.size w w' := by
  have n1 := negFloat_val (pat_lt h1.1 h1.2)
  have n2 := negFloat_val (pat_lt h2.1 h2.2)
  have P1 := Lib.hid fun W => (plainf (Op.negFloat .f64 (pat i)) W n1.1 (by rw [n1.2.1, rung_pat h1.1 h1.2]; omega)).mono (R' := fun e w' => e = .returned (.float .f64 (pat (idx (Op.negFloat .f64 (pat i))))) ∧ Below W.heap.size W w') (by rintro e w' ⟨h, rfl⟩; exact ⟨h, Below.refl _ _⟩)
  have P2 := Lib.hid fun W => (plainf (Op.negFloat .f64 (pat j)) W n2.1 (by rw [n2.2.1, rung_pat h2.1 h2.2]; omega)).mono (R' := fun e w' => e = .returned (.float .f64 (pat (idx (Op.negFloat .f64 (pat j))))) ∧ Below W.heap.size W w') (by rintro e w' ⟨h, rfl⟩; exact ⟨h, Below.refl _ _⟩)
  rw [n1.2.2, idx_pat h1.1 h1.2] at P1
  rw [n2.2.2, idx_pat h2.1 h2.2] at P2
  obtain ⟨p, hp⟩ : ∃ p, pat i = p := ⟨_, rfl⟩
  obtain ⟨q, hq⟩ : ∃ p, pat j = p := ⟨_, rfl⟩
  obtain ⟨p2, hp2⟩ : ∃ p, pat (-i) = p := ⟨_, rfl⟩
  obtain ⟨q2, hq2⟩ : ∃ p, pat (-j) = p := ⟨_, rfl⟩
  rw [hp, hp2] at P1
  rw [hq, hq2] at P2
  rw [hp, hq, hp2, hq2]
  clear n1 n2 hp hq hp2 hq2 h1 h2
  have LB0 := Lib.hid (show Below w.heap.size w ((w.alloc (.cells #[.float .f64 p, .float .f64 q] 29)).alloc (.cells #[.float .f64 0, .float .f64 0] 29)) from ((below_alloc w _).alloc (by simp <;> omega) _))
  have LG0_0 := Lib.hid (((Blk.at (W := w) (g := w.heap.size) (by simp <;> omega) 29 #[.float .f64 p, .float .f64 q]).alloc (.cells #[.float .f64 0, .float .f64 0] 29)))
  have LR0 := Lib.hid (HasBlk.of (n := 2) (Blk.at (W := (w.alloc (.cells #[.float .f64 p, .float .f64 q] 29))) (g := (w.heap.size + 1)) (by simp <;> omega) 29 #[.float .f64 0, .float .f64 0]) rfl rfl)
  go_enter Tryz.func187, Tryz.ntmps187
  go_wp2_with fail
  refine wp_region_held_drew (S := fun W' => Blk W' w.heap.size 29 #[.float .f64 p, .float .f64 q] ∧ HasBlk W' (w.heap.size + 1) 29 2 ∧ Below w.heap.size w W') (by kernel_rfl) (by exact ⟨LG0_0.out.drew, LR0.out.drew, LB0.out.drew⟩) (fun hHeld => ?_)
  refine wpAnyH_take (i := 0) (v := ?_) rfl (by kernel_rfl) (by kernel_rfl) (by kernel_rfl) (fun _ _ _ h => h) (Or.inl ⟨by rfl, ?_⟩) (by assumption) ?_
  rotate_left
  · (intro W2 hSw; go_simp; (try with_reducible rfl))
  try simp only [Act.put, List.getElem_toArray, List.getElem_cons_succ, List.getElem_cons_zero, List.setIfInBounds_toArray, List.set_cons_zero, List.set_cons_succ]
  refine wpAnyH_take (i := 1) (v := ?_) rfl (by kernel_rfl) (by kernel_rfl) (by kernel_rfl) (fun _ _ _ h => h) (Or.inl ⟨by rfl, ?_⟩) (by assumption) ?_
  rotate_left
  · (intro W2 hSw; (try dsimp only at hSw); have q0 : _ = some (.float .f64 p : Value) := hSw.1.cell 0; have q1 : _ = some (.float .f64 q : Value) := hSw.1.cell 1; go_simp; (try with_reducible rfl))
  try simp only [Act.put, List.getElem_toArray, List.getElem_cons_succ, List.getElem_cons_zero, List.setIfInBounds_toArray, List.set_cons_zero, List.set_cons_succ]
  refine wpAnyH_take (i := 2) (v := ?_) rfl (by kernel_rfl) (by kernel_rfl) (by kernel_rfl) (fun _ _ _ h => h) (Or.inl ⟨by rfl, ?_⟩) (by assumption) ?_
  rotate_left
  · (intro W2 hSw; go_simp; (try with_reducible rfl))
  try simp only [Act.put, List.getElem_toArray, List.getElem_cons_succ, List.getElem_cons_zero, List.setIfInBounds_toArray, List.set_cons_zero, List.set_cons_succ]
  refine wpAnyH_take (i := 4) (v := ?_) rfl (by kernel_rfl) (by kernel_rfl) (by kernel_rfl) (fun _ _ _ h => h) (Or.inl ⟨by rfl, ?_⟩) (by assumption) ?_
  rotate_left
  · (intro W2 hSw; go_simp; (try with_reducible rfl))
  try simp only [Act.put, List.getElem_toArray, List.getElem_cons_succ, List.getElem_cons_zero, List.setIfInBounds_toArray, List.set_cons_zero, List.set_cons_succ]
  refine wpAnyH_take (i := 5) (v := ?_) rfl (by kernel_rfl) (by kernel_rfl) (by kernel_rfl) (fun _ _ _ h => h) (Or.inl ⟨by rfl, ?_⟩) (by assumption) ?_
  rotate_left
  · (intro W2 hSw; (try dsimp only at hSw); have q0 : _ = some (.float .f64 p : Value) := hSw.1.cell 0; have q1 : _ = some (.float .f64 q : Value) := hSw.1.cell 1; go_simp; (try with_reducible rfl))
  try simp only [Act.put, List.getElem_toArray, List.getElem_cons_succ, List.getElem_cons_zero, List.setIfInBounds_toArray, List.set_cons_zero, List.set_cons_succ]
  refine wpAnyH_take (i := 6) (v := ?_) rfl (by kernel_rfl) (by kernel_rfl) (by kernel_rfl) (fun _ _ _ h => h) (Or.inl ⟨by rfl, ?_⟩) (by assumption) ?_
  rotate_left
  · (intro W2 hSw; go_simp; (try with_reducible rfl))
  try simp only [Act.put, List.getElem_toArray, List.getElem_cons_succ, List.getElem_cons_zero, List.setIfInBounds_toArray, List.set_cons_zero, List.set_cons_succ]
  refine wpAnyH_ready (rs := [3]) (by kernel_rfl) (by simp) ?_
  refine AllReadyH.cons rfl (fun KK hKK => ?_) AllReadyH.nil
  go_simp
  refine (P2.out _).mono ?_
  rintro e w2 ⟨rfl, hb2⟩
  go_wp2_with fail
  refine hKK.out _ _ (⟨hHeld.1.keep hb2, hHeld.2.1.keep hb2, hHeld.2.2.trans (hb2.mono hHeld.2.2.size)⟩) (fun _ => ?_)
  clear hKK KK hHeld; rename_i hHeld
  try simp only [Act.put, List.getElem_toArray, List.getElem_cons_succ, List.getElem_cons_zero, List.setIfInBounds_toArray, List.set_cons_zero, List.set_cons_succ]
  refine wpAnyH_ready (rs := [7]) (by kernel_rfl) (by simp) ?_
  refine AllReadyH.cons rfl (fun KK hKK => ?_) AllReadyH.nil
  go_simp
  refine (P1.out _).mono ?_
  rintro e w3 ⟨rfl, hb3⟩
  go_wp2_with fail
  refine hKK.out _ _ (⟨hHeld.1.keep hb3, hHeld.2.1.keep hb3, hHeld.2.2.trans (hb3.mono hHeld.2.2.size)⟩) (fun _ => ?_)
  clear hKK KK hHeld; rename_i hHeld
  try simp only [Act.put, List.getElem_toArray, List.getElem_cons_succ, List.getElem_cons_zero, List.setIfInBounds_toArray, List.set_cons_zero, List.set_cons_succ]
  refine wpAnyH_take (i := 8) (v := ?_) rfl (by kernel_rfl) (by kernel_rfl) (by kernel_rfl) (fun _ _ _ h => h) (Or.inl ⟨by rfl, ?_⟩) (by assumption) ?_
  rotate_left
  · (intro W2 hSw; go_simp; (try with_reducible rfl))
  try simp only [Act.put, List.getElem_toArray, List.getElem_cons_succ, List.getElem_cons_zero, List.setIfInBounds_toArray, List.set_cons_zero, List.set_cons_succ]
  refine wpAnyH_ready (rs := [9]) (by kernel_rfl) (by simp) ?_
  refine AllReadyH.cons rfl (fun KK hKK => ?_) AllReadyH.nil
  have ha0 := hHeld.2.1.someCell 0 (by decide); have hf0 := hHeld.2.1.frozen 0; have ha1 := hHeld.2.1.someCell 1 (by decide); have hf1 := hHeld.2.1.frozen 1; have HK := Lib.hid (hHeld.2.1.setCell [.float .f64 q2, .float .f64 p2] rfl); have F := Lib.hid (below_sets (w0 := w) (r := (w.heap.size + 1)) (by omega) [.float .f64 q2, .float .f64 p2] 0 _ hHeld.2.2)
  go_simp
  refine hKK.out _ _ (⟨hHeld.1.other (by omega) 0 [.float .f64 q2, .float .f64 p2], hHeld.2.1.sets [.float .f64 q2, .float .f64 p2] rfl rfl, below_sets (by omega) [.float .f64 q2, .float .f64 p2] 0 _ hHeld.2.2⟩) (fun _ => ?_)
  clear hKK KK hHeld; rename_i hHeld
  try simp only [Act.put, List.getElem_toArray, List.getElem_cons_succ, List.getElem_cons_zero, List.setIfInBounds_toArray, List.set_cons_zero, List.set_cons_succ]
  refine wpAnyH_done (by kernel_rfl) ?_ _
  have hk0 := HK.out 0 (by decide)
  have hk1 := HK.out 1 (by decide)
  simp [sets] at hk0 hk1
  clear hHeld HK hb2 hb3
  clear LB0 LR0 LG0_0
  go_wp2
  refine bodyPost_ret (v := .agg #[.float .f64 q2, .float .f64 p2]) (by simp [results, Tryz.results187, go_sem, hk0, hk1]) rfl ?_
  exact ⟨rfl, F.out⟩

set_option maxHeartbeats 3200000 in
theorem negf (x y : Nat) (w : World) (hx : x < 18446744073709551616) (hy : y < 18446744073709551616) : Calls Tryz.prog 129 #[.agg #[.float .f64 x, .float .f64 y]] w fun e w' => e = .returned (.agg #[.float .f64 (pat (-(rd x y).2)), .float .f64 (pat (-(rd x y).1))]) ∧ Below w.heap.size w w' := by
  have HR := Lib.hid fun W => readf x y W hx hy
  have hiv := rd_iv x y
  obtain ⟨i, hi⟩ : ∃ i, (rd x y).1 = i := ⟨_, rfl⟩
  obtain ⟨j, hj⟩ : ∃ i, (rd x y).2 = i := ⟨_, rfl⟩
  rw [hi, hj] at HR hiv ⊢
  have HQ := Lib.hid fun W => emptyq i j W hiv.lo hiv.hi
  have HT := Lib.hid fun W => turnedf i j W hiv.lo hiv.hi
  have hE : j < i → i = M ∧ j = -(M : Int) := by
    intro h
    unfold Iv at hiv
    omega
  obtain ⟨p, hp⟩ : ∃ p, pat i = p := ⟨_, rfl⟩
  obtain ⟨q, hq⟩ : ∃ p, pat j = p := ⟨_, rfl⟩
  obtain ⟨p2, hp2⟩ : ∃ p, pat (-i) = p := ⟨_, rfl⟩
  obtain ⟨q2, hq2⟩ : ∃ p, pat (-j) = p := ⟨_, rfl⟩
  rw [hp, hq] at HR HQ HT
  rw [hp2, hq2] at HT ⊢
  obtain ⟨b, hb⟩ : ∃ b, decide (j < i) = b := ⟨_, rfl⟩
  rw [hb] at HQ
  have HE2 : b = true → p = q2 ∧ q = p2 := by
    intro h
    rw [h] at hb
    obtain ⟨e1, e2⟩ := hE (of_decide_eq_true hb)
    rw [← hp, ← hq2, ← hq, ← hp2, e1, e2, Int.neg_neg]
    exact ⟨rfl, rfl⟩
  have HE := Lib.hid HE2
  clear hi hj hiv hE hp hq hp2 hq2 hb HE2
  cases b
  · skip
    have LB0 := Lib.hid (show Below w.heap.size w ((w.alloc (.cells #[.float .f64 x, .float .f64 y] 29)).alloc (.cells #[.float .f64 0, .float .f64 0] 29)) from ((below_alloc w _).alloc (by simp <;> omega) _))
    have LG0_0 := Lib.hid (((Blk.at (W := w) (g := w.heap.size) (by simp <;> omega) 29 #[.float .f64 x, .float .f64 y]).alloc (.cells #[.float .f64 0, .float .f64 0] 29)))
    have LR0 := Lib.hid (HasBlk.of (n := 2) (Blk.at (W := (w.alloc (.cells #[.float .f64 x, .float .f64 y] 29))) (g := (w.heap.size + 1)) (by simp <;> omega) 29 #[.float .f64 0, .float .f64 0]) rfl rfl)
    go_enter Tryz.func129, Tryz.ntmps129
    go_wp2_with fail
    refine (HR.out _).mono ?_
    rintro e w1 ⟨rfl, hb1⟩
    have LB1 := Lib.hid (LB0.out.trans (hb1.mono LB0.out.size))
    have LR1 := Lib.hid (LR0.out.keep hb1)
    have LG0_1 := Lib.hid (LG0_0.out.keep hb1)
    clear LB0 LR0 LG0_0
    clear hb1
    have q0_0 : _ = some (.float .f64 x : Value) := LG0_1.out.cell 0
    have q0_1 : _ = some (.float .f64 y : Value) := LG0_1.out.cell 1
    have hf0 := LG0_1.out.frozen 0
    have hf1 := LG0_1.out.frozen 1
    go_upto_region 2 with fail
    clear q0_0 q0_1 hf0 hf1
    have LB2 := Lib.hid (below_sets (w0 := w) (show w.heap.size ≤ w.heap.size by omega) [.float .f64 p, .float .f64 q] 0 w1 LB1.out)
    have LR2 := Lib.hid (LR1.out.other (r := w.heap.size) (by omega) 0 [.float .f64 p, .float .f64 q])
    have LG0_2 := Lib.hid (show Blk (sets w1 w.heap.size 0 [.float .f64 p, .float .f64 q]) w.heap.size 29 #[.float .f64 p, .float .f64 q] from by have hbs := Blk.sets [.float .f64 p, .float .f64 q] 0 w1 _ LG0_1.out; simpa [laid] using hbs)
    clear LB1 LR1 LG0_1
    obtain ⟨V1, hV1⟩ : ∃ X, (sets w1 w.heap.size 0 [.float .f64 p, .float .f64 q]) = X := ⟨_, rfl⟩
    rw [hV1] at LB2 LR2 LG0_2
    rw [show ((w1.setCell ⟨w.heap.size, 0, none⟩ (.float .f64 p)).setCell ⟨w.heap.size, 1, none⟩ (.float .f64 q)) = V1 from hV1]
    clear hV1
    have q0_0 : _ = some (.float .f64 p : Value) := LG0_2.out.cell 0
    have q0_1 : _ = some (.float .f64 q : Value) := LG0_2.out.cell 1
    go_wp2_with fail
    refine (HQ.out _).mono ?_
    rintro e w2 ⟨rfl, hb2⟩
    have LB3 := Lib.hid (LB2.out.trans (hb2.mono LB2.out.size))
    have LR3 := Lib.hid (LR2.out.keep hb2)
    have LG0_3 := Lib.hid (LG0_2.out.keep hb2)
    clear LB2 LR2 LG0_2
    clear hb2 q0_0 q0_1
    have q0_0 : _ = some (.float .f64 p : Value) := LG0_3.out.cell 0
    have q0_1 : _ = some (.float .f64 q : Value) := LG0_3.out.cell 1
    go_wp2_with fail
    refine (HT.out _).mono ?_
    rintro e w3 ⟨rfl, hb3⟩
    have LB4 := Lib.hid (LB3.out.trans (hb3.mono LB3.out.size))
    have LR4 := Lib.hid (LR3.out.keep hb3)
    have LG0_4 := Lib.hid (LG0_3.out.keep hb3)
    clear LB3 LR3 LG0_3
    clear hb3 q0_0 q0_1
    have ha0 := LR4.out.someCell 0 (by decide)
    have hf0 := LR4.out.frozen 0
    have ha1 := LR4.out.someCell 1 (by decide)
    have hf1 := LR4.out.frozen 1
    have hk0 := LR4.out.setCell [.float .f64 q2, .float .f64 p2] rfl 0 (by decide)
    have hk1 := LR4.out.setCell [.float .f64 q2, .float .f64 p2] rfl 1 (by decide)
    have F := Lib.hid (below_sets (w0 := w) (r := (w.heap.size + 1)) (by omega) [.float .f64 q2, .float .f64 p2] 0 _ LB4.out)
    simp [sets] at hk0 hk1
    go_wp2
    refine bodyPost_ret (v := .agg #[.float .f64 q2, .float .f64 p2]) (by simp [results, Tryz.results129, go_sem, hk0, hk1]) rfl ?_
    exact ⟨rfl, F.out⟩
  · skip
    have LB0 := Lib.hid (show Below w.heap.size w ((w.alloc (.cells #[.float .f64 x, .float .f64 y] 29)).alloc (.cells #[.float .f64 0, .float .f64 0] 29)) from ((below_alloc w _).alloc (by simp <;> omega) _))
    have LG0_0 := Lib.hid (((Blk.at (W := w) (g := w.heap.size) (by simp <;> omega) 29 #[.float .f64 x, .float .f64 y]).alloc (.cells #[.float .f64 0, .float .f64 0] 29)))
    have LR0 := Lib.hid (HasBlk.of (n := 2) (Blk.at (W := (w.alloc (.cells #[.float .f64 x, .float .f64 y] 29))) (g := (w.heap.size + 1)) (by simp <;> omega) 29 #[.float .f64 0, .float .f64 0]) rfl rfl)
    go_enter Tryz.func129, Tryz.ntmps129
    go_wp2_with fail
    refine (HR.out _).mono ?_
    rintro e w1 ⟨rfl, hb1⟩
    have LB1 := Lib.hid (LB0.out.trans (hb1.mono LB0.out.size))
    have LR1 := Lib.hid (LR0.out.keep hb1)
    have LG0_1 := Lib.hid (LG0_0.out.keep hb1)
    clear LB0 LR0 LG0_0
    clear hb1
    have q0_0 : _ = some (.float .f64 x : Value) := LG0_1.out.cell 0
    have q0_1 : _ = some (.float .f64 y : Value) := LG0_1.out.cell 1
    have hf0 := LG0_1.out.frozen 0
    have hf1 := LG0_1.out.frozen 1
    go_upto_region 2 with fail
    clear q0_0 q0_1 hf0 hf1
    have LB2 := Lib.hid (below_sets (w0 := w) (show w.heap.size ≤ w.heap.size by omega) [.float .f64 p, .float .f64 q] 0 w1 LB1.out)
    have LR2 := Lib.hid (LR1.out.other (r := w.heap.size) (by omega) 0 [.float .f64 p, .float .f64 q])
    have LG0_2 := Lib.hid (show Blk (sets w1 w.heap.size 0 [.float .f64 p, .float .f64 q]) w.heap.size 29 #[.float .f64 p, .float .f64 q] from by have hbs := Blk.sets [.float .f64 p, .float .f64 q] 0 w1 _ LG0_1.out; simpa [laid] using hbs)
    clear LB1 LR1 LG0_1
    obtain ⟨V1, hV1⟩ : ∃ X, (sets w1 w.heap.size 0 [.float .f64 p, .float .f64 q]) = X := ⟨_, rfl⟩
    rw [hV1] at LB2 LR2 LG0_2
    rw [show ((w1.setCell ⟨w.heap.size, 0, none⟩ (.float .f64 p)).setCell ⟨w.heap.size, 1, none⟩ (.float .f64 q)) = V1 from hV1]
    clear hV1
    have q0_0 : _ = some (.float .f64 p : Value) := LG0_2.out.cell 0
    have q0_1 : _ = some (.float .f64 q : Value) := LG0_2.out.cell 1
    go_wp2_with fail
    refine (HQ.out _).mono ?_
    rintro e w2 ⟨rfl, hb2⟩
    have LB3 := Lib.hid (LB2.out.trans (hb2.mono LB2.out.size))
    have LR3 := Lib.hid (LR2.out.keep hb2)
    have LG0_3 := Lib.hid (LG0_2.out.keep hb2)
    clear LB2 LR2 LG0_2
    clear hb2 q0_0 q0_1
    have q0_0 : _ = some (.float .f64 p : Value) := LG0_3.out.cell 0
    have q0_1 : _ = some (.float .f64 q : Value) := LG0_3.out.cell 1
    have ha0 := LR3.out.someCell 0 (by decide)
    have hf0 := LR3.out.frozen 0
    have ha1 := LR3.out.someCell 1 (by decide)
    have hf1 := LR3.out.frozen 1
    have hk0 := LR3.out.setCell [.float .f64 p, .float .f64 q] rfl 0 (by decide)
    have hk1 := LR3.out.setCell [.float .f64 p, .float .f64 q] rfl 1 (by decide)
    have F := Lib.hid (below_sets (w0 := w) (r := (w.heap.size + 1)) (by omega) [.float .f64 p, .float .f64 q] 0 _ LB3.out)
    simp [sets] at hk0 hk1
    go_wp2
    refine bodyPost_ret (v := .agg #[.float .f64 p, .float .f64 q]) (by simp [results, Tryz.results129, go_sem, hk0, hk1]) rfl ?_
    exact ⟨by rw [(HE.out trivial).1, (HE.out trivial).2], F.out⟩

end Go.Proofs.YtmjkmoahkanblaaGreat

namespace Go.Proofs.YtmjkmoahkanblaaGreat
open Go.RowKit

theorem num_neg_iff {x : Rat} : x.num < 0 ↔ x < 0 := by rw [← Int.not_le, Rat.num_nonneg, Rat.not_le]
theorem rat_rv (x : Rat) : rv (decide (x < 0)) x.num.natAbs x.den = x := by
  have h : (x.num : Rat) / (x.den : Rat) = x := by rw [← Rat.mkRat_eq_div, Rat.mkRat_self]
  unfold rv
  by_cases h0 : x < 0
  · have h1 : x.num < 0 := num_neg_iff.2 h0
    have h2 : ((x.num.natAbs : Nat) : Int) = -x.num := by omega
    have h3 : ((x.num.natAbs : Nat) : Rat) = -(x.num : Rat) := by rw [← Rat.intCast_natCast, h2, Rat.intCast_neg]
    simp only [h0, decide_true, if_true, h3, Rat.neg_neg]
    exact h
  · have h1 : ¬ x.num < 0 := fun h => h0 (num_neg_iff.1 h)
    have h2 : ((x.num.natAbs : Nat) : Int) = x.num := by omega
    have h3 : ((x.num.natAbs : Nat) : Rat) = (x.num : Rat) := by rw [← Rat.intCast_natCast, h2]
    simp only [h0, decide_false, h3]
    exact h

theorem Rnd.dir {d : Int} {x : Rat} {i : Int} (h : Rnd d x i) : d = -1 ∨ d = 1 := by
  rcases h with ⟨h, _⟩ | ⟨h, _⟩
  · exact .inl h
  · exact .inr h
theorem Rnd.unique {d : Int} {x : Rat} {i j : Int} (h : Rnd d x i) (h' : Rnd d x j) : i = j := by
  rcases h with ⟨rfl, a1, a2, a3⟩ | ⟨rfl, a1, a2, a3⟩
  · rcases h' with ⟨-, b1, b2, b3⟩ | ⟨h, _⟩
    · rcases Int.lt_trichotomy i j with h | h | h
      · have := (a3 j (by omega) b2).2 ((b3 j (by omega) b2).1 (Int.le_refl _)); omega
      · exact h
      · have := (b3 i (by omega) a2).2 ((a3 i (by omega) a2).1 (Int.le_refl _)); omega
    · omega
  · rcases h' with ⟨h, _⟩ | ⟨-, b1, b2, b3⟩
    · omega
    · rcases Int.lt_trichotomy i j with h | h | h
      · have := (b3 i a1 (by omega)).2 ((a3 i a1 (by omega)).1 (Int.le_refl _)); omega
      · exact h
      · have := (a3 j b1 (by omega)).2 ((b3 j b1 (by omega)).1 (Int.le_refl _)); omega

/-- A rational number, rounded in the direction d. -/
def rndI (d : Int) (x : Rat) : Int :=
  if x = 0 then 0 else sg (decide (x < 0)) (ansT x.num.natAbs x.den (fout x.num.natAbs x.den ((blen x.num.natAbs : Int) - blen x.den)) (decide (d = 1) != decide (x < 0)))
theorem rnd_rndI {d : Int} (hd : d = -1 ∨ d = 1) (x : Rat) : Rnd d x (rndI d x) := by
  unfold rndI
  by_cases h0 : x = 0
  · rw [if_pos h0, h0]; exact rnd_zero hd
  · rw [if_neg h0]
    have hp : 0 < x.num.natAbs := by
      have : x.num ≠ 0 := fun h => h0 (Rat.num_eq_zero.1 h)
      omega
    have h := rnd_ans (neg := decide (x < 0)) hp x.den_pos (fout_sc hp x.den_pos rfl) hd
    rw [rat_rv] at h
    exact h
theorem Rnd.eq {d : Int} {x : Rat} {i : Int} (h : Rnd d x i) : i = rndI d x := h.unique (rnd_rndI h.dir x)
theorem rndI_neg {d : Int} (hd : d = -1 ∨ d = 1) (x : Rat) : rndI (-d) (-x) = - rndI d x := ((rnd_rndI hd x).neg.eq).symm
theorem rndI_fl {d a : Int} (hd : d = -1 ∨ d = 1) (h0 : -(M : Int) < a) (h1 : a < M) : rndI d (fl a) = a := (rnd_rndI hd (fl a)).exact h0 h1
theorem rndI_zero {d : Int} (hd : d = -1 ∨ d = 1) : rndI d 0 = 0 := (rnd_zero hd).eq.symm
theorem rndI_down (x : Rat) : -(M : Int) ≤ rndI (-1) x ∧ rndI (-1) x < M ∧ ∀ j : Int, -(M : Int) < j → j < M → (j ≤ rndI (-1) x ↔ fl j ≤ x) := by
  rcases rnd_rndI (.inl rfl) x with ⟨-, h⟩ | ⟨h, _⟩
  · exact h
  · omega
theorem rndI_up (x : Rat) : -(M : Int) < rndI 1 x ∧ rndI 1 x ≤ M ∧ ∀ j : Int, -(M : Int) < j → j < M → (rndI 1 x ≤ j ↔ x ≤ fl j) := by
  rcases rnd_rndI (.inr rfl) x with ⟨h, _⟩ | ⟨-, h⟩
  · omega
  · exact h
theorem rndI_mono {d : Int} (hd : d = -1 ∨ d = 1) {x y : Rat} (h : x ≤ y) : rndI d x ≤ rndI d y := by
  rcases hd with rfl | rfl
  · have h1 := rndI_down x
    have h2 := rndI_down y
    by_cases hc : rndI (-1) x ≤ rndI (-1) y
    · exact hc
    · have h3 := (h1.2.2 (rndI (-1) x) (by omega) h1.2.1).1 (Int.le_refl _)
      exact (h2.2.2 _ (by omega) h1.2.1).2 (Rat.le_trans h3 h)
  · have h1 := rndI_up x
    have h2 := rndI_up y
    by_cases hc : rndI 1 x ≤ rndI 1 y
    · exact hc
    · have h3 := (h2.2.2 (rndI 1 y) h2.1 (by omega)).1 (Int.le_refl _)
      exact (h1.2.2 _ h2.1 (by omega)).2 (Rat.le_trans h h3)
theorem rndI_le (x : Rat) : rndI (-1) x ≤ rndI 1 x := by
  have h1 := rndI_down x
  have h2 := rndI_up x
  by_cases hc : rndI (-1) x ≤ rndI 1 x
  · exact hc
  · have h3 := (h2.2.2 (rndI 1 x) h2.1 (by omega)).1 (Int.le_refl _)
    by_cases h4 : rndI 1 x < rndI (-1) x
    · have h5 := (h1.2.2 (rndI (-1) x) (by omega) h1.2.1).1 (Int.le_refl _)
      have := fl_lt_iff.2 h4
      grind
    · omega

/-- The neighbours of an end: its infinity s, or the number x. -/
def dn (s : Int) (x : Rat) : Int := if s = 0 then rndI (-1) x else s * M
def up (s : Int) (x : Rat) : Int := if s = 0 then rndI 1 x else s * M
theorem dn_zero (x : Rat) : dn 0 x = rndI (-1) x := rfl
theorem up_zero (x : Rat) : up 0 x = rndI 1 x := rfl
theorem dn_idx {a : Int} (h : -(M : Int) ≤ a ∧ a ≤ M) : dn (es a) (ex a) = a := by
  unfold dn
  by_cases h0 : es a = 0
  · have h1 := es_zero h0
    rw [if_pos h0, ex_zero h0, rndI_fl (.inl rfl) (by omega) (by omega)]
  · rw [if_neg h0]
    unfold es at *
    split at h0 <;> simp_all
theorem up_idx {a : Int} (h : -(M : Int) ≤ a ∧ a ≤ M) : up (es a) (ex a) = a := by
  unfold up
  by_cases h0 : es a = 0
  · have h1 := es_zero h0
    rw [if_pos h0, ex_zero h0, rndI_fl (.inr rfl) (by omega) (by omega)]
  · rw [if_neg h0]
    unfold es at *
    split at h0 <;> simp_all

theorem rc_neg_iff {x y : Rat} : rc x y < 0 ↔ x < y := by
  unfold rc
  by_cases h : x < y
  · simp [h]
  · rw [if_neg h]
    by_cases h' : y < x <;> simp [h, h']
theorem rc_pos_iff {x y : Rat} : 0 < rc x y ↔ y < x := by
  unfold rc
  by_cases h : x < y
  · have : ¬ y < x := by grind
    simp [h, this]
  · rw [if_neg h]
    by_cases h' : y < x <;> simp [h']
theorem rc_zero_iff {x y : Rat} : rc x y = 0 ↔ x = y := by
  unfold rc
  by_cases h : x < y
  · have : x ≠ y := by grind
    simp [h, this]
  · rw [if_neg h]
    by_cases h' : y < x
    · have : x ≠ y := by grind
      simp [h', this]
    · have : x = y := by grind
      simp [this]

/-! How an index lies to an end. -/
theorem ec_hi {i s : Int} {x : Rat} (hi : -(M : Int) ≤ i ∧ i < M) (hs : s = 0 ∨ s = 1) : 0 < ec (es i) (ex i) s x ↔ dn s x < i := by
  have hM : M = 9218868437227405312 := rfl
  rcases hs with rfl | rfl
  · rw [dn_zero]
    have h := rndI_down x
    by_cases h0 : i = -(M : Int)
    · subst h0
      rw [es_min, ec_lt _ _ (by omega)]; omega
    · rw [es_mid (by omega) hi.2, ec_zero, ex_mid (by omega) hi.2, rc_pos_iff]
      have h1 := h.2.2 i (by omega) hi.2
      rw [← Int.not_le, h1]; grind
  · have h1 : es i < 1 := by have := es_bounds i; unfold es; split <;> (try split) <;> omega
    rw [ec_lt _ _ h1]
    unfold dn
    rw [if_neg (by omega)]; omega
theorem ec_lo {j s : Int} {x : Rat} (hj : -(M : Int) < j ∧ j ≤ M) (hs : s = 0 ∨ s = -1) : ec (es j) (ex j) s x < 0 ↔ j < up s x := by
  have hM : M = 9218868437227405312 := rfl
  rcases hs with rfl | rfl
  · rw [up_zero]
    have h := rndI_up x
    by_cases h0 : j = (M : Int)
    · subst h0
      rw [es_max, ec_gt _ _ (by omega)]; omega
    · rw [es_mid (by omega) (by omega), ec_zero, ex_mid (by omega) (by omega), rc_neg_iff]
      have h1 := h.2.2 j hj.1 (by omega)
      rw [← Int.not_le, h1]; grind
  · have h1 : -1 < es j := by unfold es; split <;> (try split) <;> omega
    rw [ec_gt _ _ h1]
    unfold up
    rw [if_neg (by omega)]; omega
theorem ec_lo_at {i s : Int} {x : Rat} (hi : -(M : Int) ≤ i ∧ i < M) (hs : s = 0 ∨ s = -1) : (if ec (es i) (ex i) s x < 0 then rndI (-1) x else i) = max i (dn s x) := by
  have hM : M = 9218868437227405312 := rfl
  rcases hs with rfl | rfl
  · rw [dn_zero]
    have h := rndI_down x
    by_cases h0 : i = -(M : Int)
    · subst h0
      rw [es_min, ec_lt _ _ (by omega), if_pos (by omega)]; omega
    · rw [es_mid (by omega) hi.2, ec_zero, ex_mid (by omega) hi.2]
      have h1 := h.2.2 i (by omega) hi.2
      by_cases hc : fl i < x
      · rw [if_pos (rc_neg_iff.2 hc)]
        have := h1.2 (by grind); omega
      · rw [if_neg (fun h => hc (rc_neg_iff.1 h))]
        have : rndI (-1) x ≤ i := by
          by_cases h2 : rndI (-1) x = -(M : Int)
          · omega
          · have h3 := (h.2.2 (rndI (-1) x) (by omega) h.2.1).1 (Int.le_refl _)
            rw [← fl_le_iff]; grind
        omega
  · have h1 : -1 ≤ es i := (es_bounds i).1
    have h2 : ¬ ec (es i) (ex i) (-1) x < 0 := by
      by_cases h3 : es i = -1
      · rw [ec_inf _ _ h3 (by omega)]; omega
      · rw [ec_gt _ _ (by omega)]; omega
    rw [if_neg h2]
    unfold dn
    rw [if_neg (by omega)]; omega
theorem ec_hi_at {j s : Int} {x : Rat} (hj : -(M : Int) < j ∧ j ≤ M) (hs : s = 0 ∨ s = 1) : (if 0 < ec (es j) (ex j) s x then rndI 1 x else j) = min j (up s x) := by
  have hM : M = 9218868437227405312 := rfl
  rcases hs with rfl | rfl
  · rw [up_zero]
    have h := rndI_up x
    by_cases h0 : j = (M : Int)
    · subst h0
      rw [es_max, ec_gt _ _ (by omega), if_pos (by omega)]; omega
    · rw [es_mid (by omega) (by omega), ec_zero, ex_mid (by omega) (by omega)]
      have h1 := h.2.2 j hj.1 (by omega)
      by_cases hc : x < fl j
      · rw [if_pos (rc_pos_iff.2 hc)]
        have := h1.2 (by grind); omega
      · rw [if_neg (fun h => hc (rc_pos_iff.1 h))]
        have : j ≤ rndI 1 x := by
          by_cases h2 : rndI 1 x = (M : Int)
          · omega
          · have h3 := (h.2.2 (rndI 1 x) h.1 (by omega)).1 (Int.le_refl _)
            rw [← fl_le_iff]; grind
        omega
  · have h1 : es j ≤ 1 := (es_bounds j).2
    have h2 : ¬ 0 < ec (es j) (ex j) 1 x := by
      by_cases h3 : es j = 1
      · rw [ec_inf _ _ h3 (by omega)]; omega
      · rw [ec_lt _ _ (by omega)]; omega
    rw [if_neg h2]
    unfold up
    rw [if_neg (by omega)]; omega
theorem ec_hi_open {i s : Int} {x : Rat} (hi : -(M : Int) ≤ i ∧ i < M) (hs : s = 1) : ec (es i) (ex i) s x ≠ 0 := by
  have h1 : es i < s := by unfold es; split <;> (try split) <;> omega
  rw [ec_lt _ _ h1]; omega
theorem ec_lo_open {j s : Int} {x : Rat} (hj : -(M : Int) < j ∧ j ≤ M) (hs : s = -1) : ec (es j) (ex j) s x ≠ 0 := by
  have hM : M = 9218868437227405312 := rfl
  have h1 : s < es j := by unfold es; split <;> (try split) <;> omega
  rw [ec_gt _ _ h1]; omega

/-- What an interval has in common with a closed piece: lo and hi by their neighbours. -/
def ct (i j pd pu qd qu : Int) : Int × Int := if qd < i ∨ j < pu then ((M : Int), -(M : Int)) else (max i pd, min j qu)

end Go.Proofs.YtmjkmoahkanblaaGreat

namespace Go.Proofs.YtmjkmoahkanblaaGreat
open Ieee

/-- The index nearest to n / 2^d units; M stands for whatever is too great. -/
def near (n : Int) (d : Nat) : Int := if n < 0 then -((min (nearRung n.natAbs d) M : Nat) : Int) else (min (nearRung n.natAbs d) M : Nat)

theorem near_natAbs (n : Int) (d : Nat) : (near n d).natAbs = min (nearRung n.natAbs d) M := by unfold near; split <;> omega
theorem near_neg (n : Int) (d : Nat) : near (-n) d = -near n d := by
  unfold near
  rw [Int.natAbs_neg]
  rcases Int.lt_trichotomy n 0 with h | h | h
  · rw [if_neg (by omega), if_pos h]; omega
  · subst h
    have : nearRung 0 d = 0 := Nat.le_zero.1 (nearRung_le (Nat.zero_le _))
    simp [this]
  · rw [if_pos (by omega), if_neg (by omega)]

theorem near_range (n : Int) (d : Nat) : -(M : Int) ≤ near n d ∧ near n d ≤ M := by
  have := near_natAbs n d; omega

theorem val_scale_nat (r d : Nat) : val (r : Int) * 2^d = ((mag r * 2^d : Nat) : Int) := by rw [val_nat]; simp

theorem le_near {i : Int} {n : Int} {d : Nat} (hi : i ≤ M) (h : val i * 2^d ≤ n) : i ≤ near n d := by
  have hp : (0 : Int) < 2^d := by exact_mod_cast Nat.two_pow_pos d
  rcases Int.lt_or_le i 0 with h0 | h0
  · -- below 0
    unfold near
    split
    · obtain ⟨r, rfl⟩ : ∃ r : Nat, i = -(r : Int) := ⟨i.natAbs, by omega⟩
      rw [val_neg, Int.neg_mul, val_scale_nat] at h
      have : nearRung n.natAbs d ≤ r := nearRung_le (by omega)
      omega
    · omega
  · obtain ⟨r, rfl⟩ : ∃ r : Nat, i = (r : Int) := ⟨i.natAbs, by omega⟩
    rw [val_scale_nat] at h
    have h2 : (0 : Int) ≤ n := by omega
    unfold near
    rw [if_neg (by omega)]
    have : r ≤ nearRung n.natAbs d := le_nearRung (by omega)
    omega

theorem near_le {i : Int} {n : Int} {d : Nat} (hi : -(M : Int) ≤ i) (h : n ≤ val i * 2^d) : near n d ≤ i := by
  have := @le_near (-i) (-n) d (by omega) (by rw [val_neg, Int.neg_mul]; omega)
  rw [near_neg] at this
  omega

theorem near_val {i : Int} (h1 : -(M : Int) ≤ i) (h2 : i ≤ M) (d : Nat) : near (val i * 2^d) d = i :=
  Int.le_antisymm (near_le h1 (Int.le_refl _)) (le_near h2 (Int.le_refl _))

theorem near_val_zero {i : Int} (h1 : -(M : Int) ≤ i) (h2 : i ≤ M) : near (val i) 0 = i := by
  have := near_val h1 h2 0
  simpa using this

/-! ### Words -/

theorem word_false (r : Nat) : double.word false r = r := rfl
theorem word_true (r : Nat) : double.word true r = 2^63 + r := by unfold Format.word; rw [signWeight_eq]; rfl
theorem word_lt64 (s : Bool) {r : Nat} (h : r < 2^63) : double.word s r < 2^64 := by
  cases s
  · rw [word_false]; omega
  · rw [word_true]; omega
theorem rungOf_word (s : Bool) {r : Nat} (h : r < 2^63) : rungOf (double.word s r) = r := by
  unfold rungOf
  cases s
  · rw [word_false]; omega
  · rw [word_true]; omega
theorem sgn_word (s : Bool) {r : Nat} (h : r < 2^63) : sgn (double.word s r) = s := by
  unfold sgn
  cases s
  · rw [word_false, show r / 2^63 = 0 from by omega]; rfl
  · rw [word_true, show (2^63 + r) / 2^63 = 1 from by omega]; rfl
theorem idx_word (s : Bool) {r : Nat} (h : r < 2^63) : idx (double.word s r) = if s then -(r : Int) else r := by
  unfold idx; rw [sgn_word s h, rungOf_word s h]
theorem M_lt : M < 2^63 := by decide
theorem M_pos : 0 < M := by decide
theorem min_M_lt (n : Nat) : min n M < 2^63 := by have := M_lt; omega

/-- A word that stands for an index. -/
structure Is (b : Nat) (i : Int) : Prop where
  lt : b < 2^64
  real : real b
  idx : idx b = i

theorem Is.word (s : Bool) {r : Nat} (h : r ≤ M) : Is (double.word s r) (if s then -(r : Int) else r) := by
  have := M_lt
  have h' : r < 2^63 := by omega
  exact ⟨word_lt64 s h', by unfold Proofs.YtmjkmoahkanblaaGreat.real; rw [rungOf_word s h']; exact h, idx_word s h'⟩

/-- The sign of a rounded number: of a number that is not nought, its own. -/
theorem Is.near {s : Bool} {n : Int} {d : Nat} (h : n ≠ 0 → s = decide (n < 0)) : Is (double.word s (min (nearRung n.natAbs d) M)) (near n d) := by
  have h1 := Is.word s (r := min (nearRung n.natAbs d) M) (Nat.min_le_right _ _)
  have e : (if s = true then -((min (nearRung n.natAbs d) M : Nat) : Int) else ((min (nearRung n.natAbs d) M : Nat) : Int)) = Proofs.YtmjkmoahkanblaaGreat.near n d := by
    unfold Proofs.YtmjkmoahkanblaaGreat.near
    by_cases h0 : n = 0
    · subst h0
      have : nearRung (0 : Int).natAbs d = 0 := Nat.le_zero.1 (nearRung_le (Nat.zero_le _))
      rw [this]; cases s <;> simp
    · rw [h h0]
      by_cases h2 : n < 0
      · rw [if_pos h2, if_pos (by simpa using h2)]
      · rw [if_neg h2, if_neg (by simpa using h2)]
  rw [e] at h1; exact h1

/-! ### Sums -/

theorem write_num (s : Bool) (m : Nat) (p : Int) : double.write (.number s m p) = double.nearest s m p := rfl

theorem sum_fin {x y : Nat} {sy : Bool} {m n k l : Nat} (hm : m * 2^k = mag (rungOf x)) (hn : n * 2^l = mag (rungOf y)) :
    ∃ z : Bool, ((Datum.number (sgn x) m (-1074 + (k : Int))).sum (.number sy n (-1074 + (l : Int)))).map double.write
      = some (double.word (if val (idx x) + signed sy (mag (rungOf y)) 0 = 0 then z else decide (val (idx x) + signed sy (mag (rungOf y)) 0 < 0)) (min (nearRung (val (idx x) + signed sy (mag (rungOf y)) 0).natAbs 0) M)) := by
  refine ⟨sgn x && sy, ?_⟩
  have key : ∀ b : Nat, b ≤ k → b ≤ l → double.nearest (if signed (sgn x) m (k - b) + signed sy n (l - b) = 0 then sgn x && sy else decide (signed (sgn x) m (k - b) + signed sy n (l - b) < 0)) (signed (sgn x) m (k - b) + signed sy n (l - b)).natAbs (-1074 + (b : Int)) = double.word (if val (idx x) + signed sy (mag (rungOf y)) 0 = 0 then sgn x && sy else decide (val (idx x) + signed sy (mag (rungOf y)) 0 < 0)) (min (nearRung (val (idx x) + signed sy (mag (rungOf y)) 0).natAbs 0) M) := by
    intro b hk hl
    rw [nearest_high]
    have hp : (0 : Int) < 2^b := by exact_mod_cast Nat.two_pow_pos b
    have e1 : signed (sgn x) m (k - b) * 2^b = val (idx x) := by rw [← signed_split, Nat.sub_add_cancel hk, read_val hm]
    have e2 : signed sy n (l - b) * 2^b = signed sy (mag (rungOf y)) 0 := by
      rw [← signed_split, Nat.sub_add_cancel hl, signed_eq, signed_eq, hn, Nat.pow_zero, Nat.mul_one]
    have e3 : val (idx x) + signed sy (mag (rungOf y)) 0 = (signed (sgn x) m (k - b) + signed sy n (l - b)) * 2^b := by rw [← e1, ← e2, Int.add_mul]
    rw [e3]
    generalize signed (sgn x) m (k - b) + signed sy n (l - b) = t
    have e4 : (t * 2^b).natAbs = t.natAbs * 2^b := by rw [Int.natAbs_mul, Int.natAbs_pow]; rfl
    have e5 : (t * 2^b = 0) ↔ t = 0 := by
      constructor
      · intro h
        rcases Int.mul_eq_zero.1 h with h | h
        · exact h
        · omega
      · rintro rfl; simp
    have e6 : (t * 2^b < 0) ↔ t < 0 := by
      constructor
      · intro h
        rcases Int.lt_or_le t 0 with h2 | h2
        · exact h2
        · have := Int.mul_nonneg h2 (Int.le_of_lt hp); omega
      · intro h; exact Int.mul_neg_of_neg_of_pos h hp
    rw [e4]
    congr 1
    by_cases h0 : t = 0
    · rw [if_pos h0, if_pos (e5.2 h0)]
    · rw [if_neg h0, if_neg (fun h => h0 (e5.1 h))]
      exact decide_eq_decide.2 e6.symm
  simp only [Datum.sum, Option.map_some, write_num]
  congr 1
  rcases Nat.le_total k l with h | h
  · have := key k (Nat.le_refl _) h
    rw [show min (-1074 + (k : Int)) (-1074 + (l : Int)) = -1074 + (k : Int) from by omega, show (-1074 + (k : Int) - (-1074 + (k : Int))).toNat = k - k from by omega, show (-1074 + (l : Int) - (-1074 + (k : Int))).toNat = l - k from by omega]
    rw [← this]
  · have := key l h (Nat.le_refl _)
    rw [show min (-1074 + (k : Int)) (-1074 + (l : Int)) = -1074 + (l : Int) from by omega, show (-1074 + (l : Int) - (-1074 + (l : Int))).toNat = l - l from by omega, show (-1074 + (k : Int) - (-1074 + (l : Int))).toNat = k - l from by omega]
    rw [← this]

theorem add_fin {x y : Nat} (hx : fin x) (hy : fin y) : ∃ r, double.add x y = some r ∧ Is r (near (val (idx x) + val (idx y)) 0) := by
  obtain ⟨m, k, e, hm, _⟩ := read_fin hx
  obtain ⟨n, l, e', hn, _⟩ := read_fin hy
  obtain ⟨z, h⟩ := sum_fin (sy := sgn y) hm hn
  rw [show signed (sgn y) (mag (rungOf y)) 0 = val (idx y) from by rw [signed_eq, val_idx, Nat.pow_zero, Nat.mul_one]] at h
  unfold Format.add
  rw [e, e']
  refine ⟨_, h, Is.near ?_⟩
  intro h0; rw [if_neg h0]

theorem sub_fin {x y : Nat} (hx : fin x) (hy : fin y) : ∃ r, double.sub x y = some r ∧ Is r (near (val (idx x) - val (idx y)) 0) := by
  obtain ⟨m, k, e, hm, _⟩ := read_fin hx
  obtain ⟨n, l, e', hn, _⟩ := read_fin hy
  obtain ⟨z, h⟩ := sum_fin (sy := !sgn y) hm hn
  have e2 : signed (!sgn y) (mag (rungOf y)) 0 = -val (idx y) := by
    rw [signed_eq, val_idx, Nat.pow_zero, Nat.mul_one]
    cases sgn y <;> simp
  rw [e2, ← Int.sub_eq_add_neg] at h
  unfold Format.sub
  rw [e, e']
  refine ⟨_, h, Is.near ?_⟩
  intro h0; rw [if_neg h0]

theorem mul_fin {x y : Nat} (hx : fin x) (hy : fin y) : ∃ r, double.mul x y = some r ∧ Is r (near (val (idx x) * val (idx y)) 1074) := by
  obtain ⟨m, k, e, hm, _⟩ := read_fin hx
  obtain ⟨n, l, e', hn, _⟩ := read_fin hy
  unfold Format.mul
  rw [e, e']
  simp only [Datum.product, Option.map_some, write_num]
  refine ⟨_, rfl, ?_⟩
  rw [show (-1074 + (k : Int) + (-1074 + (l : Int))) = -1074 - ((1074 : Nat) : Int) + ((k + l : Nat) : Int) from by omega, nearest_shift, nearest_low]
  have e1 : (val (idx x) * val (idx y)).natAbs = m * n * 2^(k + l) := by
    rw [Int.natAbs_mul, val_natAbs, val_natAbs, idx_natAbs, idx_natAbs, ← hm, ← hn, Nat.pow_add]
    rw [Nat.mul_assoc, Nat.mul_assoc, Nat.mul_left_comm (2^k)]
  rw [← e1]
  refine Is.near ?_
  intro h0
  rw [val_idx, val_idx] at h0 ⊢
  generalize mag (rungOf x) = a at h0 ⊢
  generalize mag (rungOf y) = b at h0 ⊢
  have hab : (0 : Int) ≤ (a : Int) * (b : Int) := Int.mul_nonneg (by omega) (by omega)
  cases sgn x <;> cases sgn y <;> simp [Int.neg_mul, Int.mul_neg] at h0 ⊢
  · exact hab
  · have : (0 : Int) < (a : Int) * (b : Int) := Int.mul_pos (by omega) (by omega)
    omega
  · have : (0 : Int) < (a : Int) * (b : Int) := Int.mul_pos (by omega) (by omega)
    omega
  · exact hab

end Go.Proofs.YtmjkmoahkanblaaGreat
