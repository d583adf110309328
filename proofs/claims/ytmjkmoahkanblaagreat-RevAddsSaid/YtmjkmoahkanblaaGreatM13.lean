/-
Walks: package vergeref10, Within of pieces whose bounds are numbers or infinities.
Sets of read intervals: the calls of vergeref6 on them.
-/
import Derived.Test.YtmjkmoahkanblaaGreatM12
set_option linter.unusedSimpArgs false
set_option linter.unusedVariables false

namespace Go.Proofs.YtmjkmoahkanblaaGreat
open Go.RowKit

theorem ec_idx {i b : Int} (h1 : -(M : Int) ≤ i) (h2 : i ≤ M) (h3 : -(M : Int) ≤ b) (h4 : b ≤ M) : SameSign (ec (es i) (ex i) (es b) (ex b)) (i - b) := by
  have hM : M = 9218868437227405312 := rfl
  have ei : es i = if i = M then 1 else if i = -(M : Int) then -1 else 0 := rfl
  have eb : es b = if b = M then 1 else if b = -(M : Int) then -1 else 0 := rfl
  rcases Int.lt_trichotomy (es i) (es b) with h | h | h
  · rw [ec_lt _ _ h]
    rw [ei, eb] at h
    unfold SameSign
    split at h <;> split at h <;> (try split at h) <;> (try split at h) <;> omega
  · by_cases h0 : es i = 0
    · have h0' : es b = 0 := by omega
      rw [h0, h0', ec_zero, ex_zero h0, ex_zero h0']
      unfold rc SameSign
      by_cases hc : i < b
      · rw [if_pos (fl_lt_iff.2 hc)]; omega
      · rw [if_neg (fun h => hc (fl_lt_iff.1 h))]
        by_cases hd : b < i
        · rw [if_pos (fl_lt_iff.2 hd)]; omega
        · rw [if_neg (fun h => hd (fl_lt_iff.1 h))]; omega
    · rw [ec_inf _ _ h h0]
      rw [ei, eb] at h
      rw [ei] at h0
      unfold SameSign
      split at h0 <;> (try split at h0) <;> split at h <;> (try split at h) <;> (try split at h) <;> (try split at h) <;> omega
  · rw [ec_gt _ _ h]
    rw [ei, eb] at h
    unfold SameSign
    split at h <;> split at h <;> (try split at h) <;> (try split at h) <;> omega
theorem SameSign.trans {a b c : Int} (h : SameSign a b) (h' : SameSign b c) : SameSign a c := ⟨h.1.trans h'.1, h.2.trans h'.2⟩
theorem Ag.trans {w w' : World} {a b : Int} {e : Ending} (h : Ag w a e w') (h' : SameSign a b) : Ag w b e w' := by
  obtain ⟨r, h1, h2, h3⟩ := h
  exact ⟨r, h1, h2.trans h', h3⟩

theorem against_idx (K : Nat) (i b : Int) (g1 : Bool) (A1 : Option Addr) (n1 c1 : Nat) (B1 : Option Addr) (m1 d1 : Nat) (o1 : Bool) (w : World) (hi : -(M : Int) ≤ i ∧ i ≤ M) (hb : -(M : Int) ≤ b ∧ b ≤ M) (h1 : RatV w K g1 (.slice A1 n1 c1) (.slice B1 m1 d1) (ex b)) (hK : 34 ≤ K) (hK2 : K ≤ 1048576) :
    Calls Tryz.prog 157 #[.int .u64 (pat i : Int), .agg #[.int .i64 (es b), .bool g1, .slice A1 n1 c1, .slice B1 m1 d1, .int .i64 1, .bool o1]] w (Ag w (i - b)) := by
  have hs := ec_idx hi.1 hi.2 hb.1 hb.2
  by_cases h : i = M ∨ i = -(M : Int)
  · exact (against_inf K i (es b) g1 A1 n1 c1 B1 m1 d1 (ex b) o1 w h h1 hK hK2).mono fun _ _ h => h.trans hs
  · by_cases h0 : es b = 0
    · have h2 := against_fin K i g1 A1 n1 c1 B1 m1 d1 (ex b) o1 w (by omega) h1 hK hK2
      rw [h0]
      rw [es_mid (i := i) (by omega) (by omega), h0, ec_zero, ex_mid (by omega) (by omega)] at hs
      exact h2.mono fun _ _ h => h.trans hs
    · exact (against_far K i (es b) g1 A1 n1 c1 B1 m1 d1 (ex b) o1 w (by omega) h0 h1 hK hK2).mono fun _ _ h => h.trans hs

set_option maxHeartbeats 3200000 in
theorem rounded10 (K : Nat) (g1 : Bool) (A1 : Option Addr) (n1 c1 : Nat) (B1 : Option Addr) (m1 d1 : Nat) (s1 : Int) (x1 : Rat) (o1 : Bool) (dd : Int) (w : World) (h1 : RatV w K g1 (.slice A1 n1 c1) (.slice B1 m1 d1) x1) (hK : K ≤ 1048576) (hd : dd = -1 ∨ dd = 1) :
    Calls Tryz.prog 158 #[.int .i64 dd, .agg #[.int .i64 s1, .bool g1, .slice A1 n1 c1, .slice B1 m1 d1, .int .i64 1, .bool o1]] w (IsRnd w dd x1) := by
  have HB := Lib.hid fun W (hW : Below w.heap.size w W) => bits_any K g1 A1 B1 n1 c1 m1 d1 x1 dd W (h1.below hW) hK hd
  clear h1 hd
  have LB0 := Lib.hid (show Below w.heap.size w (w.alloc (.cells #[.int .i64 s1, .bool g1, .slice A1 n1 c1, .slice B1 m1 d1, .int .i64 1, .bool o1] 62)) from (below_alloc w _))
  have LG0_0 := Lib.hid ((Blk.at (W := w) (g := w.heap.size) (by simp <;> omega) 62 #[.int .i64 s1, .bool g1, .slice A1 n1 c1, .slice B1 m1 d1, .int .i64 1, .bool o1]))
  go_enter Tryz.func158, Tryz.ntmps158
  go_wp2_with fail
  refine (HB.out _ LB0.out).mono ?_
  rintro e w1 ⟨i, rfl, hr, hb1⟩
  have LB1 := Lib.hid (LB0.out.trans (hb1.mono LB0.out.size))
  have LG0_1 := Lib.hid (LG0_0.out.keep hb1)
  clear LB0 LG0_0
  have HR := Lib.hid hr
  clear hr hb1
  go_wp2
  go_ret
  exact ⟨i, rfl, HR.out, LB1.out⟩

/-- What an interval and a piece have in common. -/
def wi (i j a b : Int) : Int × Int := if i ≤ j ∧ i ≤ b ∧ a ≤ j then (max i a, min j b) else ((M : Int), -(M : Int))
theorem wi_iv {i j a b : Int} (h : Iv i j) (ha : -(M : Int) ≤ a) (ha' : a < M) (hb : -(M : Int) < b) (hb' : b ≤ M) (hab : a ≤ b) : Iv (wi i j a b).1 (wi i j a b).2 := by
  unfold wi
  split
  · unfold Iv at *
    rw [M_val] at *
    dsimp only
    omega
  · exact Iv.none

set_option maxHeartbeats 3200000 in
theorem within_none (s1 : Int) (g1 : Bool) (A1 : Option Addr) (n1 c1 : Nat) (B1 : Option Addr) (m1 d1 : Nat) (x1 : Rat) (s2 : Int) (g2 : Bool) (A2 : Option Addr) (n2 c2 : Nat) (B2 : Option Addr) (m2 d2 : Nat) (x2 : Rat) (o1 o2 : Bool) (w : World) :
    Calls Tryz.prog 88 #[.agg #[.int .u64 9218868437227405312, .int .u64 18442240474082181120], .agg #[.bool false, .int .i64 s1, .bool g1, .slice A1 n1 c1, .slice B1 m1 d1, .int .i64 1, .bool o1, .int .i64 s2, .bool g2, .slice A2 n2 c2, .slice B2 m2 d2, .int .i64 1, .bool o2]] w fun e w' => e = .returned (.agg #[.int .u64 9218868437227405312, .int .u64 18442240474082181120]) ∧ Below w.heap.size w w' := by
  have HE := Lib.hid empty6
  have LB0 := Lib.hid (show Below w.heap.size w (((w.alloc (.cells #[.int .u64 9218868437227405312, .int .u64 18442240474082181120] 24)).alloc (.cells #[.bool false, .int .i64 s1, .bool g1, .slice A1 n1 c1, .slice B1 m1 d1, .int .i64 1, .bool o1, .int .i64 s2, .bool g2, .slice A2 n2 c2, .slice B2 m2 d2, .int .i64 1, .bool o2] 64)).alloc (.cells #[.int .u64 0, .int .u64 0] 24)) from (((below_alloc w _).alloc (by simp <;> omega) _).alloc (by simp <;> omega) _))
  have LG0_0 := Lib.hid ((((Blk.at (W := w) (g := w.heap.size) (by simp <;> omega) 24 #[.int .u64 9218868437227405312, .int .u64 18442240474082181120]).alloc (.cells #[.bool false, .int .i64 s1, .bool g1, .slice A1 n1 c1, .slice B1 m1 d1, .int .i64 1, .bool o1, .int .i64 s2, .bool g2, .slice A2 n2 c2, .slice B2 m2 d2, .int .i64 1, .bool o2] 64)).alloc (.cells #[.int .u64 0, .int .u64 0] 24)))
  have LG1_0 := Lib.hid (((Blk.at (W := (w.alloc (.cells #[.int .u64 9218868437227405312, .int .u64 18442240474082181120] 24))) (g := (w.heap.size + 1)) (by simp <;> omega) 64 #[.bool false, .int .i64 s1, .bool g1, .slice A1 n1 c1, .slice B1 m1 d1, .int .i64 1, .bool o1, .int .i64 s2, .bool g2, .slice A2 n2 c2, .slice B2 m2 d2, .int .i64 1, .bool o2]).alloc (.cells #[.int .u64 0, .int .u64 0] 24)))
  have LR0 := Lib.hid (HasBlk.of (n := 2) (Blk.at (W := ((w.alloc (.cells #[.int .u64 9218868437227405312, .int .u64 18442240474082181120] 24)).alloc (.cells #[.bool false, .int .i64 s1, .bool g1, .slice A1 n1 c1, .slice B1 m1 d1, .int .i64 1, .bool o1, .int .i64 s2, .bool g2, .slice A2 n2 c2, .slice B2 m2 d2, .int .i64 1, .bool o2] 64))) (g := (w.heap.size + 2)) (by simp <;> omega) 24 #[.int .u64 0, .int .u64 0]) rfl rfl)
  go_enter Tryz.func88, Tryz.ntmps88
  go_wp2_with fail
  refine wp_region_held_drew (S := fun W' => Blk W' w.heap.size 24 #[.int .u64 9218868437227405312, .int .u64 18442240474082181120] ∧ Blk W' (w.heap.size + 1) 64 #[.bool false, .int .i64 s1, .bool g1, .slice A1 n1 c1, .slice B1 m1 d1, .int .i64 1, .bool o1, .int .i64 s2, .bool g2, .slice A2 n2 c2, .slice B2 m2 d2, .int .i64 1, .bool o2] ∧ HasBlk W' (w.heap.size + 2) 24 2 ∧ Below w.heap.size w W') (by kernel_rfl) (by exact ⟨LG0_0.out.drew, LG1_0.out.drew, LR0.out.drew, LB0.out.drew⟩) (fun hHeld => ?_)
  refine wpAnyH_take (i := 0) (v := ?_) rfl (by kernel_rfl) (by kernel_rfl) (by kernel_rfl) (fun _ _ _ h => h) (Or.inl ⟨by rfl, ?_⟩) (by assumption) ?_
  rotate_left
  · (intro W2 hSw; go_simp; (try with_reducible rfl))
  try simp only [Act.put, List.getElem_toArray, List.getElem_cons_succ, List.getElem_cons_zero, List.setIfInBounds_toArray, List.set_cons_zero, List.set_cons_succ]
  refine wpAnyH_take (i := 1) (v := ?_) rfl (by kernel_rfl) (by kernel_rfl) (by kernel_rfl) (fun _ _ _ h => h) (Or.inl ⟨by rfl, ?_⟩) (by assumption) ?_
  rotate_left
  · (intro W2 hSw; (try dsimp only at hSw); have q0 : _ = some (.bool false : Value) := hSw.2.1.cell 0; have q1 : _ = some (.int .i64 s1 : Value) := hSw.2.1.cell 1; have q2 : _ = some (.bool g1 : Value) := hSw.2.1.cell 2; have q3 : _ = some (.slice A1 n1 c1 : Value) := hSw.2.1.cell 3; have q4 : _ = some (.slice B1 m1 d1 : Value) := hSw.2.1.cell 4; have q5 : _ = some (.int .i64 1 : Value) := hSw.2.1.cell 5; have q6 : _ = some (.bool o1 : Value) := hSw.2.1.cell 6; have q7 : _ = some (.int .i64 s2 : Value) := hSw.2.1.cell 7; have q8 : _ = some (.bool g2 : Value) := hSw.2.1.cell 8; have q9 : _ = some (.slice A2 n2 c2 : Value) := hSw.2.1.cell 9; have q10 : _ = some (.slice B2 m2 d2 : Value) := hSw.2.1.cell 10; have q11 : _ = some (.int .i64 1 : Value) := hSw.2.1.cell 11; have q12 : _ = some (.bool o2 : Value) := hSw.2.1.cell 12; go_simp; (try with_reducible rfl))
  try simp only [Act.put, List.getElem_toArray, List.getElem_cons_succ, List.getElem_cons_zero, List.setIfInBounds_toArray, List.set_cons_zero, List.set_cons_succ]
  refine wpAnyH_take (i := 2) (v := ?_) rfl (by kernel_rfl) (by kernel_rfl) (by kernel_rfl) (fun _ _ _ h => h) (Or.inl ⟨by rfl, ?_⟩) (by assumption) ?_
  rotate_left
  · (intro W2 hSw; go_simp; (try with_reducible rfl))
  try simp only [Act.put, List.getElem_toArray, List.getElem_cons_succ, List.getElem_cons_zero, List.setIfInBounds_toArray, List.set_cons_zero, List.set_cons_succ]
  refine wpAnyH_take (i := 3) (v := ?_) rfl (by kernel_rfl) (by kernel_rfl) (by kernel_rfl) (fun _ _ _ h => h) (Or.inl ⟨by rfl, ?_⟩) (by assumption) ?_
  rotate_left
  · (intro W2 hSw; (try dsimp only at hSw); have q0 : _ = some (.int .u64 9218868437227405312 : Value) := hSw.1.cell 0; have q1 : _ = some (.int .u64 18442240474082181120 : Value) := hSw.1.cell 1; go_simp; (try with_reducible rfl))
  try simp only [Act.put, List.getElem_toArray, List.getElem_cons_succ, List.getElem_cons_zero, List.setIfInBounds_toArray, List.set_cons_zero, List.set_cons_succ]
  refine wpAnyH_ready (rs := [4]) (by kernel_rfl) (by simp) ?_
  refine AllReadyH.cons rfl (fun KK hKK => ?_) AllReadyH.nil
  go_simp
  refine (HE.out _).mono ?_
  rintro e w1 ⟨rfl, hb1⟩
  go_wp2_with fail
  refine hKK.out _ _ (⟨hHeld.1.keep hb1, hHeld.2.1.keep hb1, hHeld.2.2.1.keep hb1, hHeld.2.2.2.trans (hb1.mono hHeld.2.2.2.size)⟩) (fun _ => ?_)
  clear hKK KK hHeld; rename_i hHeld
  try simp only [Act.put, List.getElem_toArray, List.getElem_cons_succ, List.getElem_cons_zero, List.setIfInBounds_toArray, List.set_cons_zero, List.set_cons_succ]
  refine wpAnyH_take (i := 5) (v := ?_) rfl (by kernel_rfl) (by kernel_rfl) (by kernel_rfl) (fun _ _ _ h => h) (Or.inl ⟨by rfl, ?_⟩) (by assumption) ?_
  rotate_left
  · (intro W2 hSw; go_simp; (try with_reducible rfl))
  try simp only [Act.put, List.getElem_toArray, List.getElem_cons_succ, List.getElem_cons_zero, List.setIfInBounds_toArray, List.set_cons_zero, List.set_cons_succ]
  refine wpAnyH_take (i := 6) (v := ?_) rfl (by kernel_rfl) (by kernel_rfl) (by kernel_rfl) (fun _ _ _ h => h) (Or.inl ⟨by rfl, ?_⟩) (by assumption) ?_
  rotate_left
  · (intro W2 hSw; go_simp; (try with_reducible rfl))
  try simp only [Act.put, List.getElem_toArray, List.getElem_cons_succ, List.getElem_cons_zero, List.setIfInBounds_toArray, List.set_cons_zero, List.set_cons_succ]
  refine wpAnyH_done (by kernel_rfl) ?_ _
  have LB1 := Lib.hid hHeld.2.2.2
  have LR1 := Lib.hid hHeld.2.2.1
  have LG0_1 := Lib.hid hHeld.1
  have LG1_1 := Lib.hid hHeld.2.1
  clear hHeld hb1 LB0 LR0 LG0_0 LG1_0
  go_wp2_with fail
  refine (HE.out _).mono ?_
  rintro e w2 ⟨rfl, hb2⟩
  have LB2 := Lib.hid (LB1.out.trans (hb2.mono LB1.out.size))
  have LR2 := Lib.hid (LR1.out.keep hb2)
  have LG0_2 := Lib.hid (LG0_1.out.keep hb2)
  have LG1_2 := Lib.hid (LG1_1.out.keep hb2)
  clear LB1 LR1 LG0_1 LG1_1
  clear hb2
  have ha0 := LR2.out.someCell 0 (by decide)
  have hf0 := LR2.out.frozen 0
  have ha1 := LR2.out.someCell 1 (by decide)
  have hf1 := LR2.out.frozen 1
  have hk0 := LR2.out.setCell [.int .u64 9218868437227405312, .int .u64 18442240474082181120] rfl 0 (by decide)
  have hk1 := LR2.out.setCell [.int .u64 9218868437227405312, .int .u64 18442240474082181120] rfl 1 (by decide)
  have F := Lib.hid (below_sets (w0 := w) (r := (w.heap.size + 2)) (by omega) [.int .u64 9218868437227405312, .int .u64 18442240474082181120] 0 _ LB2.out)
  simp [sets] at hk0 hk1
  go_wp2
  refine bodyPost_ret (v := .agg #[.int .u64 9218868437227405312, .int .u64 18442240474082181120]) (by simp [results, Tryz.results88, go_sem, hk0, hk1]) rfl ?_
  exact ⟨rfl, F.out⟩

set_option maxHeartbeats 6400000 in
theorem within_full (K : Nat) (i j a b : Int) (g1 : Bool) (A1 : Option Addr) (n1 c1 : Nat) (B1 : Option Addr) (m1 d1 : Nat) (o1 : Bool) (g2 : Bool) (A2 : Option Addr) (n2 c2 : Nat) (B2 : Option Addr) (m2 d2 : Nat) (o2 : Bool) (w : World)
    (hij : -(M : Int) ≤ i ∧ i ≤ j ∧ j ≤ M ∧ i < M ∧ -(M : Int) < j) (ha : -(M : Int) ≤ a ∧ a < M) (hb : -(M : Int) < b ∧ b ≤ M) (h1 : RatV w K g1 (.slice A1 n1 c1) (.slice B1 m1 d1) (ex a)) (h2 : RatV w K g2 (.slice A2 n2 c2) (.slice B2 m2 d2) (ex b)) (hK : 34 ≤ K) (hK2 : K ≤ 1048576)
    (ho1 : j = a → o1 = false) (ho2 : i = b → o2 = false) :
    Calls Tryz.prog 88 #[.agg #[.int .u64 (pat i : Int), .int .u64 (pat j : Int)], .agg #[.bool false, .int .i64 (es a), .bool g1, .slice A1 n1 c1, .slice B1 m1 d1, .int .i64 1, .bool o1, .int .i64 (es b), .bool g2, .slice A2 n2 c2, .slice B2 m2 d2, .int .i64 1, .bool o2]] w fun e w' => e = .returned (.agg #[.int .u64 (pat (wi i j a b).1 : Int), .int .u64 (pat (wi i j a b).2 : Int)]) ∧ Below w.heap.size w w' := by
  have HE := Lib.hid empty6
  have T1 := Lib.hid fun W (hW : Below w.heap.size w W) => against_idx K i b g2 A2 n2 c2 B2 m2 d2 o2 W (by omega) (by omega) (h2.below hW) hK hK2
  have T2 := Lib.hid fun W (hW : Below w.heap.size w W) => against_idx K j a g1 A1 n1 c1 B1 m1 d1 o1 W (by omega) (by omega) (h1.below hW) hK hK2
  have T3 := Lib.hid fun W (hW : Below w.heap.size w W) => against_idx K i a g1 A1 n1 c1 B1 m1 d1 o1 W (by omega) (by omega) (h1.below hW) hK hK2
  have T4 := Lib.hid fun W (hW : Below w.heap.size w W) => against_idx K j b g2 A2 n2 c2 B2 m2 d2 o2 W (by omega) (by omega) (h2.below hW) hK hK2
  have T5 := Lib.hid fun W (hW : Below w.heap.size w W) => rounded10 K g1 A1 n1 c1 B1 m1 d1 (es a) (ex a) o1 (-1) W (h1.below hW) hK2 (.inl rfl)
  have T6 := Lib.hid fun W (hW : Below w.heap.size w W) => rounded10 K g2 A2 n2 c2 B2 m2 d2 (es b) (ex b) o2 1 W (h2.below hW) hK2 (.inr rfl)
  have X5 : i < a → ∀ k, Rnd (-1) (ex a) k → k = a := by
    intro h k hk
    rw [ex_mid (by omega) ha.2] at hk
    exact hk.exact (by omega) ha.2
  have X6 : b < j → ∀ k, Rnd 1 (ex b) k → k = b := by
    intro h k hk
    rw [ex_mid hb.1 (by omega)] at hk
    exact hk.exact hb.1 (by omega)
  have hp := pat_ne_max (i := i) (by omega) (by omega)
  have HW : wi i j a b = if i ≤ j ∧ i ≤ b ∧ a ≤ j then (max i a, min j b) else ((M : Int), -(M : Int)) := rfl
  rw [HW]
  have HPI := Lib.hid (show pat i = pat i from rfl)
  obtain ⟨p, hpp⟩ : ∃ p, pat i = p := ⟨_, rfl⟩
  obtain ⟨q, hqq⟩ : ∃ q, pat j = q := ⟨_, rfl⟩
  obtain ⟨r, hr⟩ : ∃ r : Value, (.agg #[.int .u64 (pat (if i ≤ j ∧ i ≤ b ∧ a ≤ j then (max i a, min j b) else ((M : Int), -(M : Int))).1 : Int), .int .u64 (pat (if i ≤ j ∧ i ≤ b ∧ a ≤ j then (max i a, min j b) else ((M : Int), -(M : Int))).2 : Int)] : Value) = r := ⟨_, rfl⟩
  rw [hr]
  rw [hpp] at T1 T3 hp ⊢
  rw [hqq] at T2 T4 ⊢
  have HR := Lib.hid hr
  have HPP := Lib.hid hpp
  have HQQ := Lib.hid hqq
  have HX5 := Lib.hid X5
  have HX6 := Lib.hid X6
  obtain ⟨s1, e1⟩ : ∃ s, es a = s := ⟨_, rfl⟩
  obtain ⟨s2, e2⟩ : ∃ s, es b = s := ⟨_, rfl⟩
  rw [e1] at T2 T3 T5 ⊢
  rw [e2] at T1 T4 T6 ⊢
  have HO1 := Lib.hid ho1
  have HO2 := Lib.hid ho2
  have HIJ := Lib.hid hij
  have HA := Lib.hid ha
  have HB := Lib.hid hb
  clear hr hpp hqq X5 X6 e1 e2 h1 h2 HW HPI ho1 ho2 hij ha hb hK hK2
  have LB0 := Lib.hid (show Below w.heap.size w (((w.alloc (.cells #[.int .u64 (p : Int), .int .u64 (q : Int)] 24)).alloc (.cells #[.bool false, .int .i64 s1, .bool g1, .slice A1 n1 c1, .slice B1 m1 d1, .int .i64 1, .bool o1, .int .i64 s2, .bool g2, .slice A2 n2 c2, .slice B2 m2 d2, .int .i64 1, .bool o2] 64)).alloc (.cells #[.int .u64 0, .int .u64 0] 24)) from (((below_alloc w _).alloc (by simp <;> omega) _).alloc (by simp <;> omega) _))
  have LG0_0 := Lib.hid ((((Blk.at (W := w) (g := w.heap.size) (by simp <;> omega) 24 #[.int .u64 (p : Int), .int .u64 (q : Int)]).alloc (.cells #[.bool false, .int .i64 s1, .bool g1, .slice A1 n1 c1, .slice B1 m1 d1, .int .i64 1, .bool o1, .int .i64 s2, .bool g2, .slice A2 n2 c2, .slice B2 m2 d2, .int .i64 1, .bool o2] 64)).alloc (.cells #[.int .u64 0, .int .u64 0] 24)))
  have LG1_0 := Lib.hid (((Blk.at (W := (w.alloc (.cells #[.int .u64 (p : Int), .int .u64 (q : Int)] 24))) (g := (w.heap.size + 1)) (by simp <;> omega) 64 #[.bool false, .int .i64 s1, .bool g1, .slice A1 n1 c1, .slice B1 m1 d1, .int .i64 1, .bool o1, .int .i64 s2, .bool g2, .slice A2 n2 c2, .slice B2 m2 d2, .int .i64 1, .bool o2]).alloc (.cells #[.int .u64 0, .int .u64 0] 24)))
  have LR0 := Lib.hid (HasBlk.of (n := 2) (Blk.at (W := ((w.alloc (.cells #[.int .u64 (p : Int), .int .u64 (q : Int)] 24)).alloc (.cells #[.bool false, .int .i64 s1, .bool g1, .slice A1 n1 c1, .slice B1 m1 d1, .int .i64 1, .bool o1, .int .i64 s2, .bool g2, .slice A2 n2 c2, .slice B2 m2 d2, .int .i64 1, .bool o2] 64))) (g := (w.heap.size + 2)) (by simp <;> omega) 24 #[.int .u64 0, .int .u64 0]) rfl rfl)
  go_enter Tryz.func88, Tryz.ntmps88
  go_wp2_with fail
  refine wp_region_held_drew (S := fun W' => Blk W' w.heap.size 24 #[.int .u64 (p : Int), .int .u64 (q : Int)] ∧ Blk W' (w.heap.size + 1) 64 #[.bool false, .int .i64 s1, .bool g1, .slice A1 n1 c1, .slice B1 m1 d1, .int .i64 1, .bool o1, .int .i64 s2, .bool g2, .slice A2 n2 c2, .slice B2 m2 d2, .int .i64 1, .bool o2] ∧ HasBlk W' (w.heap.size + 2) 24 2 ∧ Below w.heap.size w W') (by kernel_rfl) (by exact ⟨LG0_0.out.drew, LG1_0.out.drew, LR0.out.drew, LB0.out.drew⟩) (fun hHeld => ?_)
  refine wpAnyH_take (i := 0) (v := ?_) rfl (by kernel_rfl) (by kernel_rfl) (by kernel_rfl) (fun _ _ _ h => h) (Or.inl ⟨by rfl, ?_⟩) (by assumption) ?_
  rotate_left
  · (intro W2 hSw; go_simp; (try with_reducible rfl))
  try simp only [Act.put, List.getElem_toArray, List.getElem_cons_succ, List.getElem_cons_zero, List.setIfInBounds_toArray, List.set_cons_zero, List.set_cons_succ]
  refine wpAnyH_take (i := 1) (v := ?_) rfl (by kernel_rfl) (by kernel_rfl) (by kernel_rfl) (fun _ _ _ h => h) (Or.inl ⟨by rfl, ?_⟩) (by assumption) ?_
  rotate_left
  · (intro W2 hSw; (try dsimp only at hSw); have q0 : _ = some (.bool false : Value) := hSw.2.1.cell 0; have q1 : _ = some (.int .i64 s1 : Value) := hSw.2.1.cell 1; have q2 : _ = some (.bool g1 : Value) := hSw.2.1.cell 2; have q3 : _ = some (.slice A1 n1 c1 : Value) := hSw.2.1.cell 3; have q4 : _ = some (.slice B1 m1 d1 : Value) := hSw.2.1.cell 4; have q5 : _ = some (.int .i64 1 : Value) := hSw.2.1.cell 5; have q6 : _ = some (.bool o1 : Value) := hSw.2.1.cell 6; have q7 : _ = some (.int .i64 s2 : Value) := hSw.2.1.cell 7; have q8 : _ = some (.bool g2 : Value) := hSw.2.1.cell 8; have q9 : _ = some (.slice A2 n2 c2 : Value) := hSw.2.1.cell 9; have q10 : _ = some (.slice B2 m2 d2 : Value) := hSw.2.1.cell 10; have q11 : _ = some (.int .i64 1 : Value) := hSw.2.1.cell 11; have q12 : _ = some (.bool o2 : Value) := hSw.2.1.cell 12; go_simp; (try with_reducible rfl))
  try simp only [Act.put, List.getElem_toArray, List.getElem_cons_succ, List.getElem_cons_zero, List.setIfInBounds_toArray, List.set_cons_zero, List.set_cons_succ]
  refine wpAnyH_take (i := 2) (v := ?_) rfl (by kernel_rfl) (by kernel_rfl) (by kernel_rfl) (fun _ _ _ h => h) (Or.inl ⟨by rfl, ?_⟩) (by assumption) ?_
  rotate_left
  · (intro W2 hSw; go_simp; (try with_reducible rfl))
  try simp only [Act.put, List.getElem_toArray, List.getElem_cons_succ, List.getElem_cons_zero, List.setIfInBounds_toArray, List.set_cons_zero, List.set_cons_succ]
  refine wpAnyH_take (i := 3) (v := ?_) rfl (by kernel_rfl) (by kernel_rfl) (by kernel_rfl) (fun _ _ _ h => h) (Or.inl ⟨by rfl, ?_⟩) (by assumption) ?_
  rotate_left
  · (intro W2 hSw; (try dsimp only at hSw); have q0 : _ = some (.int .u64 (p : Int) : Value) := hSw.1.cell 0; have q1 : _ = some (.int .u64 (q : Int) : Value) := hSw.1.cell 1; go_simp; (try with_reducible rfl))
  try simp only [Act.put, List.getElem_toArray, List.getElem_cons_succ, List.getElem_cons_zero, List.setIfInBounds_toArray, List.set_cons_zero, List.set_cons_succ]
  refine wpAnyH_ready (rs := [4]) (by kernel_rfl) (by simp) ?_
  refine AllReadyH.cons rfl (fun KK hKK => ?_) AllReadyH.nil
  go_simp
  refine (HE.out _).mono ?_
  rintro e w1 ⟨rfl, hb1⟩
  go_wp2_with fail
  refine hKK.out _ _ (⟨hHeld.1.keep hb1, hHeld.2.1.keep hb1, hHeld.2.2.1.keep hb1, hHeld.2.2.2.trans (hb1.mono hHeld.2.2.2.size)⟩) (fun _ => ?_)
  clear hKK KK hHeld; rename_i hHeld
  try simp only [Act.put, List.getElem_toArray, List.getElem_cons_succ, List.getElem_cons_zero, List.setIfInBounds_toArray, List.set_cons_zero, List.set_cons_succ]
  refine wpAnyH_take (i := 5) (v := ?_) rfl (by kernel_rfl) (by kernel_rfl) (by kernel_rfl) (fun _ _ _ h => h) (Or.inl ⟨by rfl, ?_⟩) (by assumption) ?_
  rotate_left
  · (intro W2 hSw; go_simp; (try with_reducible rfl))
  try simp only [Act.put, List.getElem_toArray, List.getElem_cons_succ, List.getElem_cons_zero, List.setIfInBounds_toArray, List.set_cons_zero, List.set_cons_succ]
  refine wpAnyH_take (i := 6) (v := ?_) rfl (by kernel_rfl) (by kernel_rfl) (by kernel_rfl) (fun _ _ _ h => h) (Or.inl ⟨by rfl, ?_⟩) (by assumption) ?_
  rotate_left
  · (intro W2 hSw; go_simp; (try with_reducible rfl))
  try simp only [Act.put, List.getElem_toArray, List.getElem_cons_succ, List.getElem_cons_zero, List.setIfInBounds_toArray, List.set_cons_zero, List.set_cons_succ]
  refine wpAnyH_done (by kernel_rfl) ?_ _
  have LB1 := Lib.hid hHeld.2.2.2
  have LR1 := Lib.hid hHeld.2.2.1
  have LG0_1 := Lib.hid hHeld.1
  have LG1_1 := Lib.hid hHeld.2.1
  clear hHeld hb1 LB0 LR0 LG0_0 LG1_0
  have q0_0 : _ = some (.int .u64 (p : Int) : Value) := LG0_1.out.cell 0
  have q0_1 : _ = some (.int .u64 (q : Int) : Value) := LG0_1.out.cell 1
  have q1_0 : _ = some (.bool false : Value) := LG1_1.out.cell 0
  have q1_1 : _ = some (.int .i64 s1 : Value) := LG1_1.out.cell 1
  have q1_2 : _ = some (.bool g1 : Value) := LG1_1.out.cell 2
  have q1_3 : _ = some (.slice A1 n1 c1 : Value) := LG1_1.out.cell 3
  have q1_4 : _ = some (.slice B1 m1 d1 : Value) := LG1_1.out.cell 4
  have q1_5 : _ = some (.int .i64 1 : Value) := LG1_1.out.cell 5
  have q1_6 : _ = some (.bool o1 : Value) := LG1_1.out.cell 6
  have q1_7 : _ = some (.int .i64 s2 : Value) := LG1_1.out.cell 7
  have q1_8 : _ = some (.bool g2 : Value) := LG1_1.out.cell 8
  have q1_9 : _ = some (.slice A2 n2 c2 : Value) := LG1_1.out.cell 9
  have q1_10 : _ = some (.slice B2 m2 d2 : Value) := LG1_1.out.cell 10
  have q1_11 : _ = some (.int .i64 1 : Value) := LG1_1.out.cell 11
  have q1_12 : _ = some (.bool o2 : Value) := LG1_1.out.cell 12
  go_wp2_with fail
  refine (T1.out _ LB1.out).mono ?_
  rintro e w2 ⟨r1, rfl, hs1, hb2⟩
  have LB2 := Lib.hid (LB1.out.trans (hb2.mono LB1.out.size))
  have LR2 := Lib.hid (LR1.out.keep hb2)
  have LG0_2 := Lib.hid (LG0_1.out.keep hb2)
  have LG1_2 := Lib.hid (LG1_1.out.keep hb2)
  clear LB1 LR1 LG0_1 LG1_1
  have S1 := Lib.hid hs1
  clear hs1 hb2 q0_0 q0_1 q1_0 q1_1 q1_2 q1_3 q1_4 q1_5 q1_6 q1_7 q1_8 q1_9 q1_10 q1_11 q1_12
  have q0_0 : _ = some (.int .u64 (p : Int) : Value) := LG0_2.out.cell 0
  have q0_1 : _ = some (.int .u64 (q : Int) : Value) := LG0_2.out.cell 1
  have q1_0 : _ = some (.bool false : Value) := LG1_2.out.cell 0
  have q1_1 : _ = some (.int .i64 s1 : Value) := LG1_2.out.cell 1
  have q1_2 : _ = some (.bool g1 : Value) := LG1_2.out.cell 2
  have q1_3 : _ = some (.slice A1 n1 c1 : Value) := LG1_2.out.cell 3
  have q1_4 : _ = some (.slice B1 m1 d1 : Value) := LG1_2.out.cell 4
  have q1_5 : _ = some (.int .i64 1 : Value) := LG1_2.out.cell 5
  have q1_6 : _ = some (.bool o1 : Value) := LG1_2.out.cell 6
  have q1_7 : _ = some (.int .i64 s2 : Value) := LG1_2.out.cell 7
  have q1_8 : _ = some (.bool g2 : Value) := LG1_2.out.cell 8
  have q1_9 : _ = some (.slice A2 n2 c2 : Value) := LG1_2.out.cell 9
  have q1_10 : _ = some (.slice B2 m2 d2 : Value) := LG1_2.out.cell 10
  have q1_11 : _ = some (.int .i64 1 : Value) := LG1_2.out.cell 11
  have q1_12 : _ = some (.bool o2 : Value) := LG1_2.out.cell 12
  go_wp2_with fail
  refine (T2.out _ LB2.out).mono ?_
  rintro e w3 ⟨r2, rfl, hs2, hb3⟩
  have LB3 := Lib.hid (LB2.out.trans (hb3.mono LB2.out.size))
  have LR3 := Lib.hid (LR2.out.keep hb3)
  have LG0_3 := Lib.hid (LG0_2.out.keep hb3)
  have LG1_3 := Lib.hid (LG1_2.out.keep hb3)
  clear LB2 LR2 LG0_2 LG1_2
  have S2 := Lib.hid hs2
  clear hs2 hb3 q0_0 q0_1 q1_0 q1_1 q1_2 q1_3 q1_4 q1_5 q1_6 q1_7 q1_8 q1_9 q1_10 q1_11 q1_12
  have q1_6 : _ = some (.bool o1 : Value) := LG1_3.out.cell 6
  have q1_12 : _ = some (.bool o2 : Value) := LG1_3.out.cell 12
  obtain ⟨CC, hCC⟩ : ∃ x, decide (b < i ∨ j < a) = x := ⟨_, rfl⟩
  go_upto_region 5 with fail
  go_cut [49] (fun s49 wx => s49 = .bool CC ∧ wx = w3)
  case first =>
    have hs1 := S1.out
    have hs2 := S2.out
    unfold SameSign at hs1 hs2
    rcases Int.lt_trichotomy 0 r1 with h | h | h
    · have hc : CC = true := by rw [← hCC]; simp; omega
      subst hc
      have h3 : decide (0 < r1) = true := by simp; exact h
      clear hs1 hs2 hCC
      go_wp2_with fail
      go_meet
      exact ⟨rfl, rfl⟩
    · subst h
      have ho : o2 = false := HO2.out (by omega)
      subst ho
      rcases Int.lt_trichotomy r2 0 with h | h | h
      · have hc : CC = true := by rw [← hCC]; simp; omega
        subst hc
        have h3 : decide (r2 < 0) = true := by simp; exact h
        clear hs1 hs2 hCC
        go_wp2_with fail
        go_meet
        exact ⟨rfl, rfl⟩
      · subst h
        have ho : o1 = false := HO1.out (by omega)
        subst ho
        have hc : CC = false := by rw [← hCC]; simp; omega
        subst hc
        clear hs1 hs2 hCC
        go_wp2_with fail
        go_meet
        exact ⟨rfl, rfl⟩
      · have hc : CC = false := by rw [← hCC]; simp; omega
        subst hc
        have h3 : decide (r2 < 0) = false := by simp; omega
        have h4 : (r2 == 0) = false := by simp; omega
        clear hs1 hs2 hCC h
        go_wp2_with fail
        go_meet
        exact ⟨rfl, rfl⟩
    · have h3 : decide (0 < r1) = false := by simp; omega
      have h4 : (r1 == 0) = false := by simp; omega
      rcases Int.lt_trichotomy r2 0 with h' | h' | h'
      · have hc : CC = true := by rw [← hCC]; simp; omega
        subst hc
        have h5 : decide (r2 < 0) = true := by simp; exact h'
        clear hs1 hs2 hCC h
        go_wp2_with fail
        go_meet
        exact ⟨rfl, rfl⟩
      · subst h'
        have ho : o1 = false := HO1.out (by omega)
        subst ho
        have hc : CC = false := by rw [← hCC]; simp; omega
        subst hc
        clear hs1 hs2 hCC h
        go_wp2_with fail
        go_meet
        exact ⟨rfl, rfl⟩
      · have hc : CC = false := by rw [← hCC]; simp; omega
        subst hc
        have h5 : decide (r2 < 0) = false := by simp; omega
        have h6 : (r2 == 0) = false := by simp; omega
        clear hs1 hs2 hCC h h'
        go_wp2_with fail
        go_meet
        exact ⟨rfl, rfl⟩
  case rest =>
  obtain ⟨rfl, rfl⟩ := hcut
  clear T1 T2 S1 S2
  have hr := HR.out
  have hij := HIJ.out
  clear q1_6 q1_12
  cases CC
  · have hcc := of_decide_eq_false hCC
    rw [if_pos (by omega)] at hr
    dsimp only at hr
    have HR := Lib.hid hr
    clear hr hCC
    have q0_0 : _ = some (.int .u64 (p : Int) : Value) := LG0_3.out.cell 0
    have q0_1 : _ = some (.int .u64 (q : Int) : Value) := LG0_3.out.cell 1
    go_upto_region 8 with fail
    clear q0_0 q0_1
    have hlt4 := LR3.out.lt
    have LB4 := Lib.hid (LB3.out.alloc LB3.out.size (.cells #[.int .u64 (p : Int), .int .u64 (q : Int)] 24))
    have LR4 := Lib.hid (LR3.out.alloc (.cells #[.int .u64 (p : Int), .int .u64 (q : Int)] 24))
    have LG0_4 := Lib.hid (LG0_3.out.alloc (.cells #[.int .u64 (p : Int), .int .u64 (q : Int)] 24))
    have LG1_4 := Lib.hid (LG1_3.out.alloc (.cells #[.int .u64 (p : Int), .int .u64 (q : Int)] 24))
    have LG2_4 := Lib.hid (Blk.new wc 24 #[.int .u64 (p : Int), .int .u64 (q : Int)])
    clear LB3 LR3 LG0_3 LG1_3
    obtain ⟨V4, hV4⟩ : ∃ X, (wc.alloc (.cells #[.int .u64 (p : Int), .int .u64 (q : Int)] 24)) = X := ⟨_, rfl⟩
    rw [hV4] at LB4 LR4 LG0_4 LG1_4 LG2_4 ⊢
    clear hV4
    have q0_0 : _ = some (.int .u64 (p : Int) : Value) := LG0_4.out.cell 0
    have q0_1 : _ = some (.int .u64 (q : Int) : Value) := LG0_4.out.cell 1
    have q1_0 : _ = some (.bool false : Value) := LG1_4.out.cell 0
    have q1_1 : _ = some (.int .i64 s1 : Value) := LG1_4.out.cell 1
    have q1_2 : _ = some (.bool g1 : Value) := LG1_4.out.cell 2
    have q1_3 : _ = some (.slice A1 n1 c1 : Value) := LG1_4.out.cell 3
    have q1_4 : _ = some (.slice B1 m1 d1 : Value) := LG1_4.out.cell 4
    have q1_5 : _ = some (.int .i64 1 : Value) := LG1_4.out.cell 5
    have q1_6 : _ = some (.bool o1 : Value) := LG1_4.out.cell 6
    have q1_7 : _ = some (.int .i64 s2 : Value) := LG1_4.out.cell 7
    have q1_8 : _ = some (.bool g2 : Value) := LG1_4.out.cell 8
    have q1_9 : _ = some (.slice A2 n2 c2 : Value) := LG1_4.out.cell 9
    have q1_10 : _ = some (.slice B2 m2 d2 : Value) := LG1_4.out.cell 10
    have q1_11 : _ = some (.int .i64 1 : Value) := LG1_4.out.cell 11
    have q1_12 : _ = some (.bool o2 : Value) := LG1_4.out.cell 12
    go_wp2_with fail
    refine (T3.out _ LB4.out).mono ?_
    rintro e w5 ⟨r3, rfl, hs3, hb5⟩
    have LB5 := Lib.hid (LB4.out.trans (hb5.mono LB4.out.size))
    have LR5 := Lib.hid (LR4.out.keep hb5)
    have LG0_5 := Lib.hid (LG0_4.out.keep hb5)
    have LG1_5 := Lib.hid (LG1_4.out.keep hb5)
    have LG2_5 := Lib.hid (LG2_4.out.keep hb5)
    clear LB4 LR4 LG0_4 LG1_4 LG2_4
    unfold SameSign at hs3
    clear hb5 q0_0 q0_1 q1_0 q1_1 q1_2 q1_3 q1_4 q1_5 q1_6 q1_7 q1_8 q1_9 q1_10 q1_11 q1_12
    by_cases hlo : i < a
    · have hq3 : r3 < 0 := by omega
      have MX : max i a = a := by omega
      clear hs3
      have q1_0 : _ = some (.bool false : Value) := LG1_5.out.cell 0
      have q1_1 : _ = some (.int .i64 s1 : Value) := LG1_5.out.cell 1
      have q1_2 : _ = some (.bool g1 : Value) := LG1_5.out.cell 2
      have q1_3 : _ = some (.slice A1 n1 c1 : Value) := LG1_5.out.cell 3
      have q1_4 : _ = some (.slice B1 m1 d1 : Value) := LG1_5.out.cell 4
      have q1_5 : _ = some (.int .i64 1 : Value) := LG1_5.out.cell 5
      have q1_6 : _ = some (.bool o1 : Value) := LG1_5.out.cell 6
      have q1_7 : _ = some (.int .i64 s2 : Value) := LG1_5.out.cell 7
      have q1_8 : _ = some (.bool g2 : Value) := LG1_5.out.cell 8
      have q1_9 : _ = some (.slice A2 n2 c2 : Value) := LG1_5.out.cell 9
      have q1_10 : _ = some (.slice B2 m2 d2 : Value) := LG1_5.out.cell 10
      have q1_11 : _ = some (.int .i64 1 : Value) := LG1_5.out.cell 11
      have q1_12 : _ = some (.bool o2 : Value) := LG1_5.out.cell 12
      go_wp2_with fail
      refine (T5.out _ LB5.out).mono ?_
      rintro e w6 ⟨k, rfl, hk, hb6⟩
      have LB6 := Lib.hid (LB5.out.trans (hb6.mono LB5.out.size))
      have LR6 := Lib.hid (LR5.out.keep hb6)
      have LG0_6 := Lib.hid (LG0_5.out.keep hb6)
      have LG1_6 := Lib.hid (LG1_5.out.keep hb6)
      have LG2_6 := Lib.hid (LG2_5.out.keep hb6)
      clear LB5 LR5 LG0_5 LG1_5 LG2_5
      have hka := HX5.out hlo k hk
      have HKA := Lib.hid hka
      clear hk hb6 hka q1_0 q1_1 q1_2 q1_3 q1_4 q1_5 q1_6 q1_7 q1_8 q1_9 q1_10 q1_11 q1_12
      have q2_0 : _ = some (.int .u64 (p : Int) : Value) := LG2_6.out.cell 0
      have hf1 := LG2_6.out.frozen 0
      go_upto_region 10 with fail
      clear q2_0 hf1
      have hlo2 := LR6.out.lt
      skip
      have LB7 := Lib.hid (LB6.out.setCell (p := ⟨wc.heap.size, 0, none⟩) (show w.heap.size ≤ wc.heap.size by omega) (.int .u64 (pat k : Int)))
      have LR7 := Lib.hid (show HasBlk (w6.setCell ⟨wc.heap.size, 0, none⟩ (.int .u64 (pat k : Int))) (w.heap.size + 2) 24 2 from LR6.out.other (by omega) 0 [.int .u64 (pat k : Int)])
      have LG0_7 := Lib.hid (show Blk (w6.setCell ⟨wc.heap.size, 0, none⟩ (.int .u64 (pat k : Int))) w.heap.size 24 #[.int .u64 (p : Int), .int .u64 (q : Int)] from LG0_6.out.other (by omega) 0 [.int .u64 (pat k : Int)])
      have LG1_7 := Lib.hid (show Blk (w6.setCell ⟨wc.heap.size, 0, none⟩ (.int .u64 (pat k : Int))) (w.heap.size + 1) 64 #[.bool false, .int .i64 s1, .bool g1, .slice A1 n1 c1, .slice B1 m1 d1, .int .i64 1, .bool o1, .int .i64 s2, .bool g2, .slice A2 n2 c2, .slice B2 m2 d2, .int .i64 1, .bool o2] from LG1_6.out.other (by omega) 0 [.int .u64 (pat k : Int)])
      have LG2_7 := Lib.hid (LG2_6.out.set 0 (.int .u64 (pat k : Int)))
      clear LB6 LR6 LG0_6 LG1_6 LG2_6
      obtain ⟨V6, hV6⟩ : ∃ X, w6.setCell ⟨wc.heap.size, 0, none⟩ (.int .u64 (pat k : Int)) = X := ⟨_, rfl⟩
      rw [hV6] at LB7 LR7 LG0_7 LG1_7 LG2_7 ⊢
      clear hV6
      have q0_0 : _ = some (.int .u64 (p : Int) : Value) := LG0_7.out.cell 0
      have q0_1 : _ = some (.int .u64 (q : Int) : Value) := LG0_7.out.cell 1
      have q1_0 : _ = some (.bool false : Value) := LG1_7.out.cell 0
      have q1_1 : _ = some (.int .i64 s1 : Value) := LG1_7.out.cell 1
      have q1_2 : _ = some (.bool g1 : Value) := LG1_7.out.cell 2
      have q1_3 : _ = some (.slice A1 n1 c1 : Value) := LG1_7.out.cell 3
      have q1_4 : _ = some (.slice B1 m1 d1 : Value) := LG1_7.out.cell 4
      have q1_5 : _ = some (.int .i64 1 : Value) := LG1_7.out.cell 5
      have q1_6 : _ = some (.bool o1 : Value) := LG1_7.out.cell 6
      have q1_7 : _ = some (.int .i64 s2 : Value) := LG1_7.out.cell 7
      have q1_8 : _ = some (.bool g2 : Value) := LG1_7.out.cell 8
      have q1_9 : _ = some (.slice A2 n2 c2 : Value) := LG1_7.out.cell 9
      have q1_10 : _ = some (.slice B2 m2 d2 : Value) := LG1_7.out.cell 10
      have q1_11 : _ = some (.int .i64 1 : Value) := LG1_7.out.cell 11
      have q1_12 : _ = some (.bool o2 : Value) := LG1_7.out.cell 12
      go_wp2_with fail
      refine (T4.out _ LB7.out).mono ?_
      rintro e w7 ⟨r4, rfl, hs4, hb7⟩
      have LB8 := Lib.hid (LB7.out.trans (hb7.mono LB7.out.size))
      have LR8 := Lib.hid (LR7.out.keep hb7)
      have LG0_8 := Lib.hid (LG0_7.out.keep hb7)
      have LG1_8 := Lib.hid (LG1_7.out.keep hb7)
      have LG2_8 := Lib.hid (LG2_7.out.keep hb7)
      clear LB7 LR7 LG0_7 LG1_7 LG2_7
      unfold SameSign at hs4
      clear hb7 q0_0 q0_1 q1_0 q1_1 q1_2 q1_3 q1_4 q1_5 q1_6 q1_7 q1_8 q1_9 q1_10 q1_11 q1_12
      by_cases hhi : b < j
      · have hq4 : 0 < r4 := by omega
        have MN : min j b = b := by omega
        clear hs4
        have q1_0 : _ = some (.bool false : Value) := LG1_8.out.cell 0
        have q1_1 : _ = some (.int .i64 s1 : Value) := LG1_8.out.cell 1
        have q1_2 : _ = some (.bool g1 : Value) := LG1_8.out.cell 2
        have q1_3 : _ = some (.slice A1 n1 c1 : Value) := LG1_8.out.cell 3
        have q1_4 : _ = some (.slice B1 m1 d1 : Value) := LG1_8.out.cell 4
        have q1_5 : _ = some (.int .i64 1 : Value) := LG1_8.out.cell 5
        have q1_6 : _ = some (.bool o1 : Value) := LG1_8.out.cell 6
        have q1_7 : _ = some (.int .i64 s2 : Value) := LG1_8.out.cell 7
        have q1_8 : _ = some (.bool g2 : Value) := LG1_8.out.cell 8
        have q1_9 : _ = some (.slice A2 n2 c2 : Value) := LG1_8.out.cell 9
        have q1_10 : _ = some (.slice B2 m2 d2 : Value) := LG1_8.out.cell 10
        have q1_11 : _ = some (.int .i64 1 : Value) := LG1_8.out.cell 11
        have q1_12 : _ = some (.bool o2 : Value) := LG1_8.out.cell 12
        go_wp2_with fail
        refine (T6.out _ LB8.out).mono ?_
        rintro e w8 ⟨l, rfl, hk, hb8⟩
        have LB9 := Lib.hid (LB8.out.trans (hb8.mono LB8.out.size))
        have LR9 := Lib.hid (LR8.out.keep hb8)
        have LG0_9 := Lib.hid (LG0_8.out.keep hb8)
        have LG1_9 := Lib.hid (LG1_8.out.keep hb8)
        have LG2_9 := Lib.hid (LG2_8.out.keep hb8)
        clear LB8 LR8 LG0_8 LG1_8 LG2_8
        have hka := HX6.out hhi l hk
        have HKB := Lib.hid hka
        clear hk hb8 hka q1_0 q1_1 q1_2 q1_3 q1_4 q1_5 q1_6 q1_7 q1_8 q1_9 q1_10 q1_11 q1_12
        have q2_1 : _ = some (.int .u64 (q : Int) : Value) := LG2_9.out.cell 1
        have hf1 := LG2_9.out.frozen 1
        go_upto_region 12 with fail
        clear q2_1 hf1
        have LB10 := Lib.hid (LB9.out.setCell (p := ⟨wc.heap.size, 1, none⟩) (show w.heap.size ≤ wc.heap.size by omega) (.int .u64 (pat l : Int)))
        have LR10 := Lib.hid (show HasBlk (w8.setCell ⟨wc.heap.size, 1, none⟩ (.int .u64 (pat l : Int))) (w.heap.size + 2) 24 2 from LR9.out.other (by omega) 1 [.int .u64 (pat l : Int)])
        have LG0_10 := Lib.hid (show Blk (w8.setCell ⟨wc.heap.size, 1, none⟩ (.int .u64 (pat l : Int))) w.heap.size 24 #[.int .u64 (p : Int), .int .u64 (q : Int)] from LG0_9.out.other (by omega) 1 [.int .u64 (pat l : Int)])
        have LG1_10 := Lib.hid (show Blk (w8.setCell ⟨wc.heap.size, 1, none⟩ (.int .u64 (pat l : Int))) (w.heap.size + 1) 64 #[.bool false, .int .i64 s1, .bool g1, .slice A1 n1 c1, .slice B1 m1 d1, .int .i64 1, .bool o1, .int .i64 s2, .bool g2, .slice A2 n2 c2, .slice B2 m2 d2, .int .i64 1, .bool o2] from LG1_9.out.other (by omega) 1 [.int .u64 (pat l : Int)])
        have LG2_10 := Lib.hid (LG2_9.out.set 1 (.int .u64 (pat l : Int)))
        clear LB9 LR9 LG0_9 LG1_9 LG2_9
        obtain ⟨V8, hV8⟩ : ∃ X, w8.setCell ⟨wc.heap.size, 1, none⟩ (.int .u64 (pat l : Int)) = X := ⟨_, rfl⟩
        rw [hV8] at LB10 LR10 LG0_10 LG1_10 LG2_10 ⊢
        clear hV8
        have q2_0 : _ = some (.int .u64 (pat k : Int) : Value) := LG2_10.out.cell 0
        have q2_1 : _ = some (.int .u64 (pat l : Int) : Value) := LG2_10.out.cell 1
        have HRV : r = .agg #[.int .u64 (pat k : Int), .int .u64 (pat l : Int)] := by rw [← HR.out, MX, MN, HKA.out, HKB.out]
        have ha0 := LR10.out.someCell 0 (by decide)
        have hf0 := LR10.out.frozen 0
        have ha1 := LR10.out.someCell 1 (by decide)
        have hf1 := LR10.out.frozen 1
        have hk0 := LR10.out.setCell [.int .u64 (pat k : Int), .int .u64 (pat l : Int)] rfl 0 (by decide)
        have hk1 := LR10.out.setCell [.int .u64 (pat k : Int), .int .u64 (pat l : Int)] rfl 1 (by decide)
        have F := Lib.hid (below_sets (w0 := w) (r := (w.heap.size + 2)) (by omega) [.int .u64 (pat k : Int), .int .u64 (pat l : Int)] 0 _ LB10.out)
        simp [sets] at hk0 hk1
        have HV := Lib.hid HRV
        clear HRV T3 T4 T5 T6 HE MX MN
        go_wp2
        refine bodyPost_ret (v := .agg #[.int .u64 (pat k : Int), .int .u64 (pat l : Int)]) (by simp [results, Tryz.results88, go_sem, hk0, hk1]) rfl ?_
        exact ⟨by rw [HV.out], F.out⟩
      · have hq4 : ¬ 0 < r4 := by omega
        have MN : min j b = j := by omega
        clear hs4
        have q2_0 : _ = some (.int .u64 (pat k : Int) : Value) := LG2_8.out.cell 0
        have q2_1 : _ = some (.int .u64 (q : Int) : Value) := LG2_8.out.cell 1
        have HRV : r = .agg #[.int .u64 (pat k : Int), .int .u64 (q : Int)] := by rw [← HR.out, MX, MN, HKA.out, HQQ.out]
        have ha0 := LR8.out.someCell 0 (by decide)
        have hf0 := LR8.out.frozen 0
        have ha1 := LR8.out.someCell 1 (by decide)
        have hf1 := LR8.out.frozen 1
        have hk0 := LR8.out.setCell [.int .u64 (pat k : Int), .int .u64 (q : Int)] rfl 0 (by decide)
        have hk1 := LR8.out.setCell [.int .u64 (pat k : Int), .int .u64 (q : Int)] rfl 1 (by decide)
        have F := Lib.hid (below_sets (w0 := w) (r := (w.heap.size + 2)) (by omega) [.int .u64 (pat k : Int), .int .u64 (q : Int)] 0 _ LB8.out)
        simp [sets] at hk0 hk1
        have HV := Lib.hid HRV
        clear HRV T3 T4 T5 T6 HE MX MN
        go_wp2
        refine bodyPost_ret (v := .agg #[.int .u64 (pat k : Int), .int .u64 (q : Int)]) (by simp [results, Tryz.results88, go_sem, hk0, hk1]) rfl ?_
        exact ⟨by rw [HV.out], F.out⟩
    · have hq3 : ¬ r3 < 0 := by omega
      have MX : max i a = i := by omega
      clear hs3
      have q0_0 : _ = some (.int .u64 (p : Int) : Value) := LG0_5.out.cell 0
      have q0_1 : _ = some (.int .u64 (q : Int) : Value) := LG0_5.out.cell 1
      have q1_0 : _ = some (.bool false : Value) := LG1_5.out.cell 0
      have q1_1 : _ = some (.int .i64 s1 : Value) := LG1_5.out.cell 1
      have q1_2 : _ = some (.bool g1 : Value) := LG1_5.out.cell 2
      have q1_3 : _ = some (.slice A1 n1 c1 : Value) := LG1_5.out.cell 3
      have q1_4 : _ = some (.slice B1 m1 d1 : Value) := LG1_5.out.cell 4
      have q1_5 : _ = some (.int .i64 1 : Value) := LG1_5.out.cell 5
      have q1_6 : _ = some (.bool o1 : Value) := LG1_5.out.cell 6
      have q1_7 : _ = some (.int .i64 s2 : Value) := LG1_5.out.cell 7
      have q1_8 : _ = some (.bool g2 : Value) := LG1_5.out.cell 8
      have q1_9 : _ = some (.slice A2 n2 c2 : Value) := LG1_5.out.cell 9
      have q1_10 : _ = some (.slice B2 m2 d2 : Value) := LG1_5.out.cell 10
      have q1_11 : _ = some (.int .i64 1 : Value) := LG1_5.out.cell 11
      have q1_12 : _ = some (.bool o2 : Value) := LG1_5.out.cell 12
      go_wp2_with fail
      refine (T4.out _ LB5.out).mono ?_
      rintro e w7 ⟨r4, rfl, hs4, hb7⟩
      have LB6 := Lib.hid (LB5.out.trans (hb7.mono LB5.out.size))
      have LR6 := Lib.hid (LR5.out.keep hb7)
      have LG0_6 := Lib.hid (LG0_5.out.keep hb7)
      have LG1_6 := Lib.hid (LG1_5.out.keep hb7)
      have LG2_6 := Lib.hid (LG2_5.out.keep hb7)
      clear LB5 LR5 LG0_5 LG1_5 LG2_5
      unfold SameSign at hs4
      clear hb7 q0_0 q0_1 q1_0 q1_1 q1_2 q1_3 q1_4 q1_5 q1_6 q1_7 q1_8 q1_9 q1_10 q1_11 q1_12
      by_cases hhi : b < j
      · have hq4 : 0 < r4 := by omega
        have MN : min j b = b := by omega
        clear hs4
        have q1_0 : _ = some (.bool false : Value) := LG1_6.out.cell 0
        have q1_1 : _ = some (.int .i64 s1 : Value) := LG1_6.out.cell 1
        have q1_2 : _ = some (.bool g1 : Value) := LG1_6.out.cell 2
        have q1_3 : _ = some (.slice A1 n1 c1 : Value) := LG1_6.out.cell 3
        have q1_4 : _ = some (.slice B1 m1 d1 : Value) := LG1_6.out.cell 4
        have q1_5 : _ = some (.int .i64 1 : Value) := LG1_6.out.cell 5
        have q1_6 : _ = some (.bool o1 : Value) := LG1_6.out.cell 6
        have q1_7 : _ = some (.int .i64 s2 : Value) := LG1_6.out.cell 7
        have q1_8 : _ = some (.bool g2 : Value) := LG1_6.out.cell 8
        have q1_9 : _ = some (.slice A2 n2 c2 : Value) := LG1_6.out.cell 9
        have q1_10 : _ = some (.slice B2 m2 d2 : Value) := LG1_6.out.cell 10
        have q1_11 : _ = some (.int .i64 1 : Value) := LG1_6.out.cell 11
        have q1_12 : _ = some (.bool o2 : Value) := LG1_6.out.cell 12
        go_wp2_with fail
        refine (T6.out _ LB6.out).mono ?_
        rintro e w8 ⟨l, rfl, hk, hb8⟩
        have LB7 := Lib.hid (LB6.out.trans (hb8.mono LB6.out.size))
        have LR7 := Lib.hid (LR6.out.keep hb8)
        have LG0_7 := Lib.hid (LG0_6.out.keep hb8)
        have LG1_7 := Lib.hid (LG1_6.out.keep hb8)
        have LG2_7 := Lib.hid (LG2_6.out.keep hb8)
        clear LB6 LR6 LG0_6 LG1_6 LG2_6
        have hka := HX6.out hhi l hk
        have HKB := Lib.hid hka
        clear hk hb8 hka q1_0 q1_1 q1_2 q1_3 q1_4 q1_5 q1_6 q1_7 q1_8 q1_9 q1_10 q1_11 q1_12
        have q2_1 : _ = some (.int .u64 (q : Int) : Value) := LG2_7.out.cell 1
        have hf1 := LG2_7.out.frozen 1
        go_upto_region 12 with fail
        clear q2_1 hf1
        have LB8 := Lib.hid (LB7.out.setCell (p := ⟨wc.heap.size, 1, none⟩) (show w.heap.size ≤ wc.heap.size by omega) (.int .u64 (pat l : Int)))
        have LR8 := Lib.hid (show HasBlk (w8.setCell ⟨wc.heap.size, 1, none⟩ (.int .u64 (pat l : Int))) (w.heap.size + 2) 24 2 from LR7.out.other (by omega) 1 [.int .u64 (pat l : Int)])
        have LG0_8 := Lib.hid (show Blk (w8.setCell ⟨wc.heap.size, 1, none⟩ (.int .u64 (pat l : Int))) w.heap.size 24 #[.int .u64 (p : Int), .int .u64 (q : Int)] from LG0_7.out.other (by omega) 1 [.int .u64 (pat l : Int)])
        have LG1_8 := Lib.hid (show Blk (w8.setCell ⟨wc.heap.size, 1, none⟩ (.int .u64 (pat l : Int))) (w.heap.size + 1) 64 #[.bool false, .int .i64 s1, .bool g1, .slice A1 n1 c1, .slice B1 m1 d1, .int .i64 1, .bool o1, .int .i64 s2, .bool g2, .slice A2 n2 c2, .slice B2 m2 d2, .int .i64 1, .bool o2] from LG1_7.out.other (by omega) 1 [.int .u64 (pat l : Int)])
        have LG2_8 := Lib.hid (LG2_7.out.set 1 (.int .u64 (pat l : Int)))
        clear LB7 LR7 LG0_7 LG1_7 LG2_7
        obtain ⟨V8, hV8⟩ : ∃ X, w8.setCell ⟨wc.heap.size, 1, none⟩ (.int .u64 (pat l : Int)) = X := ⟨_, rfl⟩
        rw [hV8] at LB8 LR8 LG0_8 LG1_8 LG2_8 ⊢
        clear hV8
        have q2_0 : _ = some (.int .u64 (p : Int) : Value) := LG2_8.out.cell 0
        have q2_1 : _ = some (.int .u64 (pat l : Int) : Value) := LG2_8.out.cell 1
        have HRV : r = .agg #[.int .u64 (p : Int), .int .u64 (pat l : Int)] := by rw [← HR.out, MX, MN, HPP.out, HKB.out]
        have ha0 := LR8.out.someCell 0 (by decide)
        have hf0 := LR8.out.frozen 0
        have ha1 := LR8.out.someCell 1 (by decide)
        have hf1 := LR8.out.frozen 1
        have hk0 := LR8.out.setCell [.int .u64 (p : Int), .int .u64 (pat l : Int)] rfl 0 (by decide)
        have hk1 := LR8.out.setCell [.int .u64 (p : Int), .int .u64 (pat l : Int)] rfl 1 (by decide)
        have F := Lib.hid (below_sets (w0 := w) (r := (w.heap.size + 2)) (by omega) [.int .u64 (p : Int), .int .u64 (pat l : Int)] 0 _ LB8.out)
        simp [sets] at hk0 hk1
        have HV := Lib.hid HRV
        clear HRV T3 T4 T5 T6 HE MX MN
        go_wp2
        refine bodyPost_ret (v := .agg #[.int .u64 (p : Int), .int .u64 (pat l : Int)]) (by simp [results, Tryz.results88, go_sem, hk0, hk1]) rfl ?_
        exact ⟨by rw [HV.out], F.out⟩
      · have hq4 : ¬ 0 < r4 := by omega
        have MN : min j b = j := by omega
        clear hs4
        have q2_0 : _ = some (.int .u64 (p : Int) : Value) := LG2_6.out.cell 0
        have q2_1 : _ = some (.int .u64 (q : Int) : Value) := LG2_6.out.cell 1
        have HRV : r = .agg #[.int .u64 (p : Int), .int .u64 (q : Int)] := by rw [← HR.out, MX, MN, HPP.out, HQQ.out]
        have ha0 := LR6.out.someCell 0 (by decide)
        have hf0 := LR6.out.frozen 0
        have ha1 := LR6.out.someCell 1 (by decide)
        have hf1 := LR6.out.frozen 1
        have hk0 := LR6.out.setCell [.int .u64 (p : Int), .int .u64 (q : Int)] rfl 0 (by decide)
        have hk1 := LR6.out.setCell [.int .u64 (p : Int), .int .u64 (q : Int)] rfl 1 (by decide)
        have F := Lib.hid (below_sets (w0 := w) (r := (w.heap.size + 2)) (by omega) [.int .u64 (p : Int), .int .u64 (q : Int)] 0 _ LB6.out)
        simp [sets] at hk0 hk1
        have HV := Lib.hid HRV
        clear HRV T3 T4 T5 T6 HE MX MN
        go_wp2
        refine bodyPost_ret (v := .agg #[.int .u64 (p : Int), .int .u64 (q : Int)]) (by simp [results, Tryz.results88, go_sem, hk0, hk1]) rfl ?_
        exact ⟨by rw [HV.out], F.out⟩
  · have hcc := of_decide_eq_true hCC
    rw [if_neg (by omega)] at hr
    simp only [pat_max, pat_min] at hr
    have HR := Lib.hid hr
    clear hr hCC hcc
    go_wp2_with fail
    refine (HE.out _).mono ?_
    rintro e w4 ⟨rfl, hb4⟩
    have LB4 := Lib.hid (LB3.out.trans (hb4.mono LB3.out.size))
    have LR4 := Lib.hid (LR3.out.keep hb4)
    have LG0_4 := Lib.hid (LG0_3.out.keep hb4)
    have LG1_4 := Lib.hid (LG1_3.out.keep hb4)
    clear LB3 LR3 LG0_3 LG1_3
    have ha0 := LR4.out.someCell 0 (by decide)
    have hf0 := LR4.out.frozen 0
    have ha1 := LR4.out.someCell 1 (by decide)
    have hf1 := LR4.out.frozen 1
    have hk0 := LR4.out.setCell [.int .u64 9218868437227405312, .int .u64 18442240474082181120] rfl 0 (by decide)
    have hk1 := LR4.out.setCell [.int .u64 9218868437227405312, .int .u64 18442240474082181120] rfl 1 (by decide)
    have F := Lib.hid (below_sets (w0 := w) (r := (w.heap.size + 2)) (by omega) [.int .u64 9218868437227405312, .int .u64 18442240474082181120] 0 _ LB4.out)
    simp [sets] at hk0 hk1
    clear hb4 T3 T4 T5 T6
    go_wp2
    refine bodyPost_ret (v := .agg #[.int .u64 9218868437227405312, .int .u64 18442240474082181120]) (by simp [results, Tryz.results88, go_sem, hk0, hk1]) rfl ?_
    exact ⟨by rw [← HR.out]; rfl, F.out⟩

end Go.Proofs.YtmjkmoahkanblaaGreat

namespace Go.Proofs.YtmjkmoahkanblaaGreat
open Go.RowKit

/-- v is the set of the interval of the indexes i, j. -/
def SetOf (w : World) (v : Value) (i j : Int) : Prop :=
  (i = M ∧ j = -(M : Int) ∧ ∃ s x t y g A n c B m d g' A' n' c' B' m' d', v = .agg #[.bool true, .int .i64 s, .bool g, .slice A n c, .slice B m d, .int .i64 t, .bool g', .slice A' n' c', .slice B' m' d'] ∧
    RatV w 34 g (.slice A n c) (.slice B m d) x ∧ RatV w 34 g' (.slice A' n' c') (.slice B' m' d') y) ∨
  ((-(M : Int) ≤ i ∧ i ≤ j ∧ j ≤ M ∧ i < M ∧ -(M : Int) < j) ∧ ∃ g A n c B m d g' A' n' c' B' m' d', v = .agg #[.bool false, .int .i64 (es i), .bool g, .slice A n c, .slice B m d, .int .i64 (es j), .bool g', .slice A' n' c', .slice B' m' d'] ∧
    RatV w 34 g (.slice A n c) (.slice B m d) (ex i) ∧ RatV w 34 g' (.slice A' n' c') (.slice B' m' d') (ex j))
theorem SetOf.below {w w' : World} {v : Value} {i j : Int} (h : SetOf w v i j) (hb : Below w.heap.size w w') : SetOf w' v i j := by
  rcases h with ⟨h1, h2, s, x, t, y, g, A, n, c, B, m, d, g', A', n', c', B', m', d', h3, h4, h5⟩ | ⟨h1, g, A, n, c, B, m, d, g', A', n', c', B', m', d', h3, h4, h5⟩
  · exact .inl ⟨h1, h2, s, x, t, y, g, A, n, c, B, m, d, g', A', n', c', B', m', d', h3, h4.below hb, h5.below hb⟩
  · exact .inr ⟨h1, g, A, n, c, B, m, d, g', A', n', c', B', m', d', h3, h4.below hb, h5.below hb⟩
theorem SetOf.iv {w : World} {v : Value} {i j : Int} (h : SetOf w v i j) : Iv i j := by
  rcases h with ⟨h1, h2, -⟩ | ⟨h1, -⟩
  · exact .inr ⟨h1, h2⟩
  · exact .inl h1

theorem of_idx (x y : Nat) (w : World) (hx : x < 18446744073709551616) (hy : y < 18446744073709551616) :
    Calls Tryz.prog 57 #[.agg #[.int .u64 (x : Int), .int .u64 (y : Int)]] w fun e w' => ∃ v, e = .returned v ∧ SetOf w' v (rd x y).1 (rd x y).2 ∧ Below w.heap.size w w' := by
  cases h : snd x y
  · refine (of_none x y w hx hy h).mono ?_
    rintro e w' ⟨g, A, n, c, B, m, d, g', A', n', c', B', m', d', rfl, h1, h2, hb⟩
    refine ⟨_, rfl, .inl ?_, hb⟩
    unfold rd
    rw [h]
    exact ⟨rfl, rfl, _, _, _, _, g, A, n, c, B, m, d, g', A', n', c', B', m', d', rfl, h1.k34, h2.k34⟩
  · refine (of_full x y w hx hy h).mono ?_
    rintro e w' ⟨g, A, n, c, B, m, d, g', A', n', c', B', m', d', rfl, h1, h2, hb⟩
    refine ⟨_, rfl, .inr ?_, hb⟩
    have hd := of_decide_eq_true h
    have hi := idx_bounds hd.1
    have hj := idx_bounds hd.2.1
    unfold rd
    rw [h]
    exact ⟨⟨hi.1, hd.2.2.1, hj.2, hd.2.2.2.1, hd.2.2.2.2⟩, g, A, n, c, B, m, d, g', A', n', c', B', m', d', rfl, h1, h2⟩
/-- The least interval that holds two. -/
def hl (i j i' j' : Int) : Int × Int := if j < i then (i', j') else if j' < i' then (i, j) else (min i i', max j j')
theorem least_idx (v : Value) (i j : Int) (w : World) (h : SetOf w v i j) :
    Calls Tryz.prog 121 #[v] w fun e w' => e = .returned (.agg #[.int .u64 (pat i : Int), .int .u64 (pat j : Int)]) ∧ Below w.heap.size w w' := by
  rcases h with ⟨rfl, rfl, s, x, t, y, g, A, n, c, B, m, d, g', A', n', c', B', m', d', rfl, h4, h5⟩ | ⟨h1, g, A, n, c, B, m, d, g', A', n', c', B', m', d', rfl, h4, h5⟩
  · rw [pat_max, pat_min]
    exact least_none s g A n c B m d x t g' A' n' c' B' m' d' y w
  · refine (least_some 34 _ g A n c B m d _ _ g' A' n' c' B' m' d' _ w h4 h5 (by omega)).mono ?_
    rintro e w' ⟨i', j', rfl, r1, r2, r3, r4, hb⟩
    rw [least_lo (by omega) (by omega) r1 r2, least_hi (by omega) (by omega) r3 r4]
    exact ⟨rfl, hb⟩
theorem ec_sel_lo {i i' : Int} (h0 : -(M : Int) ≤ i ∧ i ≤ M) (h1 : -(M : Int) ≤ i' ∧ i' ≤ M) :
    (if ec (es i') (ex i') (es i) (ex i) < 0 then es i' else es i) = es (min i i') ∧ (if ec (es i') (ex i') (es i) (ex i) < 0 then ex i' else ex i) = ex (min i i') := by
  have := ec_idx h1.1 h1.2 h0.1 h0.2
  unfold SameSign at this
  by_cases h : i' < i
  · rw [if_pos (by omega), if_pos (by omega), show min i i' = i' from by omega]; exact ⟨rfl, rfl⟩
  · rw [if_neg (by omega), if_neg (by omega), show min i i' = i from by omega]; exact ⟨rfl, rfl⟩
theorem ec_sel_hi {i i' : Int} (h0 : -(M : Int) ≤ i ∧ i ≤ M) (h1 : -(M : Int) ≤ i' ∧ i' ≤ M) :
    (if 0 < ec (es i') (ex i') (es i) (ex i) then es i' else es i) = es (max i i') ∧ (if 0 < ec (es i') (ex i') (es i) (ex i) then ex i' else ex i) = ex (max i i') := by
  have := ec_idx h1.1 h1.2 h0.1 h0.2
  unfold SameSign at this
  by_cases h : i < i'
  · rw [if_pos (by omega), if_pos (by omega), show max i i' = i' from by omega]; exact ⟨rfl, rfl⟩
  · rw [if_neg (by omega), if_neg (by omega), show max i i' = i from by omega]; exact ⟨rfl, rfl⟩
theorem hull_idx (u v : Value) (i j i' j' : Int) (w : World) (h : SetOf w u i j) (h' : SetOf w v i' j') :
    Calls Tryz.prog 122 #[u, v] w fun e w' => ∃ t, e = .returned t ∧ SetOf w' t (hl i j i' j').1 (hl i j i' j').2 ∧ Below w.heap.size w w' := by
  have hM : M = 9218868437227405312 := rfl
  rcases h with ⟨rfl, rfl, s1, x1, t1, y1, g, A, n, c, B, m, d, g2, A2, n2, c2, B2, m2, d2, rfl, h4, h5⟩ | ⟨h1, g, A, n, c, B, m, d, g2, A2, n2, c2, B2, m2, d2, rfl, h4, h5⟩
  · have hh : hl M (-(M : Int)) i' j' = (i', j') := by unfold hl; rw [if_pos (by omega)]
    rw [hh]
    rcases h' with ⟨rfl, rfl, s3, x3, t3, y3, g', A', n', c', B', m', d', g4, A4, n4, c4, B4, m4, d4, rfl, h6, h7⟩ | ⟨h1', g', A', n', c', B', m', d', g4, A4, n4, c4, B4, m4, d4, rfl, h6, h7⟩
    · refine (hull_left 34 true s1 g A n c B m d x1 t1 g2 A2 n2 c2 B2 m2 d2 y1 s3 g' A' n' c' B' m' d' x3 t3 g4 A4 n4 c4 B4 m4 d4 y3 w h4 h5 h6 h7).mono ?_
      rintro e w' ⟨g5, A5, n5, c5, B5, m5, d5, g6, A6, n6, c6, B6, m6, d6, rfl, q1, q2, hb⟩
      exact ⟨_, rfl, .inl ⟨rfl, rfl, _, _, _, _, _, _, _, _, _, _, _, _, _, _, _, _, _, _, rfl, q1, q2⟩, hb⟩
    · refine (hull_left 34 false s1 g A n c B m d x1 t1 g2 A2 n2 c2 B2 m2 d2 y1 _ g' A' n' c' B' m' d' _ _ g4 A4 n4 c4 B4 m4 d4 _ w h4 h5 h6 h7).mono ?_
      rintro e w' ⟨g5, A5, n5, c5, B5, m5, d5, g6, A6, n6, c6, B6, m6, d6, rfl, q1, q2, hb⟩
      exact ⟨_, rfl, .inr ⟨h1', _, _, _, _, _, _, _, _, _, _, _, _, _, _, rfl, q1, q2⟩, hb⟩
  · rcases h' with ⟨rfl, rfl, s3, x3, t3, y3, g', A', n', c', B', m', d', g4, A4, n4, c4, B4, m4, d4, rfl, h6, h7⟩ | ⟨h1', g', A', n', c', B', m', d', g4, A4, n4, c4, B4, m4, d4, rfl, h6, h7⟩
    · have hh : hl i j M (-(M : Int)) = (i, j) := by unfold hl; rw [if_neg (by omega), if_pos (by omega)]
      rw [hh]
      refine (hull_right 34 _ g A n c B m d _ _ g2 A2 n2 c2 B2 m2 d2 _ s3 g' A' n' c' B' m' d' x3 t3 g4 A4 n4 c4 B4 m4 d4 y3 w h4 h5 h6 h7).mono ?_
      rintro e w' ⟨g5, A5, n5, c5, B5, m5, d5, g6, A6, n6, c6, B6, m6, d6, rfl, q1, q2, hb⟩
      exact ⟨_, rfl, .inr ⟨h1, _, _, _, _, _, _, _, _, _, _, _, _, _, _, rfl, q1, q2⟩, hb⟩
    · have hh : hl i j i' j' = (min i i', max j j') := by unfold hl; rw [if_neg (by omega), if_neg (by omega)]
      rw [hh]
      have e1 := ec_sel_lo (i := i) (i' := i') (by omega) (by omega)
      have e2 := ec_sel_hi (i := j) (i' := j') (by omega) (by omega)
      have := hull_both 34 (es i) g A n c B m d (ex i) (es j) g2 A2 n2 c2 B2 m2 d2 (ex j) (es i') g' A' n' c' B' m' d' (ex i') (es j') g4 A4 n4 c4 B4 m4 d4 (ex j') w h4 h5 h6 h7 (by omega)
      rw [e1.1, e1.2, e2.1, e2.2] at this
      refine this.mono ?_
      rintro e w' ⟨g5, A5, n5, c5, B5, m5, d5, g6, A6, n6, c6, B6, m6, d6, rfl, q1, q2, hb⟩
      exact ⟨_, rfl, .inr ⟨by dsimp only; omega, _, _, _, _, _, _, _, _, _, _, _, _, _, _, rfl, q1, q2⟩, hb⟩

end Go.Proofs.YtmjkmoahkanblaaGreat
