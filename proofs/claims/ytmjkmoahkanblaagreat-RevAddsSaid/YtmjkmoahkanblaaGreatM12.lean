/-
Walks: package vergeref10, against.
-/
import Derived.Test.YtmjkmoahkanblaaGreatM08
import Derived.Test.YtmjkmoahkanblaaGreatM10
import Derived.Test.YtmjkmoahkanblaaGreatM11
set_option linter.unusedSimpArgs false
set_option linter.unusedVariables false

namespace Go.Proofs.YtmjkmoahkanblaaGreat
open Go.RowKit

theorem rc_neg (x y : Rat) : rc (-x) (-y) = - rc x y := by
  unfold rc
  by_cases h : x < y
  · rw [if_neg (show ¬ -x < -y by grind), if_pos (show -y < -x by grind), if_pos h]; rfl
  · by_cases h2 : y < x
    · rw [if_pos (show -x < -y by grind), if_neg h, if_pos h2]
    · rw [if_neg (show ¬ -x < -y by grind), if_neg (show ¬ -y < -x by grind), if_neg h, if_neg h2]; rfl
theorem rc_range (x y : Rat) : -1 ≤ rc x y ∧ rc x y ≤ 1 := by unfold rc; split <;> (try split) <;> omega
theorem rsg_range (x : Rat) : -1 ≤ rsg x ∧ rsg x ≤ 1 := by unfold rsg; split <;> (try split) <;> omega
theorem rc_zero_zero : rc 0 0 = 0 := by decide
theorem rsg_zero_iff {x : Rat} : rsg x = 0 ↔ x = 0 := by
  unfold rsg
  constructor
  · intro h
    split at h
    · assumption
    · split at h <;> cases h
  · rintro rfl; rfl
/-- How an end of x stands to a bound. -/
def SameSign (r c : Int) : Prop := (r < 0 ↔ c < 0) ∧ (0 < r ↔ 0 < c)
theorem SameSign.refl (c : Int) : SameSign c c := ⟨Iff.rfl, Iff.rfl⟩
theorem same_diff {x y : Rat} (h : rsg x ≠ rsg y) : SameSign (rsg x - rsg y) (rc x y) := by
  rcases Int.lt_trichotomy (rsg x) (rsg y) with h1 | h1 | h1
  · rw [rc_below h1]; unfold SameSign; omega
  · exact absurd h1 h
  · rw [rc_above h1]; unfold SameSign; omega
/-- What against answers. -/
def Ag (w : World) (c : Int) (e : Ending) (w' : World) : Prop := ∃ r : Int, e = .returned (.int .i64 r) ∧ SameSign r c ∧ Below w.heap.size w w'

set_option maxHeartbeats 3200000 in
theorem against_inf (K : Nat) (i : Int) (s1 : Int) (g1 : Bool) (A1 : Option Addr) (n1 c1 : Nat) (B1 : Option Addr) (m1 d1 : Nat) (x1 : Rat) (o1 : Bool) (w : World) (hi : i = M ∨ i = -(M : Int)) (h1 : RatV w K g1 (.slice A1 n1 c1) (.slice B1 m1 d1) x1) (hK : 34 ≤ K) (hK2 : K ≤ 1048576) :
    Calls Tryz.prog 157 #[.int .u64 (pat i : Int), .agg #[.int .i64 s1, .bool g1, .slice A1 n1 c1, .slice B1 m1 d1, .int .i64 1, .bool o1]] w (Ag w (ec (es i) (ex i) s1 x1)) := by
  have hM : M = 9218868437227405312 := rfl
  have hr := rung_pat (i := i) (by omega) (by omega)
  have hpl := pat_lt (i := i) (by omega) (by omega)
  have HI := Lib.hid fun W => isinf_any (pat i) W hpl
  have HB := Lib.hid fun W => bound_raw (pat i) W hpl (by rw [hr]; omega)
  rw [idx_pat (by omega) (by omega)] at HB
  rw [hr, show decide (i.natAbs = M) = true from by simp; omega] at HI
  have HC := Lib.hid fun W (g : Bool) (A : Option Addr) (n c : Nat) (B : Option Addr) (m d : Nat) (hW : Below w.heap.size w W) (h : RatV W 34 g (.slice A n c) (.slice B m d) (ex i)) => ecmp_any K (es i) g A n c B m d (ex i) s1 g1 A1 n1 c1 B1 m1 d1 x1 W (h.mono hK) (h1.below hW) (by omega)
  obtain ⟨P, hP⟩ : ∃ P, pat i = P := ⟨_, rfl⟩
  rw [hP] at HI HB hpl ⊢
  obtain ⟨s0, e1⟩ : ∃ s, es i = s := ⟨_, rfl⟩
  obtain ⟨x0, e2⟩ : ∃ s, ex i = s := ⟨_, rfl⟩
  rw [e1, e2] at HB HC ⊢
  obtain ⟨r, hr⟩ : ∃ r, ec s0 x0 s1 x1 = r := ⟨_, rfl⟩
  rw [hr] at HC ⊢
  clear hi hM hP e1 e2 hr h1 hpl hK hK2
  have LB0 := Lib.hid (show Below w.heap.size w (w.alloc (.cells #[.int .i64 s1, .bool g1, .slice A1 n1 c1, .slice B1 m1 d1, .int .i64 1, .bool o1] 62)) from (below_alloc w _))
  have LG0_0 := Lib.hid ((Blk.at (W := w) (g := w.heap.size) (by simp <;> omega) 62 #[.int .i64 s1, .bool g1, .slice A1 n1 c1, .slice B1 m1 d1, .int .i64 1, .bool o1]))
  go_enter Tryz.func157, Tryz.ntmps157
  go_wp2_with fail
  refine (HI.out _).mono ?_
  rintro e w1 ⟨rfl, k, rfl⟩
  have LB1 := Lib.hid (below_drewN LB0.out k)
  have LG0_1 := Lib.hid (LG0_0.out.drewN k)
  clear LB0 LG0_0
  have q0_0 : _ = some (.int .i64 s1 : Value) := LG0_1.out.cell 0
  go_upto_region 2 with fail
  clear q0_0
  refine wp_region_held_drew (S := fun W' => Blk W' w.heap.size 62 #[.int .i64 s1, .bool g1, .slice A1 n1 c1, .slice B1 m1 d1, .int .i64 1, .bool o1] ∧ Below w.heap.size w W') (by kernel_rfl) (by exact ⟨LG0_1.out.drew, LB1.out.drew⟩) (fun hHeld => ?_)
  refine wpAnyH_take (i := 0) (v := ?_) rfl (by kernel_rfl) (by kernel_rfl) (by kernel_rfl) (fun _ _ _ h => h) (Or.inl ⟨by rfl, ?_⟩) (by assumption) ?_
  rotate_left
  · (intro W2 hSw; go_simp; (try with_reducible rfl))
  try simp only [Act.put, List.getElem_toArray, List.getElem_cons_succ, List.getElem_cons_zero, List.setIfInBounds_toArray, List.set_cons_zero, List.set_cons_succ]
  refine wpAnyH_take (i := 2) (v := ?_) rfl (by kernel_rfl) (by kernel_rfl) (by kernel_rfl) (fun _ _ _ h => h) (Or.inl ⟨by rfl, ?_⟩) (by assumption) ?_
  rotate_left
  · (intro W2 hSw; go_simp; (try with_reducible rfl))
  try simp only [Act.put, List.getElem_toArray, List.getElem_cons_succ, List.getElem_cons_zero, List.setIfInBounds_toArray, List.set_cons_zero, List.set_cons_succ]
  refine wpAnyH_take (i := 3) (v := ?_) rfl (by kernel_rfl) (by kernel_rfl) (by kernel_rfl) (fun _ _ _ h => h) (Or.inl ⟨by rfl, ?_⟩) (by assumption) ?_
  rotate_left
  · (intro W2 hSw; (try dsimp only at hSw); have q0 : _ = some (.int .i64 s1 : Value) := hSw.1.cell 0; have q1 : _ = some (.bool g1 : Value) := hSw.1.cell 1; have q2 : _ = some (.slice A1 n1 c1 : Value) := hSw.1.cell 2; have q3 : _ = some (.slice B1 m1 d1 : Value) := hSw.1.cell 3; have q4 : _ = some (.int .i64 1 : Value) := hSw.1.cell 4; have q5 : _ = some (.bool o1 : Value) := hSw.1.cell 5; go_simp; (try with_reducible rfl))
  try simp only [Act.put, List.getElem_toArray, List.getElem_cons_succ, List.getElem_cons_zero, List.setIfInBounds_toArray, List.set_cons_zero, List.set_cons_succ]
  refine wpAnyH_take (i := 4) (v := ?_) rfl (by kernel_rfl) (by kernel_rfl) (by kernel_rfl) (fun _ _ _ h => h) (Or.inl ⟨by rfl, ?_⟩) (by assumption) ?_
  rotate_left
  · (intro W2 hSw; go_simp; (try with_reducible rfl))
  try simp only [Act.put, List.getElem_toArray, List.getElem_cons_succ, List.getElem_cons_zero, List.setIfInBounds_toArray, List.set_cons_zero, List.set_cons_succ]
  refine wpAnyH_take (i := 5) (v := ?_) rfl (by kernel_rfl) (by kernel_rfl) (by kernel_rfl) (fun _ _ _ h => h) (Or.inl ⟨by rfl, ?_⟩) (by assumption) ?_
  rotate_left
  · (intro W2 hSw; (try dsimp only at hSw); have q0 : _ = some (.int .i64 s1 : Value) := hSw.1.cell 0; have q1 : _ = some (.bool g1 : Value) := hSw.1.cell 1; have q2 : _ = some (.slice A1 n1 c1 : Value) := hSw.1.cell 2; have q3 : _ = some (.slice B1 m1 d1 : Value) := hSw.1.cell 3; have q4 : _ = some (.int .i64 1 : Value) := hSw.1.cell 4; have q5 : _ = some (.bool o1 : Value) := hSw.1.cell 5; go_simp; (try with_reducible rfl))
  try simp only [Act.put, List.getElem_toArray, List.getElem_cons_succ, List.getElem_cons_zero, List.setIfInBounds_toArray, List.set_cons_zero, List.set_cons_succ]
  refine wpAnyH_take (i := 6) (v := ?_) rfl (by kernel_rfl) (by kernel_rfl) (by kernel_rfl) (fun _ _ _ h => h) (Or.inl ⟨by rfl, ?_⟩) (by assumption) ?_
  rotate_left
  · (intro W2 hSw; go_simp; (try with_reducible rfl))
  try simp only [Act.put, List.getElem_toArray, List.getElem_cons_succ, List.getElem_cons_zero, List.setIfInBounds_toArray, List.set_cons_zero, List.set_cons_succ]
  refine wpAnyH_ready (rs := [1]) (by kernel_rfl) (by simp) ?_
  refine AllReadyH.cons rfl (fun KK hKK => ?_) AllReadyH.nil
  go_simp
  refine (HB.out _).mono ?_
  rintro e w2 ⟨g2, A2, n2, c2, B2, m2, d2, rfl, h2, hb2⟩
  go_wp2_with fail
  refine hKK.out _ _ (⟨hHeld.1.keep hb2, hHeld.2.trans (hb2.mono hHeld.2.size)⟩) (fun _ => ?_)
  clear hKK KK hHeld; rename_i hHeld
  try simp only [Act.put, List.getElem_toArray, List.getElem_cons_succ, List.getElem_cons_zero, List.setIfInBounds_toArray, List.set_cons_zero, List.set_cons_succ]
  refine wpAnyH_ready (rs := [7]) (by kernel_rfl) (by simp) ?_
  refine AllReadyH.cons rfl (fun KK hKK => ?_) AllReadyH.nil
  go_simp
  refine (HC.out _ g2 A2 n2 c2 B2 m2 d2 hHeld.2 h2).mono ?_
  rintro e w3 ⟨rfl, hb3⟩
  go_wp2_with fail
  refine hKK.out _ _ (⟨hHeld.1.keep hb3, hHeld.2.trans (hb3.mono hHeld.2.size)⟩) (fun _ => ?_)
  clear hKK KK hHeld; rename_i hHeld
  try simp only [Act.put, List.getElem_toArray, List.getElem_cons_succ, List.getElem_cons_zero, List.setIfInBounds_toArray, List.set_cons_zero, List.set_cons_succ]
  refine wpAnyH_take (i := 8) (v := ?_) rfl (by kernel_rfl) (by kernel_rfl) (by kernel_rfl) (fun _ _ _ h => h) (Or.inl ⟨by rfl, ?_⟩) (by assumption) ?_
  rotate_left
  · (intro W2 hSw; go_simp; (try with_reducible rfl))
  try simp only [Act.put, List.getElem_toArray, List.getElem_cons_succ, List.getElem_cons_zero, List.setIfInBounds_toArray, List.set_cons_zero, List.set_cons_succ]
  refine wpAnyH_done (by kernel_rfl) ?_ _
  have LB3 := Lib.hid hHeld.2
  clear hHeld hb2 hb3 h2 LB1 LG0_1 HB HC HI
  go_wp2
  go_ret
  exact ⟨r, rfl, SameSign.refl r, LB3.out⟩

set_option maxHeartbeats 3200000 in
theorem against_far (K : Nat) (i : Int) (s1 : Int) (g1 : Bool) (A1 : Option Addr) (n1 c1 : Nat) (B1 : Option Addr) (m1 d1 : Nat) (x1 : Rat) (o1 : Bool) (w : World) (hi : -(M : Int) < i ∧ i < M) (hs : s1 ≠ 0) (h1 : RatV w K g1 (.slice A1 n1 c1) (.slice B1 m1 d1) x1) (hK : 34 ≤ K) (hK2 : K ≤ 1048576) :
    Calls Tryz.prog 157 #[.int .u64 (pat i : Int), .agg #[.int .i64 s1, .bool g1, .slice A1 n1 c1, .slice B1 m1 d1, .int .i64 1, .bool o1]] w (Ag w (ec (es i) (ex i) s1 x1)) := by
  have hM : M = 9218868437227405312 := rfl
  have hr := rung_pat (i := i) (by omega) (by omega)
  have hpl := pat_lt (i := i) (by omega) (by omega)
  have HI := Lib.hid fun W => isinf_any (pat i) W hpl
  have HB := Lib.hid fun W => bound_raw (pat i) W hpl (by rw [hr]; omega)
  rw [idx_pat (by omega) (by omega)] at HB
  rw [hr, show decide (i.natAbs = M) = false from by simp; omega] at HI
  have HC := Lib.hid fun W (g : Bool) (A : Option Addr) (n c : Nat) (B : Option Addr) (m d : Nat) (hW : Below w.heap.size w W) (h : RatV W 34 g (.slice A n c) (.slice B m d) (ex i)) => ecmp_any K (es i) g A n c B m d (ex i) s1 g1 A1 n1 c1 B1 m1 d1 x1 W (h.mono hK) (h1.below hW) (by omega)
  obtain ⟨P, hP⟩ : ∃ P, pat i = P := ⟨_, rfl⟩
  rw [hP] at HI HB hpl ⊢
  obtain ⟨s0, e1⟩ : ∃ s, es i = s := ⟨_, rfl⟩
  obtain ⟨x0, e2⟩ : ∃ s, ex i = s := ⟨_, rfl⟩
  rw [e1, e2] at HB HC ⊢
  obtain ⟨r, hr⟩ : ∃ r, ec s0 x0 s1 x1 = r := ⟨_, rfl⟩
  rw [hr] at HC ⊢
  have hq : (s1 == 0) = false := by simp; omega
  clear hi hM hP e1 e2 hr h1 hpl hK hK2
  have LB0 := Lib.hid (show Below w.heap.size w (w.alloc (.cells #[.int .i64 s1, .bool g1, .slice A1 n1 c1, .slice B1 m1 d1, .int .i64 1, .bool o1] 62)) from (below_alloc w _))
  have LG0_0 := Lib.hid ((Blk.at (W := w) (g := w.heap.size) (by simp <;> omega) 62 #[.int .i64 s1, .bool g1, .slice A1 n1 c1, .slice B1 m1 d1, .int .i64 1, .bool o1]))
  go_enter Tryz.func157, Tryz.ntmps157
  go_wp2_with fail
  refine (HI.out _).mono ?_
  rintro e w1 ⟨rfl, k, rfl⟩
  have LB1 := Lib.hid (below_drewN LB0.out k)
  have LG0_1 := Lib.hid (LG0_0.out.drewN k)
  clear LB0 LG0_0
  have q0_0 : _ = some (.int .i64 s1 : Value) := LG0_1.out.cell 0
  go_upto_region 2 with fail
  clear q0_0
  refine wp_region_held_drew (S := fun W' => Blk W' w.heap.size 62 #[.int .i64 s1, .bool g1, .slice A1 n1 c1, .slice B1 m1 d1, .int .i64 1, .bool o1] ∧ Below w.heap.size w W') (by kernel_rfl) (by exact ⟨LG0_1.out.drew, LB1.out.drew⟩) (fun hHeld => ?_)
  refine wpAnyH_take (i := 0) (v := ?_) rfl (by kernel_rfl) (by kernel_rfl) (by kernel_rfl) (fun _ _ _ h => h) (Or.inl ⟨by rfl, ?_⟩) (by assumption) ?_
  rotate_left
  · (intro W2 hSw; go_simp; (try with_reducible rfl))
  try simp only [Act.put, List.getElem_toArray, List.getElem_cons_succ, List.getElem_cons_zero, List.setIfInBounds_toArray, List.set_cons_zero, List.set_cons_succ]
  refine wpAnyH_take (i := 2) (v := ?_) rfl (by kernel_rfl) (by kernel_rfl) (by kernel_rfl) (fun _ _ _ h => h) (Or.inl ⟨by rfl, ?_⟩) (by assumption) ?_
  rotate_left
  · (intro W2 hSw; go_simp; (try with_reducible rfl))
  try simp only [Act.put, List.getElem_toArray, List.getElem_cons_succ, List.getElem_cons_zero, List.setIfInBounds_toArray, List.set_cons_zero, List.set_cons_succ]
  refine wpAnyH_take (i := 3) (v := ?_) rfl (by kernel_rfl) (by kernel_rfl) (by kernel_rfl) (fun _ _ _ h => h) (Or.inl ⟨by rfl, ?_⟩) (by assumption) ?_
  rotate_left
  · (intro W2 hSw; (try dsimp only at hSw); have q0 : _ = some (.int .i64 s1 : Value) := hSw.1.cell 0; have q1 : _ = some (.bool g1 : Value) := hSw.1.cell 1; have q2 : _ = some (.slice A1 n1 c1 : Value) := hSw.1.cell 2; have q3 : _ = some (.slice B1 m1 d1 : Value) := hSw.1.cell 3; have q4 : _ = some (.int .i64 1 : Value) := hSw.1.cell 4; have q5 : _ = some (.bool o1 : Value) := hSw.1.cell 5; go_simp; (try with_reducible rfl))
  try simp only [Act.put, List.getElem_toArray, List.getElem_cons_succ, List.getElem_cons_zero, List.setIfInBounds_toArray, List.set_cons_zero, List.set_cons_succ]
  refine wpAnyH_take (i := 4) (v := ?_) rfl (by kernel_rfl) (by kernel_rfl) (by kernel_rfl) (fun _ _ _ h => h) (Or.inl ⟨by rfl, ?_⟩) (by assumption) ?_
  rotate_left
  · (intro W2 hSw; go_simp; (try with_reducible rfl))
  try simp only [Act.put, List.getElem_toArray, List.getElem_cons_succ, List.getElem_cons_zero, List.setIfInBounds_toArray, List.set_cons_zero, List.set_cons_succ]
  refine wpAnyH_take (i := 5) (v := ?_) rfl (by kernel_rfl) (by kernel_rfl) (by kernel_rfl) (fun _ _ _ h => h) (Or.inl ⟨by rfl, ?_⟩) (by assumption) ?_
  rotate_left
  · (intro W2 hSw; (try dsimp only at hSw); have q0 : _ = some (.int .i64 s1 : Value) := hSw.1.cell 0; have q1 : _ = some (.bool g1 : Value) := hSw.1.cell 1; have q2 : _ = some (.slice A1 n1 c1 : Value) := hSw.1.cell 2; have q3 : _ = some (.slice B1 m1 d1 : Value) := hSw.1.cell 3; have q4 : _ = some (.int .i64 1 : Value) := hSw.1.cell 4; have q5 : _ = some (.bool o1 : Value) := hSw.1.cell 5; go_simp; (try with_reducible rfl))
  try simp only [Act.put, List.getElem_toArray, List.getElem_cons_succ, List.getElem_cons_zero, List.setIfInBounds_toArray, List.set_cons_zero, List.set_cons_succ]
  refine wpAnyH_take (i := 6) (v := ?_) rfl (by kernel_rfl) (by kernel_rfl) (by kernel_rfl) (fun _ _ _ h => h) (Or.inl ⟨by rfl, ?_⟩) (by assumption) ?_
  rotate_left
  · (intro W2 hSw; go_simp; (try with_reducible rfl))
  try simp only [Act.put, List.getElem_toArray, List.getElem_cons_succ, List.getElem_cons_zero, List.setIfInBounds_toArray, List.set_cons_zero, List.set_cons_succ]
  refine wpAnyH_ready (rs := [1]) (by kernel_rfl) (by simp) ?_
  refine AllReadyH.cons rfl (fun KK hKK => ?_) AllReadyH.nil
  go_simp
  refine (HB.out _).mono ?_
  rintro e w2 ⟨g2, A2, n2, c2, B2, m2, d2, rfl, h2, hb2⟩
  go_wp2_with fail
  refine hKK.out _ _ (⟨hHeld.1.keep hb2, hHeld.2.trans (hb2.mono hHeld.2.size)⟩) (fun _ => ?_)
  clear hKK KK hHeld; rename_i hHeld
  try simp only [Act.put, List.getElem_toArray, List.getElem_cons_succ, List.getElem_cons_zero, List.setIfInBounds_toArray, List.set_cons_zero, List.set_cons_succ]
  refine wpAnyH_ready (rs := [7]) (by kernel_rfl) (by simp) ?_
  refine AllReadyH.cons rfl (fun KK hKK => ?_) AllReadyH.nil
  go_simp
  refine (HC.out _ g2 A2 n2 c2 B2 m2 d2 hHeld.2 h2).mono ?_
  rintro e w3 ⟨rfl, hb3⟩
  go_wp2_with fail
  refine hKK.out _ _ (⟨hHeld.1.keep hb3, hHeld.2.trans (hb3.mono hHeld.2.size)⟩) (fun _ => ?_)
  clear hKK KK hHeld; rename_i hHeld
  try simp only [Act.put, List.getElem_toArray, List.getElem_cons_succ, List.getElem_cons_zero, List.setIfInBounds_toArray, List.set_cons_zero, List.set_cons_succ]
  refine wpAnyH_take (i := 8) (v := ?_) rfl (by kernel_rfl) (by kernel_rfl) (by kernel_rfl) (fun _ _ _ h => h) (Or.inl ⟨by rfl, ?_⟩) (by assumption) ?_
  rotate_left
  · (intro W2 hSw; go_simp; (try with_reducible rfl))
  try simp only [Act.put, List.getElem_toArray, List.getElem_cons_succ, List.getElem_cons_zero, List.setIfInBounds_toArray, List.set_cons_zero, List.set_cons_succ]
  refine wpAnyH_done (by kernel_rfl) ?_ _
  have LB3 := Lib.hid hHeld.2
  clear hHeld hb2 hb3 h2 LB1 LG0_1 HB HC HI
  go_wp2
  go_ret
  exact ⟨r, rfl, SameSign.refl r, LB3.out⟩

set_option maxRecDepth 2000 in
set_option maxHeartbeats 6400000 in
theorem against_fin (K : Nat) (i : Int) (g1 : Bool) (A1 : Option Addr) (n1 c1 : Nat) (B1 : Option Addr) (m1 d1 : Nat) (x1 : Rat) (o1 : Bool) (w : World) (hi : -(M : Int) < i ∧ i < M) (h1 : RatV w K g1 (.slice A1 n1 c1) (.slice B1 m1 d1) x1) (hK : 34 ≤ K) (hK2 : K ≤ 1048576) :
    Calls Tryz.prog 157 #[.int .u64 (pat i : Int), .agg #[.int .i64 0, .bool g1, .slice A1 n1 c1, .slice B1 m1 d1, .int .i64 1, .bool o1]] w (Ag w (rc (fl i) x1)) := by
  have hM : M = 9218868437227405312 := rfl
  have hr := rung_pat (i := i) (by omega) (by omega)
  have hpl := pat_lt (i := i) (by omega) (by omega)
  have HI := Lib.hid fun W => isinf_any (pat i) W hpl
  have HF := Lib.hid fun W => (frombits_any (pat i) W hpl (by show rungOf _ < M; rw [hr]; omega)).mono fun _ _ h => h.s
  rw [idx_pat (by omega) (by omega)] at HF
  rw [hr, show decide (i.natAbs = M) = false from by simp; omega] at HI
  have HZ := Lib.hid (size_i hpl)
  rw [hr] at HZ
  have HS1 := Lib.hid fun W (g : Bool) (A : Option Addr) (n c : Nat) (B : Option Addr) (m d : Nat) (h : RatV W 34 g (.slice A n c) (.slice B m d) (fl i)) => rsign_any 34 g _ _ (fl i) W h (by omega)
  have HS2 := Lib.hid fun W (hW : Below w.heap.size w W) => rsign_any K g1 _ _ x1 W (h1.below hW) (by omega)
  have hs1 := rsg_range (fl i)
  have hs2 := rsg_range x1
  have HPW : ∀ W, Below w.heap.size w W → rsg (fl i) = rsg x1 → rsg (fl i) ≠ 0 → Calls Tryz.prog 214 #[.int .u64 (i.natAbs : Int), .int .i64 1, .agg #[.bool false, .slice A1 n1 c1, .slice B1 m1 d1]] W fun e w' => ∃ r : Int, e = .returned (.int .i64 r) ∧ -1 ≤ r ∧ r ≤ 1 ∧ rsg (fl i) * r = rc (fl i) x1 ∧ Below W.heap.size W w' := by
    intro W hW he h0
    obtain ⟨p, q, A, n, c, B, m, d, e1, e2, hu, hv, hq, hp0, hpK, hqK, rfl⟩ := h1
    cases e1; cases e2
    have hp : 0 < p := by
      rcases Nat.eq_zero_or_pos p with h | h
      · subst h; rw [rv_zero] at he; exact absurd (he.trans (rsg_zero_iff.2 rfl)) h0
      · exact h
    have hi0 : i ≠ 0 := by rintro rfl; rw [fl_zero] at h0; exact h0 (rsg_zero_iff.2 rfl)
    refine (power_fin K i.natAbs A1 B1 n1 c1 m1 d1 p q W (by omega) (by omega) (hu.below hW) (hv.below hW) hp hq hpK hqK hK2).mono ?_
    rintro e w' ⟨rfl, hb⟩
    refine ⟨_, rfl, (rc_range _ _).1, (rc_range _ _).2, ?_, hb⟩
    rw [rsg_rv hq hp0, if_neg (by omega)] at he
    rcases Int.lt_or_le i 0 with h | h
    · have hneg : fl i < 0 := by rw [← fl_zero]; exact fl_lt_iff.2 h
      have hr1 : rsg (fl i) = -1 := by unfold rsg; rw [if_neg (by grind), if_pos hneg]
      rw [hr1] at he ⊢
      have hg : g1 = true := by
        cases g1
        · simp at he
        · rfl
      subst hg
      rw [rv_true, show i = -((i.natAbs : Nat) : Int) from by omega, fl_neg, rc_neg, Int.natAbs_neg, Int.natAbs_natCast]
      omega
    · have hpos : 0 < fl i := by rw [← fl_zero]; exact fl_lt_iff.2 (by omega)
      have hr1 : rsg (fl i) = 1 := by unfold rsg; rw [if_neg (by grind), if_neg (by grind)]
      rw [hr1] at he ⊢
      have hg : g1 = false := by
        cases g1
        · rfl
        · simp at he
      subst hg
      rw [show i = ((i.natAbs : Nat) : Int) from by omega, Int.natAbs_natCast, Int.one_mul]
  have HD := Lib.hid (same_diff (x := fl i) (y := x1))
  have HZZ : rsg (fl i) = 0 → rsg x1 = 0 → rc (fl i) x1 = 0 := by
    intro a b
    rw [rsg_zero_iff.1 a, rsg_zero_iff.1 b]; exact rc_zero_zero
  obtain ⟨P, hP⟩ : ∃ P, pat i = P := ⟨_, rfl⟩
  rw [hP] at HI HF HZ ⊢
  obtain ⟨N, hN⟩ : ∃ N, i.natAbs = N := ⟨_, rfl⟩
  rw [hN] at HZ HPW
  obtain ⟨z, hz⟩ : ∃ z, fl i = z := ⟨_, rfl⟩
  rw [hz] at HF HS1 HPW HD HZZ hs1 ⊢
  obtain ⟨s, hs⟩ : ∃ s, rsg z = s := ⟨_, rfl⟩
  obtain ⟨t, ht⟩ : ∃ t, rsg x1 = t := ⟨_, rfl⟩
  obtain ⟨r, hr⟩ : ∃ r, rc z x1 = r := ⟨_, rfl⟩
  rw [hs] at HS1 hs1 HPW HD HZZ
  rw [ht] at HS2 hs2 HPW HD HZZ
  rw [hr] at HPW HD HZZ ⊢
  have HPW := Lib.hid HPW
  have HZZ := Lib.hid HZZ
  have zz := HZ.out
  clear hi hM hP hz hN hs ht hr h1 hpl hK hK2 HZ
  by_cases hst : s = t
  · subst hst
    by_cases h0 : s = 0
    · subst h0
      have hr0 := HZZ.out rfl rfl
      have LB0 := Lib.hid (show Below w.heap.size w (w.alloc (.cells #[.int .i64 0, .bool g1, .slice A1 n1 c1, .slice B1 m1 d1, .int .i64 1, .bool o1] 62)) from (below_alloc w _))
      have LG0_0 := Lib.hid ((Blk.at (W := w) (g := w.heap.size) (by simp <;> omega) 62 #[.int .i64 0, .bool g1, .slice A1 n1 c1, .slice B1 m1 d1, .int .i64 1, .bool o1]))
      go_enter Tryz.func157, Tryz.ntmps157
      go_wp2_with fail
      refine (HI.out _).mono ?_
      rintro e w1 ⟨rfl, k, rfl⟩
      have LB1 := Lib.hid (below_drewN LB0.out k)
      have LG0_1 := Lib.hid (LG0_0.out.drewN k)
      clear LB0 LG0_0
      go_wp2_with fail
      refine (HF.out _).mono ?_
      rintro e w2 ⟨g2, A2, n2, c2, B2, m2, d2, rfl, h2, hb2⟩
      have LB2 := Lib.hid (LB1.out.trans (hb2.mono LB1.out.size))
      have LG0_2 := Lib.hid (LG0_1.out.keep hb2)
      clear LB1 LG0_1
      go_upto_region 4 with fail
      have h3 := h2.below (below_alloc w2 (.cells #[.bool g2, .slice A2 n2 c2, .slice B2 m2 d2] 60))
      have LB3 := Lib.hid (LB2.out.alloc LB2.out.size (.cells #[.bool g2, .slice A2 n2 c2, .slice B2 m2 d2] 60))
      have LG0_3 := Lib.hid (LG0_2.out.alloc (.cells #[.bool g2, .slice A2 n2 c2, .slice B2 m2 d2] 60))
      have LG1_3 := Lib.hid (Blk.new w2 60 #[.bool g2, .slice A2 n2 c2, .slice B2 m2 d2])
      clear LB2 LG0_2
      rw [show w2.heap.size = w2.heap.size from rfl]
      obtain ⟨V3, hV3⟩ : ∃ X, w2.alloc (.cells #[.bool g2, .slice A2 n2 c2, .slice B2 m2 d2] 60) = X := ⟨_, rfl⟩
      rw [hV3] at LB3 LG0_3 LG1_3 h3 ⊢
      clear hV3 h2 hb2
      have q1_0 : _ = some (.bool g2 : Value) := LG1_3.out.cell 0
      have q1_1 : _ = some (.slice A2 n2 c2 : Value) := LG1_3.out.cell 1
      have q1_2 : _ = some (.slice B2 m2 d2 : Value) := LG1_3.out.cell 2
      go_wp2_with fail
      refine (HS1.out V3 g2 A2 n2 c2 B2 m2 d2 h3).mono ?_
      rintro e w4 ⟨rfl, hb4⟩
      have LB4 := Lib.hid (LB3.out.trans (hb4.mono LB3.out.size))
      have LG0_4 := Lib.hid (LG0_3.out.keep hb4)
      have LG1_4 := Lib.hid (LG1_3.out.keep hb4)
      clear LB3 LG0_3 LG1_3
      clear h3 hb4 q1_0 q1_1 q1_2
      have q0_0 : _ = some (.int .i64 0 : Value) := LG0_4.out.cell 0
      have q0_1 : _ = some (.bool g1 : Value) := LG0_4.out.cell 1
      have q0_2 : _ = some (.slice A1 n1 c1 : Value) := LG0_4.out.cell 2
      have q0_3 : _ = some (.slice B1 m1 d1 : Value) := LG0_4.out.cell 3
      have q0_4 : _ = some (.int .i64 1 : Value) := LG0_4.out.cell 4
      have q0_5 : _ = some (.bool o1 : Value) := LG0_4.out.cell 5
      go_wp2_with fail
      refine (HS2.out _ LB4.out).mono ?_
      rintro e w5 ⟨rfl, hb5⟩
      have LB5 := Lib.hid (LB4.out.trans (hb5.mono LB4.out.size))
      have LG0_5 := Lib.hid (LG0_4.out.keep hb5)
      have LG1_5 := Lib.hid (LG1_4.out.keep hb5)
      clear LB4 LG0_4 LG1_4
      clear hb5 q0_0 q0_1 q0_2 q0_3 q0_4 q0_5
      go_wp2
      go_ret
      exact ⟨0, rfl, by rw [hr0]; exact SameSign.refl 0, LB5.out⟩
    · have hq : (s == 0) = false := by simp; omega
      have hs3 : s = -1 ∨ s = 1 := by omega
      clear h0
      rcases hs3 with rfl | rfl
      · skip
        have LB0 := Lib.hid (show Below w.heap.size w (w.alloc (.cells #[.int .i64 0, .bool g1, .slice A1 n1 c1, .slice B1 m1 d1, .int .i64 1, .bool o1] 62)) from (below_alloc w _))
        have LG0_0 := Lib.hid ((Blk.at (W := w) (g := w.heap.size) (by simp <;> omega) 62 #[.int .i64 0, .bool g1, .slice A1 n1 c1, .slice B1 m1 d1, .int .i64 1, .bool o1]))
        go_enter Tryz.func157, Tryz.ntmps157
        go_wp2_with fail
        refine (HI.out _).mono ?_
        rintro e w1 ⟨rfl, k, rfl⟩
        have LB1 := Lib.hid (below_drewN LB0.out k)
        have LG0_1 := Lib.hid (LG0_0.out.drewN k)
        clear LB0 LG0_0
        go_wp2_with fail
        refine (HF.out _).mono ?_
        rintro e w2 ⟨g2, A2, n2, c2, B2, m2, d2, rfl, h2, hb2⟩
        have LB2 := Lib.hid (LB1.out.trans (hb2.mono LB1.out.size))
        have LG0_2 := Lib.hid (LG0_1.out.keep hb2)
        clear LB1 LG0_1
        go_upto_region 4 with fail
        have h3 := h2.below (below_alloc w2 (.cells #[.bool g2, .slice A2 n2 c2, .slice B2 m2 d2] 60))
        have LB3 := Lib.hid (LB2.out.alloc LB2.out.size (.cells #[.bool g2, .slice A2 n2 c2, .slice B2 m2 d2] 60))
        have LG0_3 := Lib.hid (LG0_2.out.alloc (.cells #[.bool g2, .slice A2 n2 c2, .slice B2 m2 d2] 60))
        have LG1_3 := Lib.hid (Blk.new w2 60 #[.bool g2, .slice A2 n2 c2, .slice B2 m2 d2])
        clear LB2 LG0_2
        rw [show w2.heap.size = w2.heap.size from rfl]
        obtain ⟨V3, hV3⟩ : ∃ X, w2.alloc (.cells #[.bool g2, .slice A2 n2 c2, .slice B2 m2 d2] 60) = X := ⟨_, rfl⟩
        rw [hV3] at LB3 LG0_3 LG1_3 h3 ⊢
        clear hV3 h2 hb2
        have q1_0 : _ = some (.bool g2 : Value) := LG1_3.out.cell 0
        have q1_1 : _ = some (.slice A2 n2 c2 : Value) := LG1_3.out.cell 1
        have q1_2 : _ = some (.slice B2 m2 d2 : Value) := LG1_3.out.cell 2
        go_wp2_with fail
        refine (HS1.out V3 g2 A2 n2 c2 B2 m2 d2 h3).mono ?_
        rintro e w4 ⟨rfl, hb4⟩
        have LB4 := Lib.hid (LB3.out.trans (hb4.mono LB3.out.size))
        have LG0_4 := Lib.hid (LG0_3.out.keep hb4)
        have LG1_4 := Lib.hid (LG1_3.out.keep hb4)
        clear LB3 LG0_3 LG1_3
        clear h3 hb4 q1_0 q1_1 q1_2
        have q0_0 : _ = some (.int .i64 0 : Value) := LG0_4.out.cell 0
        have q0_1 : _ = some (.bool g1 : Value) := LG0_4.out.cell 1
        have q0_2 : _ = some (.slice A1 n1 c1 : Value) := LG0_4.out.cell 2
        have q0_3 : _ = some (.slice B1 m1 d1 : Value) := LG0_4.out.cell 3
        have q0_4 : _ = some (.int .i64 1 : Value) := LG0_4.out.cell 4
        have q0_5 : _ = some (.bool o1 : Value) := LG0_4.out.cell 5
        go_wp2_with fail
        refine (HS2.out _ LB4.out).mono ?_
        rintro e w5 ⟨rfl, hb5⟩
        have LB5 := Lib.hid (LB4.out.trans (hb5.mono LB4.out.size))
        have LG0_5 := Lib.hid (LG0_4.out.keep hb5)
        have LG1_5 := Lib.hid (LG1_4.out.keep hb5)
        clear LB4 LG0_4 LG1_4
        clear hb5 q0_0 q0_1 q0_2 q0_3 q0_4 q0_5
        have q0_0 : _ = some (.int .i64 0 : Value) := LG0_5.out.cell 0
        have q0_1 : _ = some (.bool g1 : Value) := LG0_5.out.cell 1
        have q0_2 : _ = some (.slice A1 n1 c1 : Value) := LG0_5.out.cell 2
        have q0_3 : _ = some (.slice B1 m1 d1 : Value) := LG0_5.out.cell 3
        have q0_4 : _ = some (.int .i64 1 : Value) := LG0_5.out.cell 4
        have q0_5 : _ = some (.bool o1 : Value) := LG0_5.out.cell 5
        go_upto_region 10 with fail
        clear q0_0 q0_1 q0_2 q0_3 q0_4 q0_5
        have LB6 := Lib.hid (LB5.out.alloc LB5.out.size (.cells #[.bool false, .slice A1 n1 c1, .slice B1 m1 d1] 60))
        have LG0_6 := Lib.hid (LG0_5.out.alloc (.cells #[.bool false, .slice A1 n1 c1, .slice B1 m1 d1] 60))
        have LG1_6 := Lib.hid (LG1_5.out.alloc (.cells #[.bool false, .slice A1 n1 c1, .slice B1 m1 d1] 60))
        have LG2_6 := Lib.hid (Blk.new w5 60 #[.bool false, .slice A1 n1 c1, .slice B1 m1 d1])
        clear LB5 LG0_5 LG1_5
        obtain ⟨V6, hV6⟩ : ∃ X, (w5.alloc (.cells #[.bool false, .slice A1 n1 c1, .slice B1 m1 d1] 60)) = X := ⟨_, rfl⟩
        rw [hV6] at LB6 LG0_6 LG1_6 LG2_6 ⊢
        clear hV6
        have q0_4 : _ = some (.int .i64 1 : Value) := LG0_6.out.cell 4
        have q2_0 : _ = some (.bool false : Value) := LG2_6.out.cell 0
        have q2_1 : _ = some (.slice A1 n1 c1 : Value) := LG2_6.out.cell 1
        have q2_2 : _ = some (.slice B1 m1 d1 : Value) := LG2_6.out.cell 2
        go_wp2_with fail
        refine (HPW.out _ LB6.out trivial (by decide)).mono ?_
        rintro e w6 ⟨r0, rfl, hr1, hr2, hr3, hb6⟩
        have LBF := Lib.hid (LB6.out.trans (hb6.mono LB6.out.size))
        have HR3 := Lib.hid hr3
        clear hb6 hr3 q0_4 q2_0 q2_1 q2_2
        go_wp2
        go_ret
        exact ⟨_, rfl, by rw [← HR3.out]; exact ⟨by omega, by omega⟩, LBF.out⟩
      · skip
        have LB0 := Lib.hid (show Below w.heap.size w (w.alloc (.cells #[.int .i64 0, .bool g1, .slice A1 n1 c1, .slice B1 m1 d1, .int .i64 1, .bool o1] 62)) from (below_alloc w _))
        have LG0_0 := Lib.hid ((Blk.at (W := w) (g := w.heap.size) (by simp <;> omega) 62 #[.int .i64 0, .bool g1, .slice A1 n1 c1, .slice B1 m1 d1, .int .i64 1, .bool o1]))
        go_enter Tryz.func157, Tryz.ntmps157
        go_wp2_with fail
        refine (HI.out _).mono ?_
        rintro e w1 ⟨rfl, k, rfl⟩
        have LB1 := Lib.hid (below_drewN LB0.out k)
        have LG0_1 := Lib.hid (LG0_0.out.drewN k)
        clear LB0 LG0_0
        go_wp2_with fail
        refine (HF.out _).mono ?_
        rintro e w2 ⟨g2, A2, n2, c2, B2, m2, d2, rfl, h2, hb2⟩
        have LB2 := Lib.hid (LB1.out.trans (hb2.mono LB1.out.size))
        have LG0_2 := Lib.hid (LG0_1.out.keep hb2)
        clear LB1 LG0_1
        go_upto_region 4 with fail
        have h3 := h2.below (below_alloc w2 (.cells #[.bool g2, .slice A2 n2 c2, .slice B2 m2 d2] 60))
        have LB3 := Lib.hid (LB2.out.alloc LB2.out.size (.cells #[.bool g2, .slice A2 n2 c2, .slice B2 m2 d2] 60))
        have LG0_3 := Lib.hid (LG0_2.out.alloc (.cells #[.bool g2, .slice A2 n2 c2, .slice B2 m2 d2] 60))
        have LG1_3 := Lib.hid (Blk.new w2 60 #[.bool g2, .slice A2 n2 c2, .slice B2 m2 d2])
        clear LB2 LG0_2
        rw [show w2.heap.size = w2.heap.size from rfl]
        obtain ⟨V3, hV3⟩ : ∃ X, w2.alloc (.cells #[.bool g2, .slice A2 n2 c2, .slice B2 m2 d2] 60) = X := ⟨_, rfl⟩
        rw [hV3] at LB3 LG0_3 LG1_3 h3 ⊢
        clear hV3 h2 hb2
        have q1_0 : _ = some (.bool g2 : Value) := LG1_3.out.cell 0
        have q1_1 : _ = some (.slice A2 n2 c2 : Value) := LG1_3.out.cell 1
        have q1_2 : _ = some (.slice B2 m2 d2 : Value) := LG1_3.out.cell 2
        go_wp2_with fail
        refine (HS1.out V3 g2 A2 n2 c2 B2 m2 d2 h3).mono ?_
        rintro e w4 ⟨rfl, hb4⟩
        have LB4 := Lib.hid (LB3.out.trans (hb4.mono LB3.out.size))
        have LG0_4 := Lib.hid (LG0_3.out.keep hb4)
        have LG1_4 := Lib.hid (LG1_3.out.keep hb4)
        clear LB3 LG0_3 LG1_3
        clear h3 hb4 q1_0 q1_1 q1_2
        have q0_0 : _ = some (.int .i64 0 : Value) := LG0_4.out.cell 0
        have q0_1 : _ = some (.bool g1 : Value) := LG0_4.out.cell 1
        have q0_2 : _ = some (.slice A1 n1 c1 : Value) := LG0_4.out.cell 2
        have q0_3 : _ = some (.slice B1 m1 d1 : Value) := LG0_4.out.cell 3
        have q0_4 : _ = some (.int .i64 1 : Value) := LG0_4.out.cell 4
        have q0_5 : _ = some (.bool o1 : Value) := LG0_4.out.cell 5
        go_wp2_with fail
        refine (HS2.out _ LB4.out).mono ?_
        rintro e w5 ⟨rfl, hb5⟩
        have LB5 := Lib.hid (LB4.out.trans (hb5.mono LB4.out.size))
        have LG0_5 := Lib.hid (LG0_4.out.keep hb5)
        have LG1_5 := Lib.hid (LG1_4.out.keep hb5)
        clear LB4 LG0_4 LG1_4
        clear hb5 q0_0 q0_1 q0_2 q0_3 q0_4 q0_5
        have q0_0 : _ = some (.int .i64 0 : Value) := LG0_5.out.cell 0
        have q0_1 : _ = some (.bool g1 : Value) := LG0_5.out.cell 1
        have q0_2 : _ = some (.slice A1 n1 c1 : Value) := LG0_5.out.cell 2
        have q0_3 : _ = some (.slice B1 m1 d1 : Value) := LG0_5.out.cell 3
        have q0_4 : _ = some (.int .i64 1 : Value) := LG0_5.out.cell 4
        have q0_5 : _ = some (.bool o1 : Value) := LG0_5.out.cell 5
        go_upto_region 10 with fail
        clear q0_0 q0_1 q0_2 q0_3 q0_4 q0_5
        have LB6 := Lib.hid (LB5.out.alloc LB5.out.size (.cells #[.bool false, .slice A1 n1 c1, .slice B1 m1 d1] 60))
        have LG0_6 := Lib.hid (LG0_5.out.alloc (.cells #[.bool false, .slice A1 n1 c1, .slice B1 m1 d1] 60))
        have LG1_6 := Lib.hid (LG1_5.out.alloc (.cells #[.bool false, .slice A1 n1 c1, .slice B1 m1 d1] 60))
        have LG2_6 := Lib.hid (Blk.new w5 60 #[.bool false, .slice A1 n1 c1, .slice B1 m1 d1])
        clear LB5 LG0_5 LG1_5
        obtain ⟨V6, hV6⟩ : ∃ X, (w5.alloc (.cells #[.bool false, .slice A1 n1 c1, .slice B1 m1 d1] 60)) = X := ⟨_, rfl⟩
        rw [hV6] at LB6 LG0_6 LG1_6 LG2_6 ⊢
        clear hV6
        have q0_4 : _ = some (.int .i64 1 : Value) := LG0_6.out.cell 4
        have q2_0 : _ = some (.bool false : Value) := LG2_6.out.cell 0
        have q2_1 : _ = some (.slice A1 n1 c1 : Value) := LG2_6.out.cell 1
        have q2_2 : _ = some (.slice B1 m1 d1 : Value) := LG2_6.out.cell 2
        go_wp2_with fail
        refine (HPW.out _ LB6.out trivial (by decide)).mono ?_
        rintro e w6 ⟨r0, rfl, hr1, hr2, hr3, hb6⟩
        have LBF := Lib.hid (LB6.out.trans (hb6.mono LB6.out.size))
        have HR3 := Lib.hid hr3
        clear hb6 hr3 q0_4 q2_0 q2_1 q2_2
        go_wp2
        go_ret
        exact ⟨_, rfl, by rw [← HR3.out]; exact ⟨by omega, by omega⟩, LBF.out⟩
  · have hq : (s == t) = false := by simp; omega
    have HDD := Lib.hid (HD.out hst)
    clear hst
    have LB0 := Lib.hid (show Below w.heap.size w (w.alloc (.cells #[.int .i64 0, .bool g1, .slice A1 n1 c1, .slice B1 m1 d1, .int .i64 1, .bool o1] 62)) from (below_alloc w _))
    have LG0_0 := Lib.hid ((Blk.at (W := w) (g := w.heap.size) (by simp <;> omega) 62 #[.int .i64 0, .bool g1, .slice A1 n1 c1, .slice B1 m1 d1, .int .i64 1, .bool o1]))
    go_enter Tryz.func157, Tryz.ntmps157
    go_wp2_with fail
    refine (HI.out _).mono ?_
    rintro e w1 ⟨rfl, k, rfl⟩
    have LB1 := Lib.hid (below_drewN LB0.out k)
    have LG0_1 := Lib.hid (LG0_0.out.drewN k)
    clear LB0 LG0_0
    go_wp2_with fail
    refine (HF.out _).mono ?_
    rintro e w2 ⟨g2, A2, n2, c2, B2, m2, d2, rfl, h2, hb2⟩
    have LB2 := Lib.hid (LB1.out.trans (hb2.mono LB1.out.size))
    have LG0_2 := Lib.hid (LG0_1.out.keep hb2)
    clear LB1 LG0_1
    go_upto_region 4 with fail
    have h3 := h2.below (below_alloc w2 (.cells #[.bool g2, .slice A2 n2 c2, .slice B2 m2 d2] 60))
    have LB3 := Lib.hid (LB2.out.alloc LB2.out.size (.cells #[.bool g2, .slice A2 n2 c2, .slice B2 m2 d2] 60))
    have LG0_3 := Lib.hid (LG0_2.out.alloc (.cells #[.bool g2, .slice A2 n2 c2, .slice B2 m2 d2] 60))
    have LG1_3 := Lib.hid (Blk.new w2 60 #[.bool g2, .slice A2 n2 c2, .slice B2 m2 d2])
    clear LB2 LG0_2
    rw [show w2.heap.size = w2.heap.size from rfl]
    obtain ⟨V3, hV3⟩ : ∃ X, w2.alloc (.cells #[.bool g2, .slice A2 n2 c2, .slice B2 m2 d2] 60) = X := ⟨_, rfl⟩
    rw [hV3] at LB3 LG0_3 LG1_3 h3 ⊢
    clear hV3 h2 hb2
    have q1_0 : _ = some (.bool g2 : Value) := LG1_3.out.cell 0
    have q1_1 : _ = some (.slice A2 n2 c2 : Value) := LG1_3.out.cell 1
    have q1_2 : _ = some (.slice B2 m2 d2 : Value) := LG1_3.out.cell 2
    go_wp2_with fail
    refine (HS1.out V3 g2 A2 n2 c2 B2 m2 d2 h3).mono ?_
    rintro e w4 ⟨rfl, hb4⟩
    have LB4 := Lib.hid (LB3.out.trans (hb4.mono LB3.out.size))
    have LG0_4 := Lib.hid (LG0_3.out.keep hb4)
    have LG1_4 := Lib.hid (LG1_3.out.keep hb4)
    clear LB3 LG0_3 LG1_3
    clear h3 hb4 q1_0 q1_1 q1_2
    have q0_0 : _ = some (.int .i64 0 : Value) := LG0_4.out.cell 0
    have q0_1 : _ = some (.bool g1 : Value) := LG0_4.out.cell 1
    have q0_2 : _ = some (.slice A1 n1 c1 : Value) := LG0_4.out.cell 2
    have q0_3 : _ = some (.slice B1 m1 d1 : Value) := LG0_4.out.cell 3
    have q0_4 : _ = some (.int .i64 1 : Value) := LG0_4.out.cell 4
    have q0_5 : _ = some (.bool o1 : Value) := LG0_4.out.cell 5
    go_wp2_with fail
    refine (HS2.out _ LB4.out).mono ?_
    rintro e w5 ⟨rfl, hb5⟩
    have LB5 := Lib.hid (LB4.out.trans (hb5.mono LB4.out.size))
    have LG0_5 := Lib.hid (LG0_4.out.keep hb5)
    have LG1_5 := Lib.hid (LG1_4.out.keep hb5)
    clear LB4 LG0_4 LG1_4
    clear hb5 q0_0 q0_1 q0_2 q0_3 q0_4 q0_5
    go_wp2
    go_ret
    exact ⟨_, rfl, HDD.out, LB5.out⟩

end Go.Proofs.YtmjkmoahkanblaaGreat
