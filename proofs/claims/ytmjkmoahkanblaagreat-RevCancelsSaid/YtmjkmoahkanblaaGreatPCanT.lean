/-
Walks: package rev, CancelMinus.
-/
import Derived.Test.YtmjkmoahkanblaaGreatPIntsT
import Derived.Test.YtmjkmoahkanblaaGreatM23
import Derived.Test.YtmjkmoahkanblaaGreatPMathT
import Derived.Test.YtmjkmoahkanblaaGreatPLessT
import Derived.Test.YtmjkmoahkanblaaGreatPAddT
set_option linter.unusedSimpArgs false
set_option linter.unusedVariables false

namespace Go.Proofs.YtmjkmoahkanblaaGreat
open Go.RowKit
attribute [local go_sem] run_store_float run_eqf

theorem rv_lt {S T : Nat} {E : Int} : (S : Rat) * 2^E < (T : Rat) * 2^E ↔ S < T := by
  have h := @mul_le_pos (T : Rat) (S : Rat) _ (zpow_pos E)
  have h2 : (T : Rat) ≤ (S : Rat) ↔ T ≤ S := Rat.natCast_le_natCast
  constructor
  · intro h3
    by_cases h4 : S < T
    · exact h4
    · have := h.2 (h2.2 (by omega)); grind
  · intro h3
    by_cases h4 : (S : Rat) * 2^E < (T : Rat) * 2^E
    · exact h4
    · have := h2.1 (h.1 (by grind)); omega
theorem shift_nat (S k : Nat) (a b : Int) (h : b = a + k) : ((S * 2^k : Nat) : Rat) * 2^a = (S : Rat) * 2^b := by
  have := rv_shift false S k a b h
  rw [rv_int, rv_int] at this
  simp only [Bool.false_eq_true, if_false] at this
  rw [Rat.intCast_natCast, Rat.intCast_natCast] at this
  exact this
/-- Two widths over one power of 2. -/
theorem alignw (n1 : Bool) (A1 : Option Addr) (m1 c1 S1 : Nat) (e1 : Int) (n2 : Bool) (A2 : Option Addr) (m2 c2 S2 : Nat) (e2 : Int) (v1 v2 : Rat) (w : World) (h1 : U32s w A1 m1 c1 (digs S1)) (h2 : U32s w A2 m2 c2 (digs S2))
    (b1 : blen S1 ≤ 5000) (b2 : blen S2 ≤ 5000) (l1 : -1074 ≤ e1) (u1 : e1 ≤ 971) (l2 : -1074 ≤ e2) (u2 : e2 ≤ 971) (hv1 : v1 = rv n1 S1 1 * 2^e1) (hv2 : v2 = rv n2 S2 1 * 2^e2) (p1 : 0 ≤ v1) (p2 : 0 ≤ v2) :
    Calls Tryz.prog 62 #[.agg #[.int .i64 0, .bool n1, .slice A1 m1 c1, .int .i64 e1], .agg #[.int .i64 0, .bool n2, .slice A2 m2 c2, .int .i64 e2]] w
      fun e w' => ∃ (P Q : Nat) (E : Int) (A : Option Addr) (n c : Nat) (B : Option Addr) (m d : Nat), e = .returned (.tuple #[.slice A n c, .slice B m d, .int .i64 E]) ∧ U32s w' A n c (digs P) ∧ U32s w' B m d (digs Q) ∧ (P < Q ↔ v1 < v2) ∧ Below w.heap.size w w' := by
  obtain ⟨E, hE⟩ : ∃ E, min e1 e2 = E := ⟨_, rfl⟩
  obtain ⟨a, ha⟩ : ∃ a, (e1 - E).toNat = a := ⟨_, rfl⟩
  obtain ⟨b, hb⟩ : ∃ a, (e2 - E).toNat = a := ⟨_, rfl⟩
  refine (aligned_any n1 A1 m1 c1 S1 e1 n2 A2 m2 c2 S2 e2 E a b w h1 h2 hE (by omega) (by omega) (by omega) (by omega) (by omega) (by omega)).mono ?_
  rintro e w' ⟨A, n, c, B, m, d, rfl, q1, q2, hw⟩
  refine ⟨_, _, E, A, n, c, B, m, d, rfl, q1, q2, ?_, hw⟩
  rw [hv1] at p1 ⊢
  rw [hv2] at p2 ⊢
  rw [rv_nonneg p1, rv_nonneg p2, ← shift_nat S1 a E e1 (by omega), ← shift_nat S2 b E e2 (by omega), rv_lt]
theorem ncmp_v (A B : Option Addr) (n c m d P Q : Nat) (w : World) (hx : U32s w A n c (digs P)) (hy : U32s w B m d (digs Q)) :
    Calls Tryz.prog 64 #[.slice A n c, .slice B m d] w fun e w' => e = .returned (.int .i64 (cmp3 P Q)) ∧ Below w.heap.size w w' := by
  have h := ncmp_any A B n c m d (digs P) (digs Q) w hx hy
  rw [num_digs, num_digs] at h
  refine h.mono ?_
  rintro e w' ⟨rfl, k, rfl⟩
  exact ⟨rfl, below_drewN (Below.refl _ _) k⟩
/-- What CancelMinus answers. -/
def cmf (i1 j1 i2 j2 : Int) : Int × Int :=
  if j1 < i1 ∧ (j2 < i2 ∨ com i2 j2 = true) then ((M : Int), -(M : Int)) else if com i1 j1 = false ∨ com i2 j2 = false then (-(M : Int), (M : Int))
  else if fl j1 - fl i1 < fl j2 - fl i2 then (-(M : Int), (M : Int)) else (ad (-1) i1 (-i2), ad 1 j1 (-j2))

set_option maxHeartbeats 6400000 in
theorem cancel_A1 (b1 b2 c1 c2 : Nat) (i1 j1 i2 j2 : Int) (w : World) (hb1 : b1 < 18446744073709551616) (hb2 : b2 < 18446744073709551616) (hc1 : c1 < 18446744073709551616) (hc2 : c2 < 18446744073709551616) (r1 : rd b1 b2 = (i1, j1)) (r2 : rd c1 c2 = (i2, j2)) (h1 : j1 < i1) (h2 : j2 < i2) :
    Calls Tryz.prog 19 #[.agg #[.float .f64 b1, .float .f64 b2], .agg #[.float .f64 c1, .float .f64 c2]] w fun e w' => e = .returned (.agg #[.float .f64 (pat (((M : Int), -(M : Int))).1), .float .f64 (pat (((M : Int), -(M : Int))).2)]) ∧ Below w.heap.size w w' := by
  have v1 := rd_iv b1 b2
  have v2 := rd_iv c1 c2
  rw [r1] at v1
  rw [r2] at v2
  dsimp only at v1 v2
  have hM : M = 9218868437227405312 := rfl
  have t1 := fun W => readf b1 b2 W hb1 hb2
  have t2 := fun W => readf c1 c2 W hc1 hc2
  rw [r1] at t1
  rw [r2] at t2
  dsimp only at t1 t2
  have m1 := em_idx v1
  have m2 := em_idx v2
  have K1 := fun W => common_any i1 j1 W v1
  have K2 := fun W => common_any i2 j2 W v2
  have HE := Lib.hid emptyf
  have HN := Lib.hid entiref
  have ec1 : com i1 j1 = false := decide_eq_false (by omega)
  rw [ec1] at K1
  have o12 := m1.1 (decide_eq_true h1)
  have o34 := order_pat v2.lo.1 v2.lo.2 v1.lo.1 v1.lo.2
  rw [Int.compare_eq_eq.2 (show i2 = i1 by unfold Iv at v1 v2; omega)] at o34
  have o56 := order_pat v2.hi.1 v2.hi.2 v1.hi.1 v1.hi.2
  rw [Int.compare_eq_eq.2 (show j2 = j1 by unfold Iv at v1 v2; omega)] at o56
  rw [show (((M : Int), -(M : Int)) : Int × Int).1 = i1 by unfold Iv at v1; dsimp only; omega, show (((M : Int), -(M : Int)) : Int × Int).2 = j1 by unfold Iv at v1; dsimp only; omega]
  obtain ⟨P1, hP1⟩ : ∃ z, pat i1 = z := ⟨_, rfl⟩
  obtain ⟨Q1, hQ1⟩ : ∃ z, pat j1 = z := ⟨_, rfl⟩
  obtain ⟨P2, hP2⟩ : ∃ z, pat i2 = z := ⟨_, rfl⟩
  obtain ⟨Q2, hQ2⟩ : ∃ z, pat j2 = z := ⟨_, rfl⟩
  rw [hP1, hQ1] at t1 m1 K1
  rw [hP2, hQ2] at t2 m2 K2
  rw [hP1, hQ1]
  rw [hP1, hQ1] at o12
  obtain ⟨o1, o2⟩ := o12
  rw [hP1, hP2] at o34
  rw [hQ1, hQ2] at o56
  have KC1 := Lib.hid K1
  have KC2 := Lib.hid K2
  have LB0 := Lib.hid (show Below w.heap.size w (((w.alloc (.cells #[.float .f64 b1, .float .f64 b2] 29)).alloc (.cells #[.float .f64 c1, .float .f64 c2] 29)).alloc (.cells #[.float .f64 0, .float .f64 0] 29)) from (((below_alloc w _).alloc (by simp <;> omega) _).alloc (by simp <;> omega) _))
  have LG0_0 := Lib.hid ((((Blk.at (W := w) (g := w.heap.size) (by simp <;> omega) 29 #[.float .f64 b1, .float .f64 b2]).alloc (.cells #[.float .f64 c1, .float .f64 c2] 29)).alloc (.cells #[.float .f64 0, .float .f64 0] 29)))
  have LG1_0 := Lib.hid (((Blk.at (W := (w.alloc (.cells #[.float .f64 b1, .float .f64 b2] 29))) (g := (w.heap.size + 1)) (by simp <;> omega) 29 #[.float .f64 c1, .float .f64 c2]).alloc (.cells #[.float .f64 0, .float .f64 0] 29)))
  have LR0 := Lib.hid (HasBlk.of (n := 2) (Blk.at (W := ((w.alloc (.cells #[.float .f64 b1, .float .f64 b2] 29)).alloc (.cells #[.float .f64 c1, .float .f64 c2] 29))) (g := (w.heap.size + 2)) (by simp <;> omega) 29 #[.float .f64 0, .float .f64 0]) rfl rfl)
  have hrow := Blk.at (W := (((w.alloc (.cells #[.float .f64 b1, .float .f64 b2] 29)).alloc (.cells #[.float .f64 c1, .float .f64 c2] 29)).alloc (.cells #[.float .f64 0, .float .f64 0] 29))) (g := w.heap.size + 1 + 1 + 1) (by simp) 51 #[.pointer (some ⟨w.heap.size, 0, none⟩), .pointer (some ⟨w.heap.size + 1, 0, none⟩)]
  have HRD := Lib.hid (read_two b1 b2 c1 c2 P1 Q1 P2 Q2 w.heap.size (w.heap.size + 1) (w.heap.size + 1 + 1 + 1) 2 _ _ _ (by omega) (by omega) (by omega) (hrow.cell 0) (hrow.cell 1) (LG0_0.out.alloc (.cells #[.pointer (some ⟨w.heap.size, 0, none⟩), .pointer (some ⟨w.heap.size + 1, 0, none⟩)] 51)) (LG1_0.out.alloc (.cells #[.pointer (some ⟨w.heap.size, 0, none⟩), .pointer (some ⟨w.heap.size + 1, 0, none⟩)] 51)) t1 t2 m1 m2)
  have LBr := Lib.hid (LB0.out.alloc (by simp <;> omega) (.cells #[.pointer (some ⟨w.heap.size, 0, none⟩), .pointer (some ⟨w.heap.size + 1, 0, none⟩)] 51))
  have LRr := Lib.hid (LR0.out.alloc (.cells #[.pointer (some ⟨w.heap.size, 0, none⟩), .pointer (some ⟨w.heap.size + 1, 0, none⟩)] 51))
  have hsz : w.heap.size ≤ (((((w.alloc (.cells #[.float .f64 b1, .float .f64 b2] 29)).alloc (.cells #[.float .f64 c1, .float .f64 c2] 29)).alloc (.cells #[.float .f64 0, .float .f64 0] 29))).alloc (.cells #[.pointer (some ⟨w.heap.size, 0, none⟩), .pointer (some ⟨w.heap.size + 1, 0, none⟩)] 51)).heap.size := by simp; omega
  have HSZ := Lib.hid hsz
  obtain ⟨em1, hem1⟩ : ∃ z, decide (j1 < i1) = z := ⟨_, rfl⟩
  obtain ⟨em2, hem2⟩ : ∃ z, decide (j2 < i2) = z := ⟨_, rfl⟩
  rw [hem1, hem2] at HRD
  clear t1 t2 m1 m2 hrow v1 v2 hM hsz hP1 hQ1 hP2 hQ2 r1 r2 LB0 LR0 LG0_0 LG1_0 hem1 hem2 K1 K2 h1 hb1 hb2 hc1 hc2
  clear h2 ec1
  go_enter Tryz.func19, Tryz.ntmps19
  go_wp2_with fail
  refine HRD.out.mono ?_
  rintro e w1 ⟨rfl, d0, d1, kp⟩
  have LB1 := Lib.hid (kp.toBl LBr.out HSZ.out (Nat.le_refl _) (by omega) (by omega))
  have LR1 := Lib.hid (kp.hasBk LRr.out (by omega) (by omega) (by omega))
  have LG0_1 := Lib.hid (show Blk w1 w.heap.size 29 _ from d0)
  have LG1_1 := Lib.hid (show Blk w1 (w.heap.size + 1) 29 _ from d1)
  clear d0 d1 kp LBr LRr HSZ HRD
  go_wp2_with fail
  refine wp_region_held_drew (S := fun W' => Blk W' w.heap.size 29 #[.float .f64 P1, .float .f64 Q1] ∧ Blk W' (w.heap.size + 1) 29 #[.float .f64 P2, .float .f64 Q2] ∧ HasBlk W' (w.heap.size + 2) 29 2 ∧ Below w.heap.size w W') (by kernel_rfl) (by exact ⟨LG0_1.out.drew, LG1_1.out.drew, LR1.out.drew, LB1.out.drew⟩) (fun hHeld => ?_)
  refine wpAnyH_take (i := 0) (v := ?_) rfl (by kernel_rfl) (by kernel_rfl) (by kernel_rfl) (fun _ _ _ h => h) (Or.inl ⟨by rfl, ?_⟩) (by assumption) ?_
  rotate_left
  · (intro W2 hSw; (try dsimp only at hSw); have q0 : _ = some (.float .f64 P1 : Value) := hSw.1.cell 0; have q1 : _ = some (.float .f64 Q1 : Value) := hSw.1.cell 1; go_simp; (try with_reducible rfl))
  try simp only [Act.put, List.getElem_toArray, List.getElem_cons_succ, List.getElem_cons_zero, List.setIfInBounds_toArray, List.set_cons_zero, List.set_cons_succ]
  refine wpAnyH_ready (rs := [1]) (by kernel_rfl) (by simp) ?_
  refine AllReadyH.cons rfl (fun KK hKK => ?_) AllReadyH.nil
  go_simp
  refine (HE.out _).mono ?_
  rintro e w2 ⟨rfl, hbA⟩
  go_wp2_with fail
  refine hKK.out _ _ (⟨hHeld.1.keep hbA, hHeld.2.1.keep hbA, hHeld.2.2.1.keep hbA, hHeld.2.2.2.trans (hbA.mono hHeld.2.2.2.size)⟩) (fun _ => ?_)
  clear hKK KK hHeld; rename_i hHeld
  try simp only [Act.put, List.getElem_toArray, List.getElem_cons_succ, List.getElem_cons_zero, List.setIfInBounds_toArray, List.set_cons_zero, List.set_cons_succ]
  refine wpAnyH_take (i := 2) (v := ?_) rfl (by kernel_rfl) (by kernel_rfl) (by kernel_rfl) (fun _ _ _ h => h) (Or.inl ⟨by rfl, ?_⟩) (by assumption) ?_
  rotate_left
  · (intro W2 hSw; go_simp; (try with_reducible rfl))
  try simp only [Act.put, List.getElem_toArray, List.getElem_cons_succ, List.getElem_cons_zero, List.setIfInBounds_toArray, List.set_cons_zero, List.set_cons_succ]
  refine wpAnyH_take (i := 3) (v := ?_) rfl (by kernel_rfl) (by kernel_rfl) (by kernel_rfl) (fun _ _ _ h => h) (Or.inl ⟨by rfl, ?_⟩) (by assumption) ?_
  rotate_left
  · (intro W2 hSw; go_simp; (try with_reducible rfl))
  try simp only [Act.put, List.getElem_toArray, List.getElem_cons_succ, List.getElem_cons_zero, List.setIfInBounds_toArray, List.set_cons_zero, List.set_cons_succ]
  refine wpAnyH_take (i := 4) (v := ?_) rfl (by kernel_rfl) (by kernel_rfl) (by kernel_rfl) (fun _ _ _ h => h) (Or.inl ⟨by rfl, ?_⟩) (by assumption) ?_
  rotate_left
  · (intro W2 hSw; (try dsimp only at hSw); have q0 : _ = some (.float .f64 P2 : Value) := hSw.2.1.cell 0; have q1 : _ = some (.float .f64 Q2 : Value) := hSw.2.1.cell 1; go_simp; (try with_reducible rfl))
  try simp only [Act.put, List.getElem_toArray, List.getElem_cons_succ, List.getElem_cons_zero, List.setIfInBounds_toArray, List.set_cons_zero, List.set_cons_succ]
  refine wpAnyH_take (i := 5) (v := ?_) rfl (by kernel_rfl) (by kernel_rfl) (by kernel_rfl) (fun _ _ _ h => h) (Or.inl ⟨by rfl, ?_⟩) (by assumption) ?_
  rotate_left
  · (intro W2 hSw; (try dsimp only at hSw); have q0 : _ = some (.float .f64 P1 : Value) := hSw.1.cell 0; have q1 : _ = some (.float .f64 Q1 : Value) := hSw.1.cell 1; go_simp; (try with_reducible rfl))
  try simp only [Act.put, List.getElem_toArray, List.getElem_cons_succ, List.getElem_cons_zero, List.setIfInBounds_toArray, List.set_cons_zero, List.set_cons_succ]
  refine wpAnyH_take (i := 6) (v := ?_) rfl (by kernel_rfl) (by kernel_rfl) (by kernel_rfl) (fun _ _ _ h => h) (Or.inl ⟨by rfl, ?_⟩) (by assumption) ?_
  rotate_left
  · (intro W2 hSw; go_simp; (try with_reducible rfl))
  try simp only [Act.put, List.getElem_toArray, List.getElem_cons_succ, List.getElem_cons_zero, List.setIfInBounds_toArray, List.set_cons_zero, List.set_cons_succ]
  refine wpAnyH_take (i := 7) (v := ?_) rfl (by kernel_rfl) (by kernel_rfl) (by kernel_rfl) (fun _ _ _ h => h) (Or.inl ⟨by rfl, ?_⟩) (by assumption) ?_
  rotate_left
  · (intro W2 hSw; go_simp; (try with_reducible rfl))
  try simp only [Act.put, List.getElem_toArray, List.getElem_cons_succ, List.getElem_cons_zero, List.setIfInBounds_toArray, List.set_cons_zero, List.set_cons_succ]
  refine wpAnyH_take (i := 8) (v := undef) rfl (by kernel_rfl) (by kernel_rfl) (by kernel_rfl) (fun _ _ _ h => h) (Or.inr ⟨by rfl, rfl⟩) (by assumption) ?_
  try simp only [Act.put, List.getElem_toArray, List.getElem_cons_succ, List.getElem_cons_zero, List.setIfInBounds_toArray, List.set_cons_zero, List.set_cons_succ]
  refine wpAnyH_take (i := 9) (v := undef) rfl (by kernel_rfl) (by kernel_rfl) (by kernel_rfl) (fun _ _ _ h => h) (Or.inr ⟨by rfl, rfl⟩) (by assumption) ?_
  try simp only [Act.put, List.getElem_toArray, List.getElem_cons_succ, List.getElem_cons_zero, List.setIfInBounds_toArray, List.set_cons_zero, List.set_cons_succ]
  refine wpAnyH_take (i := 10) (v := ?_) rfl (by kernel_rfl) (by kernel_rfl) (by kernel_rfl) (fun _ _ _ h => h) (Or.inl ⟨by rfl, ?_⟩) (by assumption) ?_
  rotate_left
  · (intro W2 hSw; go_simp; (try with_reducible rfl))
  try simp only [Act.put, List.getElem_toArray, List.getElem_cons_succ, List.getElem_cons_zero, List.setIfInBounds_toArray, List.set_cons_zero, List.set_cons_succ]
  refine wpAnyH_take (i := 11) (v := ?_) rfl (by kernel_rfl) (by kernel_rfl) (by kernel_rfl) (fun _ _ _ h => h) (Or.inl ⟨by rfl, ?_⟩) (by assumption) ?_
  rotate_left
  · (intro W2 hSw; go_simp; (try with_reducible rfl))
  try simp only [Act.put, List.getElem_toArray, List.getElem_cons_succ, List.getElem_cons_zero, List.setIfInBounds_toArray, List.set_cons_zero, List.set_cons_succ]
  refine wpAnyH_done (by kernel_rfl) ?_ _
  clear LB1 LR1 LG0_1 LG1_1
  have LG0_2 := Lib.hid hHeld.1
  have LG1_2 := Lib.hid hHeld.2.1
  have LR2 := Lib.hid hHeld.2.2.1
  have LB2 := Lib.hid hHeld.2.2.2
  clear hHeld hbA HE o34 o56 o1 o2
  have q0_0 : _ = some (.float .f64 P1 : Value) := LG0_2.out.cell 0
  have q0_1 : _ = some (.float .f64 Q1 : Value) := LG0_2.out.cell 1
  have ha0 := LR2.out.someCell 0 (by decide)
  have hf0 := LR2.out.frozen 0
  have ha1 := LR2.out.someCell 1 (by decide)
  have hf1 := LR2.out.frozen 1
  have hk0 := LR2.out.setCell [.float .f64 P1, .float .f64 Q1] rfl 0 (by decide)
  have hk1 := LR2.out.setCell [.float .f64 P1, .float .f64 Q1] rfl 1 (by decide)
  have F := Lib.hid (below_sets (w0 := w) (r := (w.heap.size + 2)) (by omega) [.float .f64 P1, .float .f64 Q1] 0 _ LB2.out)
  simp [sets] at hk0 hk1
  go_wp2
  refine bodyPost_ret (v := .agg #[.float .f64 P1, .float .f64 Q1]) (by simp [results, Tryz.results19, go_sem, hk0, hk1]) rfl ?_
  exact ⟨rfl, F.out⟩

set_option maxHeartbeats 6400000 in
theorem cancel_A2 (b1 b2 c1 c2 : Nat) (i1 j1 i2 j2 : Int) (w : World) (hb1 : b1 < 18446744073709551616) (hb2 : b2 < 18446744073709551616) (hc1 : c1 < 18446744073709551616) (hc2 : c2 < 18446744073709551616) (r1 : rd b1 b2 = (i1, j1)) (r2 : rd c1 c2 = (i2, j2)) (h1 : j1 < i1) (h2 : com i2 j2 = true) :
    Calls Tryz.prog 19 #[.agg #[.float .f64 b1, .float .f64 b2], .agg #[.float .f64 c1, .float .f64 c2]] w fun e w' => e = .returned (.agg #[.float .f64 (pat (((M : Int), -(M : Int))).1), .float .f64 (pat (((M : Int), -(M : Int))).2)]) ∧ Below w.heap.size w w' := by
  have v1 := rd_iv b1 b2
  have v2 := rd_iv c1 c2
  rw [r1] at v1
  rw [r2] at v2
  dsimp only at v1 v2
  have hM : M = 9218868437227405312 := rfl
  have t1 := fun W => readf b1 b2 W hb1 hb2
  have t2 := fun W => readf c1 c2 W hc1 hc2
  rw [r1] at t1
  rw [r2] at t2
  dsimp only at t1 t2
  have m1 := em_idx v1
  have m2 := em_idx v2
  have K1 := fun W => common_any i1 j1 W v1
  have K2 := fun W => common_any i2 j2 W v2
  have HE := Lib.hid emptyf
  have HN := Lib.hid entiref
  have ec1 : com i1 j1 = false := decide_eq_false (by omega)
  rw [ec1] at K1
  have o12 := m1.1 (decide_eq_true h1)
  have h4 := of_decide_eq_true h2
  have o34 := order_pat v2.lo.1 v2.lo.2 v1.lo.1 v1.lo.2
  rw [Int.compare_eq_lt.2 (show i2 < i1 by unfold Iv at v1 v2; omega)] at o34
  rw [h2] at K2
  rw [show (((M : Int), -(M : Int)) : Int × Int).1 = i1 by unfold Iv at v1; dsimp only; omega, show (((M : Int), -(M : Int)) : Int × Int).2 = j1 by unfold Iv at v1; dsimp only; omega]
  obtain ⟨P1, hP1⟩ : ∃ z, pat i1 = z := ⟨_, rfl⟩
  obtain ⟨Q1, hQ1⟩ : ∃ z, pat j1 = z := ⟨_, rfl⟩
  obtain ⟨P2, hP2⟩ : ∃ z, pat i2 = z := ⟨_, rfl⟩
  obtain ⟨Q2, hQ2⟩ : ∃ z, pat j2 = z := ⟨_, rfl⟩
  rw [hP1, hQ1] at t1 m1 K1
  rw [hP2, hQ2] at t2 m2 K2
  rw [hP1, hQ1]
  rw [hP1, hQ1] at o12
  obtain ⟨o1, o2⟩ := o12
  rw [hP1, hP2] at o34
  have KC1 := Lib.hid K1
  have KC2 := Lib.hid K2
  have LB0 := Lib.hid (show Below w.heap.size w (((w.alloc (.cells #[.float .f64 b1, .float .f64 b2] 29)).alloc (.cells #[.float .f64 c1, .float .f64 c2] 29)).alloc (.cells #[.float .f64 0, .float .f64 0] 29)) from (((below_alloc w _).alloc (by simp <;> omega) _).alloc (by simp <;> omega) _))
  have LG0_0 := Lib.hid ((((Blk.at (W := w) (g := w.heap.size) (by simp <;> omega) 29 #[.float .f64 b1, .float .f64 b2]).alloc (.cells #[.float .f64 c1, .float .f64 c2] 29)).alloc (.cells #[.float .f64 0, .float .f64 0] 29)))
  have LG1_0 := Lib.hid (((Blk.at (W := (w.alloc (.cells #[.float .f64 b1, .float .f64 b2] 29))) (g := (w.heap.size + 1)) (by simp <;> omega) 29 #[.float .f64 c1, .float .f64 c2]).alloc (.cells #[.float .f64 0, .float .f64 0] 29)))
  have LR0 := Lib.hid (HasBlk.of (n := 2) (Blk.at (W := ((w.alloc (.cells #[.float .f64 b1, .float .f64 b2] 29)).alloc (.cells #[.float .f64 c1, .float .f64 c2] 29))) (g := (w.heap.size + 2)) (by simp <;> omega) 29 #[.float .f64 0, .float .f64 0]) rfl rfl)
  have hrow := Blk.at (W := (((w.alloc (.cells #[.float .f64 b1, .float .f64 b2] 29)).alloc (.cells #[.float .f64 c1, .float .f64 c2] 29)).alloc (.cells #[.float .f64 0, .float .f64 0] 29))) (g := w.heap.size + 1 + 1 + 1) (by simp) 51 #[.pointer (some ⟨w.heap.size, 0, none⟩), .pointer (some ⟨w.heap.size + 1, 0, none⟩)]
  have HRD := Lib.hid (read_two b1 b2 c1 c2 P1 Q1 P2 Q2 w.heap.size (w.heap.size + 1) (w.heap.size + 1 + 1 + 1) 2 _ _ _ (by omega) (by omega) (by omega) (hrow.cell 0) (hrow.cell 1) (LG0_0.out.alloc (.cells #[.pointer (some ⟨w.heap.size, 0, none⟩), .pointer (some ⟨w.heap.size + 1, 0, none⟩)] 51)) (LG1_0.out.alloc (.cells #[.pointer (some ⟨w.heap.size, 0, none⟩), .pointer (some ⟨w.heap.size + 1, 0, none⟩)] 51)) t1 t2 m1 m2)
  have LBr := Lib.hid (LB0.out.alloc (by simp <;> omega) (.cells #[.pointer (some ⟨w.heap.size, 0, none⟩), .pointer (some ⟨w.heap.size + 1, 0, none⟩)] 51))
  have LRr := Lib.hid (LR0.out.alloc (.cells #[.pointer (some ⟨w.heap.size, 0, none⟩), .pointer (some ⟨w.heap.size + 1, 0, none⟩)] 51))
  have hsz : w.heap.size ≤ (((((w.alloc (.cells #[.float .f64 b1, .float .f64 b2] 29)).alloc (.cells #[.float .f64 c1, .float .f64 c2] 29)).alloc (.cells #[.float .f64 0, .float .f64 0] 29))).alloc (.cells #[.pointer (some ⟨w.heap.size, 0, none⟩), .pointer (some ⟨w.heap.size + 1, 0, none⟩)] 51)).heap.size := by simp; omega
  have HSZ := Lib.hid hsz
  obtain ⟨em1, hem1⟩ : ∃ z, decide (j1 < i1) = z := ⟨_, rfl⟩
  obtain ⟨em2, hem2⟩ : ∃ z, decide (j2 < i2) = z := ⟨_, rfl⟩
  rw [hem1, hem2] at HRD
  clear t1 t2 m1 m2 hrow v1 v2 hM hsz hP1 hQ1 hP2 hQ2 r1 r2 LB0 LR0 LG0_0 LG1_0 hem1 hem2 K1 K2 h1 hb1 hb2 hc1 hc2
  clear h2 ec1 h4
  go_enter Tryz.func19, Tryz.ntmps19
  go_wp2_with fail
  refine HRD.out.mono ?_
  rintro e w1 ⟨rfl, d0, d1, kp⟩
  have LB1 := Lib.hid (kp.toBl LBr.out HSZ.out (Nat.le_refl _) (by omega) (by omega))
  have LR1 := Lib.hid (kp.hasBk LRr.out (by omega) (by omega) (by omega))
  have LG0_1 := Lib.hid (show Blk w1 w.heap.size 29 _ from d0)
  have LG1_1 := Lib.hid (show Blk w1 (w.heap.size + 1) 29 _ from d1)
  clear d0 d1 kp LBr LRr HSZ HRD
  go_wp2_with fail
  refine wp_region_held_drew (S := fun W' => Blk W' w.heap.size 29 #[.float .f64 P1, .float .f64 Q1] ∧ Blk W' (w.heap.size + 1) 29 #[.float .f64 P2, .float .f64 Q2] ∧ HasBlk W' (w.heap.size + 2) 29 2 ∧ Below w.heap.size w W') (by kernel_rfl) (by exact ⟨LG0_1.out.drew, LG1_1.out.drew, LR1.out.drew, LB1.out.drew⟩) (fun hHeld => ?_)
  refine wpAnyH_take (i := 0) (v := ?_) rfl (by kernel_rfl) (by kernel_rfl) (by kernel_rfl) (fun _ _ _ h => h) (Or.inl ⟨by rfl, ?_⟩) (by assumption) ?_
  rotate_left
  · (intro W2 hSw; (try dsimp only at hSw); have q0 : _ = some (.float .f64 P1 : Value) := hSw.1.cell 0; have q1 : _ = some (.float .f64 Q1 : Value) := hSw.1.cell 1; go_simp; (try with_reducible rfl))
  try simp only [Act.put, List.getElem_toArray, List.getElem_cons_succ, List.getElem_cons_zero, List.setIfInBounds_toArray, List.set_cons_zero, List.set_cons_succ]
  refine wpAnyH_ready (rs := [1]) (by kernel_rfl) (by simp) ?_
  refine AllReadyH.cons rfl (fun KK hKK => ?_) AllReadyH.nil
  go_simp
  refine (HE.out _).mono ?_
  rintro e w2 ⟨rfl, hbA⟩
  go_wp2_with fail
  refine hKK.out _ _ (⟨hHeld.1.keep hbA, hHeld.2.1.keep hbA, hHeld.2.2.1.keep hbA, hHeld.2.2.2.trans (hbA.mono hHeld.2.2.2.size)⟩) (fun _ => ?_)
  clear hKK KK hHeld; rename_i hHeld
  try simp only [Act.put, List.getElem_toArray, List.getElem_cons_succ, List.getElem_cons_zero, List.setIfInBounds_toArray, List.set_cons_zero, List.set_cons_succ]
  refine wpAnyH_take (i := 2) (v := ?_) rfl (by kernel_rfl) (by kernel_rfl) (by kernel_rfl) (fun _ _ _ h => h) (Or.inl ⟨by rfl, ?_⟩) (by assumption) ?_
  rotate_left
  · (intro W2 hSw; go_simp; (try with_reducible rfl))
  try simp only [Act.put, List.getElem_toArray, List.getElem_cons_succ, List.getElem_cons_zero, List.setIfInBounds_toArray, List.set_cons_zero, List.set_cons_succ]
  refine wpAnyH_take (i := 3) (v := ?_) rfl (by kernel_rfl) (by kernel_rfl) (by kernel_rfl) (fun _ _ _ h => h) (Or.inl ⟨by rfl, ?_⟩) (by assumption) ?_
  rotate_left
  · (intro W2 hSw; go_simp; (try with_reducible rfl))
  try simp only [Act.put, List.getElem_toArray, List.getElem_cons_succ, List.getElem_cons_zero, List.setIfInBounds_toArray, List.set_cons_zero, List.set_cons_succ]
  refine wpAnyH_take (i := 4) (v := ?_) rfl (by kernel_rfl) (by kernel_rfl) (by kernel_rfl) (fun _ _ _ h => h) (Or.inl ⟨by rfl, ?_⟩) (by assumption) ?_
  rotate_left
  · (intro W2 hSw; (try dsimp only at hSw); have q0 : _ = some (.float .f64 P2 : Value) := hSw.2.1.cell 0; have q1 : _ = some (.float .f64 Q2 : Value) := hSw.2.1.cell 1; go_simp; (try with_reducible rfl))
  try simp only [Act.put, List.getElem_toArray, List.getElem_cons_succ, List.getElem_cons_zero, List.setIfInBounds_toArray, List.set_cons_zero, List.set_cons_succ]
  refine wpAnyH_take (i := 5) (v := ?_) rfl (by kernel_rfl) (by kernel_rfl) (by kernel_rfl) (fun _ _ _ h => h) (Or.inl ⟨by rfl, ?_⟩) (by assumption) ?_
  rotate_left
  · (intro W2 hSw; (try dsimp only at hSw); have q0 : _ = some (.float .f64 P1 : Value) := hSw.1.cell 0; have q1 : _ = some (.float .f64 Q1 : Value) := hSw.1.cell 1; go_simp; (try with_reducible rfl))
  try simp only [Act.put, List.getElem_toArray, List.getElem_cons_succ, List.getElem_cons_zero, List.setIfInBounds_toArray, List.set_cons_zero, List.set_cons_succ]
  refine wpAnyH_take (i := 6) (v := ?_) rfl (by kernel_rfl) (by kernel_rfl) (by kernel_rfl) (fun _ _ _ h => h) (Or.inl ⟨by rfl, ?_⟩) (by assumption) ?_
  rotate_left
  · (intro W2 hSw; go_simp; (try with_reducible rfl))
  try simp only [Act.put, List.getElem_toArray, List.getElem_cons_succ, List.getElem_cons_zero, List.setIfInBounds_toArray, List.set_cons_zero, List.set_cons_succ]
  refine wpAnyH_take (i := 7) (v := ?_) rfl (by kernel_rfl) (by kernel_rfl) (by kernel_rfl) (fun _ _ _ h => h) (Or.inl ⟨by rfl, ?_⟩) (by assumption) ?_
  rotate_left
  · (intro W2 hSw; go_simp; (try with_reducible rfl))
  try simp only [Act.put, List.getElem_toArray, List.getElem_cons_succ, List.getElem_cons_zero, List.setIfInBounds_toArray, List.set_cons_zero, List.set_cons_succ]
  refine wpAnyH_take (i := 8) (v := ?_) rfl (by kernel_rfl) (by kernel_rfl) (by kernel_rfl) (fun _ _ _ h => h) (Or.inl ⟨by rfl, ?_⟩) (by assumption) ?_
  rotate_left
  · (intro W2 hSw; (try dsimp only at hSw); have q0 : _ = some (.float .f64 P2 : Value) := hSw.2.1.cell 0; have q1 : _ = some (.float .f64 Q2 : Value) := hSw.2.1.cell 1; go_simp; (try with_reducible rfl))
  try simp only [Act.put, List.getElem_toArray, List.getElem_cons_succ, List.getElem_cons_zero, List.setIfInBounds_toArray, List.set_cons_zero, List.set_cons_succ]
  refine wpAnyH_ready (rs := [9]) (by kernel_rfl) (by simp) ?_
  refine AllReadyH.cons rfl (fun KK hKK => ?_) AllReadyH.nil
  go_simp
  refine (KC2.out _).mono ?_
  rintro e w3 ⟨rfl, hbB⟩
  go_wp2_with fail
  refine hKK.out _ _ (⟨hHeld.1.keep hbB, hHeld.2.1.keep hbB, hHeld.2.2.1.keep hbB, hHeld.2.2.2.trans (hbB.mono hHeld.2.2.2.size)⟩) (fun _ => ?_)
  clear hKK KK hHeld; rename_i hHeld
  try simp only [Act.put, List.getElem_toArray, List.getElem_cons_succ, List.getElem_cons_zero, List.setIfInBounds_toArray, List.set_cons_zero, List.set_cons_succ]
  refine wpAnyH_take (i := 10) (v := ?_) rfl (by kernel_rfl) (by kernel_rfl) (by kernel_rfl) (fun _ _ _ h => h) (Or.inl ⟨by rfl, ?_⟩) (by assumption) ?_
  rotate_left
  · (intro W2 hSw; go_simp; (try with_reducible rfl))
  try simp only [Act.put, List.getElem_toArray, List.getElem_cons_succ, List.getElem_cons_zero, List.setIfInBounds_toArray, List.set_cons_zero, List.set_cons_succ]
  refine wpAnyH_take (i := 11) (v := ?_) rfl (by kernel_rfl) (by kernel_rfl) (by kernel_rfl) (fun _ _ _ h => h) (Or.inl ⟨by rfl, ?_⟩) (by assumption) ?_
  rotate_left
  · (intro W2 hSw; go_simp; (try with_reducible rfl))
  try simp only [Act.put, List.getElem_toArray, List.getElem_cons_succ, List.getElem_cons_zero, List.setIfInBounds_toArray, List.set_cons_zero, List.set_cons_succ]
  refine wpAnyH_done (by kernel_rfl) ?_ _
  clear LB1 LR1 LG0_1 LG1_1
  have LG0_2 := Lib.hid hHeld.1
  have LG1_2 := Lib.hid hHeld.2.1
  have LR2 := Lib.hid hHeld.2.2.1
  have LB2 := Lib.hid hHeld.2.2.2
  clear hHeld hbA hbB HE o34 o1 o2
  have q0_0 : _ = some (.float .f64 P1 : Value) := LG0_2.out.cell 0
  have q0_1 : _ = some (.float .f64 Q1 : Value) := LG0_2.out.cell 1
  have ha0 := LR2.out.someCell 0 (by decide)
  have hf0 := LR2.out.frozen 0
  have ha1 := LR2.out.someCell 1 (by decide)
  have hf1 := LR2.out.frozen 1
  have hk0 := LR2.out.setCell [.float .f64 P1, .float .f64 Q1] rfl 0 (by decide)
  have hk1 := LR2.out.setCell [.float .f64 P1, .float .f64 Q1] rfl 1 (by decide)
  have F := Lib.hid (below_sets (w0 := w) (r := (w.heap.size + 2)) (by omega) [.float .f64 P1, .float .f64 Q1] 0 _ LB2.out)
  simp [sets] at hk0 hk1
  go_wp2
  refine bodyPost_ret (v := .agg #[.float .f64 P1, .float .f64 Q1]) (by simp [results, Tryz.results19, go_sem, hk0, hk1]) rfl ?_
  exact ⟨rfl, F.out⟩

set_option maxHeartbeats 6400000 in
theorem cancel_B0 (b1 b2 c1 c2 : Nat) (i1 j1 i2 j2 : Int) (w : World) (hb1 : b1 < 18446744073709551616) (hb2 : b2 < 18446744073709551616) (hc1 : c1 < 18446744073709551616) (hc2 : c2 < 18446744073709551616) (r1 : rd b1 b2 = (i1, j1)) (r2 : rd c1 c2 = (i2, j2)) (h1 : j1 < i1) (h2 : ¬ j2 < i2) (h3 : com i2 j2 = false) :
    Calls Tryz.prog 19 #[.agg #[.float .f64 b1, .float .f64 b2], .agg #[.float .f64 c1, .float .f64 c2]] w fun e w' => e = .returned (.agg #[.float .f64 (pat ((-(M : Int), (M : Int))).1), .float .f64 (pat ((-(M : Int), (M : Int))).2)]) ∧ Below w.heap.size w w' := by
  have v1 := rd_iv b1 b2
  have v2 := rd_iv c1 c2
  rw [r1] at v1
  rw [r2] at v2
  dsimp only at v1 v2
  have hM : M = 9218868437227405312 := rfl
  have t1 := fun W => readf b1 b2 W hb1 hb2
  have t2 := fun W => readf c1 c2 W hc1 hc2
  rw [r1] at t1
  rw [r2] at t2
  dsimp only at t1 t2
  have m1 := em_idx v1
  have m2 := em_idx v2
  have K1 := fun W => common_any i1 j1 W v1
  have K2 := fun W => common_any i2 j2 W v2
  have HE := Lib.hid emptyf
  have HN := Lib.hid entiref
  have ec1 : com i1 j1 = false := decide_eq_false (by omega)
  rw [ec1] at K1
  have o12 := m1.1 (decide_eq_true h1)
  have o34 := order_pat v2.lo.1 v2.lo.2 v1.lo.1 v1.lo.2
  rw [Int.compare_eq_lt.2 (show i2 < i1 by unfold Iv at v1 v2; omega)] at o34
  rw [h3] at K2
  dsimp only
  rw [pat_min, pat_max]
  obtain ⟨P1, hP1⟩ : ∃ z, pat i1 = z := ⟨_, rfl⟩
  obtain ⟨Q1, hQ1⟩ : ∃ z, pat j1 = z := ⟨_, rfl⟩
  obtain ⟨P2, hP2⟩ : ∃ z, pat i2 = z := ⟨_, rfl⟩
  obtain ⟨Q2, hQ2⟩ : ∃ z, pat j2 = z := ⟨_, rfl⟩
  rw [hP1, hQ1] at t1 m1 K1
  rw [hP2, hQ2] at t2 m2 K2
  rw [hP1, hQ1] at o12
  obtain ⟨o1, o2⟩ := o12
  rw [hP1, hP2] at o34
  have KC1 := Lib.hid K1
  have KC2 := Lib.hid K2
  have LB0 := Lib.hid (show Below w.heap.size w (((w.alloc (.cells #[.float .f64 b1, .float .f64 b2] 29)).alloc (.cells #[.float .f64 c1, .float .f64 c2] 29)).alloc (.cells #[.float .f64 0, .float .f64 0] 29)) from (((below_alloc w _).alloc (by simp <;> omega) _).alloc (by simp <;> omega) _))
  have LG0_0 := Lib.hid ((((Blk.at (W := w) (g := w.heap.size) (by simp <;> omega) 29 #[.float .f64 b1, .float .f64 b2]).alloc (.cells #[.float .f64 c1, .float .f64 c2] 29)).alloc (.cells #[.float .f64 0, .float .f64 0] 29)))
  have LG1_0 := Lib.hid (((Blk.at (W := (w.alloc (.cells #[.float .f64 b1, .float .f64 b2] 29))) (g := (w.heap.size + 1)) (by simp <;> omega) 29 #[.float .f64 c1, .float .f64 c2]).alloc (.cells #[.float .f64 0, .float .f64 0] 29)))
  have LR0 := Lib.hid (HasBlk.of (n := 2) (Blk.at (W := ((w.alloc (.cells #[.float .f64 b1, .float .f64 b2] 29)).alloc (.cells #[.float .f64 c1, .float .f64 c2] 29))) (g := (w.heap.size + 2)) (by simp <;> omega) 29 #[.float .f64 0, .float .f64 0]) rfl rfl)
  have hrow := Blk.at (W := (((w.alloc (.cells #[.float .f64 b1, .float .f64 b2] 29)).alloc (.cells #[.float .f64 c1, .float .f64 c2] 29)).alloc (.cells #[.float .f64 0, .float .f64 0] 29))) (g := w.heap.size + 1 + 1 + 1) (by simp) 51 #[.pointer (some ⟨w.heap.size, 0, none⟩), .pointer (some ⟨w.heap.size + 1, 0, none⟩)]
  have HRD := Lib.hid (read_two b1 b2 c1 c2 P1 Q1 P2 Q2 w.heap.size (w.heap.size + 1) (w.heap.size + 1 + 1 + 1) 2 _ _ _ (by omega) (by omega) (by omega) (hrow.cell 0) (hrow.cell 1) (LG0_0.out.alloc (.cells #[.pointer (some ⟨w.heap.size, 0, none⟩), .pointer (some ⟨w.heap.size + 1, 0, none⟩)] 51)) (LG1_0.out.alloc (.cells #[.pointer (some ⟨w.heap.size, 0, none⟩), .pointer (some ⟨w.heap.size + 1, 0, none⟩)] 51)) t1 t2 m1 m2)
  have LBr := Lib.hid (LB0.out.alloc (by simp <;> omega) (.cells #[.pointer (some ⟨w.heap.size, 0, none⟩), .pointer (some ⟨w.heap.size + 1, 0, none⟩)] 51))
  have LRr := Lib.hid (LR0.out.alloc (.cells #[.pointer (some ⟨w.heap.size, 0, none⟩), .pointer (some ⟨w.heap.size + 1, 0, none⟩)] 51))
  have hsz : w.heap.size ≤ (((((w.alloc (.cells #[.float .f64 b1, .float .f64 b2] 29)).alloc (.cells #[.float .f64 c1, .float .f64 c2] 29)).alloc (.cells #[.float .f64 0, .float .f64 0] 29))).alloc (.cells #[.pointer (some ⟨w.heap.size, 0, none⟩), .pointer (some ⟨w.heap.size + 1, 0, none⟩)] 51)).heap.size := by simp; omega
  have HSZ := Lib.hid hsz
  obtain ⟨em1, hem1⟩ : ∃ z, decide (j1 < i1) = z := ⟨_, rfl⟩
  obtain ⟨em2, hem2⟩ : ∃ z, decide (j2 < i2) = z := ⟨_, rfl⟩
  rw [hem1, hem2] at HRD
  clear t1 t2 m1 m2 hrow v1 v2 hM hsz hP1 hQ1 hP2 hQ2 r1 r2 LB0 LR0 LG0_0 LG1_0 hem1 hem2 K1 K2 h1 hb1 hb2 hc1 hc2
  clear h2 h3 ec1
  go_enter Tryz.func19, Tryz.ntmps19
  go_wp2_with fail
  refine HRD.out.mono ?_
  rintro e w1 ⟨rfl, d0, d1, kp⟩
  have LB1 := Lib.hid (kp.toBl LBr.out HSZ.out (Nat.le_refl _) (by omega) (by omega))
  have LR1 := Lib.hid (kp.hasBk LRr.out (by omega) (by omega) (by omega))
  have LG0_1 := Lib.hid (show Blk w1 w.heap.size 29 _ from d0)
  have LG1_1 := Lib.hid (show Blk w1 (w.heap.size + 1) 29 _ from d1)
  clear d0 d1 kp LBr LRr HSZ HRD
  go_wp2_with fail
  refine wp_region_held_drew (S := fun W' => Blk W' w.heap.size 29 #[.float .f64 P1, .float .f64 Q1] ∧ Blk W' (w.heap.size + 1) 29 #[.float .f64 P2, .float .f64 Q2] ∧ HasBlk W' (w.heap.size + 2) 29 2 ∧ Below w.heap.size w W') (by kernel_rfl) (by exact ⟨LG0_1.out.drew, LG1_1.out.drew, LR1.out.drew, LB1.out.drew⟩) (fun hHeld => ?_)
  refine wpAnyH_take (i := 0) (v := ?_) rfl (by kernel_rfl) (by kernel_rfl) (by kernel_rfl) (fun _ _ _ h => h) (Or.inl ⟨by rfl, ?_⟩) (by assumption) ?_
  rotate_left
  · (intro W2 hSw; (try dsimp only at hSw); have q0 : _ = some (.float .f64 P1 : Value) := hSw.1.cell 0; have q1 : _ = some (.float .f64 Q1 : Value) := hSw.1.cell 1; go_simp; (try with_reducible rfl))
  try simp only [Act.put, List.getElem_toArray, List.getElem_cons_succ, List.getElem_cons_zero, List.setIfInBounds_toArray, List.set_cons_zero, List.set_cons_succ]
  refine wpAnyH_ready (rs := [1]) (by kernel_rfl) (by simp) ?_
  refine AllReadyH.cons rfl (fun KK hKK => ?_) AllReadyH.nil
  go_simp
  refine (HE.out _).mono ?_
  rintro e w2 ⟨rfl, hbA⟩
  go_wp2_with fail
  refine hKK.out _ _ (⟨hHeld.1.keep hbA, hHeld.2.1.keep hbA, hHeld.2.2.1.keep hbA, hHeld.2.2.2.trans (hbA.mono hHeld.2.2.2.size)⟩) (fun _ => ?_)
  clear hKK KK hHeld; rename_i hHeld
  try simp only [Act.put, List.getElem_toArray, List.getElem_cons_succ, List.getElem_cons_zero, List.setIfInBounds_toArray, List.set_cons_zero, List.set_cons_succ]
  refine wpAnyH_take (i := 2) (v := ?_) rfl (by kernel_rfl) (by kernel_rfl) (by kernel_rfl) (fun _ _ _ h => h) (Or.inl ⟨by rfl, ?_⟩) (by assumption) ?_
  rotate_left
  · (intro W2 hSw; go_simp; (try with_reducible rfl))
  try simp only [Act.put, List.getElem_toArray, List.getElem_cons_succ, List.getElem_cons_zero, List.setIfInBounds_toArray, List.set_cons_zero, List.set_cons_succ]
  refine wpAnyH_take (i := 3) (v := ?_) rfl (by kernel_rfl) (by kernel_rfl) (by kernel_rfl) (fun _ _ _ h => h) (Or.inl ⟨by rfl, ?_⟩) (by assumption) ?_
  rotate_left
  · (intro W2 hSw; go_simp; (try with_reducible rfl))
  try simp only [Act.put, List.getElem_toArray, List.getElem_cons_succ, List.getElem_cons_zero, List.setIfInBounds_toArray, List.set_cons_zero, List.set_cons_succ]
  refine wpAnyH_take (i := 4) (v := ?_) rfl (by kernel_rfl) (by kernel_rfl) (by kernel_rfl) (fun _ _ _ h => h) (Or.inl ⟨by rfl, ?_⟩) (by assumption) ?_
  rotate_left
  · (intro W2 hSw; (try dsimp only at hSw); have q0 : _ = some (.float .f64 P2 : Value) := hSw.2.1.cell 0; have q1 : _ = some (.float .f64 Q2 : Value) := hSw.2.1.cell 1; go_simp; (try with_reducible rfl))
  try simp only [Act.put, List.getElem_toArray, List.getElem_cons_succ, List.getElem_cons_zero, List.setIfInBounds_toArray, List.set_cons_zero, List.set_cons_succ]
  refine wpAnyH_take (i := 5) (v := ?_) rfl (by kernel_rfl) (by kernel_rfl) (by kernel_rfl) (fun _ _ _ h => h) (Or.inl ⟨by rfl, ?_⟩) (by assumption) ?_
  rotate_left
  · (intro W2 hSw; (try dsimp only at hSw); have q0 : _ = some (.float .f64 P1 : Value) := hSw.1.cell 0; have q1 : _ = some (.float .f64 Q1 : Value) := hSw.1.cell 1; go_simp; (try with_reducible rfl))
  try simp only [Act.put, List.getElem_toArray, List.getElem_cons_succ, List.getElem_cons_zero, List.setIfInBounds_toArray, List.set_cons_zero, List.set_cons_succ]
  refine wpAnyH_take (i := 6) (v := ?_) rfl (by kernel_rfl) (by kernel_rfl) (by kernel_rfl) (fun _ _ _ h => h) (Or.inl ⟨by rfl, ?_⟩) (by assumption) ?_
  rotate_left
  · (intro W2 hSw; go_simp; (try with_reducible rfl))
  try simp only [Act.put, List.getElem_toArray, List.getElem_cons_succ, List.getElem_cons_zero, List.setIfInBounds_toArray, List.set_cons_zero, List.set_cons_succ]
  refine wpAnyH_take (i := 7) (v := ?_) rfl (by kernel_rfl) (by kernel_rfl) (by kernel_rfl) (fun _ _ _ h => h) (Or.inl ⟨by rfl, ?_⟩) (by assumption) ?_
  rotate_left
  · (intro W2 hSw; go_simp; (try with_reducible rfl))
  try simp only [Act.put, List.getElem_toArray, List.getElem_cons_succ, List.getElem_cons_zero, List.setIfInBounds_toArray, List.set_cons_zero, List.set_cons_succ]
  refine wpAnyH_take (i := 8) (v := ?_) rfl (by kernel_rfl) (by kernel_rfl) (by kernel_rfl) (fun _ _ _ h => h) (Or.inl ⟨by rfl, ?_⟩) (by assumption) ?_
  rotate_left
  · (intro W2 hSw; (try dsimp only at hSw); have q0 : _ = some (.float .f64 P2 : Value) := hSw.2.1.cell 0; have q1 : _ = some (.float .f64 Q2 : Value) := hSw.2.1.cell 1; go_simp; (try with_reducible rfl))
  try simp only [Act.put, List.getElem_toArray, List.getElem_cons_succ, List.getElem_cons_zero, List.setIfInBounds_toArray, List.set_cons_zero, List.set_cons_succ]
  refine wpAnyH_ready (rs := [9]) (by kernel_rfl) (by simp) ?_
  refine AllReadyH.cons rfl (fun KK hKK => ?_) AllReadyH.nil
  go_simp
  refine (KC2.out _).mono ?_
  rintro e w3 ⟨rfl, hbB⟩
  go_wp2_with fail
  refine hKK.out _ _ (⟨hHeld.1.keep hbB, hHeld.2.1.keep hbB, hHeld.2.2.1.keep hbB, hHeld.2.2.2.trans (hbB.mono hHeld.2.2.2.size)⟩) (fun _ => ?_)
  clear hKK KK hHeld; rename_i hHeld
  try simp only [Act.put, List.getElem_toArray, List.getElem_cons_succ, List.getElem_cons_zero, List.setIfInBounds_toArray, List.set_cons_zero, List.set_cons_succ]
  refine wpAnyH_take (i := 10) (v := ?_) rfl (by kernel_rfl) (by kernel_rfl) (by kernel_rfl) (fun _ _ _ h => h) (Or.inl ⟨by rfl, ?_⟩) (by assumption) ?_
  rotate_left
  · (intro W2 hSw; go_simp; (try with_reducible rfl))
  try simp only [Act.put, List.getElem_toArray, List.getElem_cons_succ, List.getElem_cons_zero, List.setIfInBounds_toArray, List.set_cons_zero, List.set_cons_succ]
  refine wpAnyH_take (i := 11) (v := ?_) rfl (by kernel_rfl) (by kernel_rfl) (by kernel_rfl) (fun _ _ _ h => h) (Or.inl ⟨by rfl, ?_⟩) (by assumption) ?_
  rotate_left
  · (intro W2 hSw; go_simp; (try with_reducible rfl))
  try simp only [Act.put, List.getElem_toArray, List.getElem_cons_succ, List.getElem_cons_zero, List.setIfInBounds_toArray, List.set_cons_zero, List.set_cons_succ]
  refine wpAnyH_done (by kernel_rfl) ?_ _
  clear LB1 LR1 LG0_1 LG1_1
  have LG0_2 := Lib.hid hHeld.1
  have LG1_2 := Lib.hid hHeld.2.1
  have LR2 := Lib.hid hHeld.2.2.1
  have LB2 := Lib.hid hHeld.2.2.2
  clear hHeld hbA hbB HE o34 o1 o2
  have q0_0 : _ = some (.float .f64 P1 : Value) := LG0_2.out.cell 0
  have q0_1 : _ = some (.float .f64 Q1 : Value) := LG0_2.out.cell 1
  have q1_0 : _ = some (.float .f64 P2 : Value) := LG1_2.out.cell 0
  have q1_1 : _ = some (.float .f64 Q2 : Value) := LG1_2.out.cell 1
  go_wp2_with fail
  refine (KC1.out _).mono ?_
  rintro e w4 ⟨rfl, hb4⟩
  have LB3 := Lib.hid (LB2.out.trans (hb4.mono LB2.out.size))
  have LR3 := Lib.hid (LR2.out.keep hb4)
  have LG0_3 := Lib.hid (LG0_2.out.keep hb4)
  have LG1_3 := Lib.hid (LG1_2.out.keep hb4)
  clear LB2 LR2 LG0_2 LG1_2
  clear hb4 q0_0 q0_1 q1_0 q1_1
  have q0_0 : _ = some (.float .f64 P1 : Value) := LG0_3.out.cell 0
  have q0_1 : _ = some (.float .f64 Q1 : Value) := LG0_3.out.cell 1
  have q1_0 : _ = some (.float .f64 P2 : Value) := LG1_3.out.cell 0
  have q1_1 : _ = some (.float .f64 Q2 : Value) := LG1_3.out.cell 1
  go_wp2_with fail
  refine (HN.out _).mono ?_
  rintro e w6 ⟨rfl, hb6⟩
  have LB4 := Lib.hid (LB3.out.trans (hb6.mono LB3.out.size))
  have LR4 := Lib.hid (LR3.out.keep hb6)
  have LG0_4 := Lib.hid (LG0_3.out.keep hb6)
  have LG1_4 := Lib.hid (LG1_3.out.keep hb6)
  clear LB3 LR3 LG0_3 LG1_3
  clear hb6 q0_0 q0_1 q1_0 q1_1
  have ha0 := LR4.out.someCell 0 (by decide)
  have hf0 := LR4.out.frozen 0
  have ha1 := LR4.out.someCell 1 (by decide)
  have hf1 := LR4.out.frozen 1
  have hk0 := LR4.out.setCell [.float .f64 18442240474082181120, .float .f64 9218868437227405312] rfl 0 (by decide)
  have hk1 := LR4.out.setCell [.float .f64 18442240474082181120, .float .f64 9218868437227405312] rfl 1 (by decide)
  have F := Lib.hid (below_sets (w0 := w) (r := (w.heap.size + 2)) (by omega) [.float .f64 18442240474082181120, .float .f64 9218868437227405312] 0 _ LB4.out)
  simp [sets] at hk0 hk1
  go_wp2
  refine bodyPost_ret (v := .agg #[.float .f64 18442240474082181120, .float .f64 9218868437227405312]) (by simp [results, Tryz.results19, go_sem, hk0, hk1]) rfl ?_
  exact ⟨rfl, F.out⟩

set_option maxHeartbeats 6400000 in
theorem cancel_B1 (b1 b2 c1 c2 : Nat) (i1 j1 i2 j2 : Int) (w : World) (hb1 : b1 < 18446744073709551616) (hb2 : b2 < 18446744073709551616) (hc1 : c1 < 18446744073709551616) (hc2 : c2 < 18446744073709551616) (r1 : rd b1 b2 = (i1, j1)) (r2 : rd c1 c2 = (i2, j2)) (h1 : ¬ j1 < i1) (h3 : com i1 j1 = false) :
    Calls Tryz.prog 19 #[.agg #[.float .f64 b1, .float .f64 b2], .agg #[.float .f64 c1, .float .f64 c2]] w fun e w' => e = .returned (.agg #[.float .f64 (pat ((-(M : Int), (M : Int))).1), .float .f64 (pat ((-(M : Int), (M : Int))).2)]) ∧ Below w.heap.size w w' := by
  have v1 := rd_iv b1 b2
  have v2 := rd_iv c1 c2
  rw [r1] at v1
  rw [r2] at v2
  dsimp only at v1 v2
  have hM : M = 9218868437227405312 := rfl
  have t1 := fun W => readf b1 b2 W hb1 hb2
  have t2 := fun W => readf c1 c2 W hc1 hc2
  rw [r1] at t1
  rw [r2] at t2
  dsimp only at t1 t2
  have m1 := em_idx v1
  have m2 := em_idx v2
  have K1 := fun W => common_any i1 j1 W v1
  have K2 := fun W => common_any i2 j2 W v2
  have HE := Lib.hid emptyf
  have HN := Lib.hid entiref
  rw [h3] at K1
  have o12 := m1.2 (decide_eq_false (by omega))
  dsimp only
  rw [pat_min, pat_max]
  obtain ⟨P1, hP1⟩ : ∃ z, pat i1 = z := ⟨_, rfl⟩
  obtain ⟨Q1, hQ1⟩ : ∃ z, pat j1 = z := ⟨_, rfl⟩
  obtain ⟨P2, hP2⟩ : ∃ z, pat i2 = z := ⟨_, rfl⟩
  obtain ⟨Q2, hQ2⟩ : ∃ z, pat j2 = z := ⟨_, rfl⟩
  rw [hP1, hQ1] at t1 m1 K1
  rw [hP2, hQ2] at t2 m2 K2
  rw [hP1] at o12
  have KC1 := Lib.hid K1
  have KC2 := Lib.hid K2
  have LB0 := Lib.hid (show Below w.heap.size w (((w.alloc (.cells #[.float .f64 b1, .float .f64 b2] 29)).alloc (.cells #[.float .f64 c1, .float .f64 c2] 29)).alloc (.cells #[.float .f64 0, .float .f64 0] 29)) from (((below_alloc w _).alloc (by simp <;> omega) _).alloc (by simp <;> omega) _))
  have LG0_0 := Lib.hid ((((Blk.at (W := w) (g := w.heap.size) (by simp <;> omega) 29 #[.float .f64 b1, .float .f64 b2]).alloc (.cells #[.float .f64 c1, .float .f64 c2] 29)).alloc (.cells #[.float .f64 0, .float .f64 0] 29)))
  have LG1_0 := Lib.hid (((Blk.at (W := (w.alloc (.cells #[.float .f64 b1, .float .f64 b2] 29))) (g := (w.heap.size + 1)) (by simp <;> omega) 29 #[.float .f64 c1, .float .f64 c2]).alloc (.cells #[.float .f64 0, .float .f64 0] 29)))
  have LR0 := Lib.hid (HasBlk.of (n := 2) (Blk.at (W := ((w.alloc (.cells #[.float .f64 b1, .float .f64 b2] 29)).alloc (.cells #[.float .f64 c1, .float .f64 c2] 29))) (g := (w.heap.size + 2)) (by simp <;> omega) 29 #[.float .f64 0, .float .f64 0]) rfl rfl)
  have hrow := Blk.at (W := (((w.alloc (.cells #[.float .f64 b1, .float .f64 b2] 29)).alloc (.cells #[.float .f64 c1, .float .f64 c2] 29)).alloc (.cells #[.float .f64 0, .float .f64 0] 29))) (g := w.heap.size + 1 + 1 + 1) (by simp) 51 #[.pointer (some ⟨w.heap.size, 0, none⟩), .pointer (some ⟨w.heap.size + 1, 0, none⟩)]
  have HRD := Lib.hid (read_two b1 b2 c1 c2 P1 Q1 P2 Q2 w.heap.size (w.heap.size + 1) (w.heap.size + 1 + 1 + 1) 2 _ _ _ (by omega) (by omega) (by omega) (hrow.cell 0) (hrow.cell 1) (LG0_0.out.alloc (.cells #[.pointer (some ⟨w.heap.size, 0, none⟩), .pointer (some ⟨w.heap.size + 1, 0, none⟩)] 51)) (LG1_0.out.alloc (.cells #[.pointer (some ⟨w.heap.size, 0, none⟩), .pointer (some ⟨w.heap.size + 1, 0, none⟩)] 51)) t1 t2 m1 m2)
  have LBr := Lib.hid (LB0.out.alloc (by simp <;> omega) (.cells #[.pointer (some ⟨w.heap.size, 0, none⟩), .pointer (some ⟨w.heap.size + 1, 0, none⟩)] 51))
  have LRr := Lib.hid (LR0.out.alloc (.cells #[.pointer (some ⟨w.heap.size, 0, none⟩), .pointer (some ⟨w.heap.size + 1, 0, none⟩)] 51))
  have hsz : w.heap.size ≤ (((((w.alloc (.cells #[.float .f64 b1, .float .f64 b2] 29)).alloc (.cells #[.float .f64 c1, .float .f64 c2] 29)).alloc (.cells #[.float .f64 0, .float .f64 0] 29))).alloc (.cells #[.pointer (some ⟨w.heap.size, 0, none⟩), .pointer (some ⟨w.heap.size + 1, 0, none⟩)] 51)).heap.size := by simp; omega
  have HSZ := Lib.hid hsz
  obtain ⟨em1, hem1⟩ : ∃ z, decide (j1 < i1) = z := ⟨_, rfl⟩
  obtain ⟨em2, hem2⟩ : ∃ z, decide (j2 < i2) = z := ⟨_, rfl⟩
  rw [hem1, hem2] at HRD
  clear t1 t2 m1 m2 hrow v1 v2 hM hsz hP1 hQ1 hP2 hQ2 r1 r2 LB0 LR0 LG0_0 LG1_0 hem1 hem2 K1 K2 h1 hb1 hb2 hc1 hc2
  clear h3
  go_enter Tryz.func19, Tryz.ntmps19
  go_wp2_with fail
  refine HRD.out.mono ?_
  rintro e w1 ⟨rfl, d0, d1, kp⟩
  have LB1 := Lib.hid (kp.toBl LBr.out HSZ.out (Nat.le_refl _) (by omega) (by omega))
  have LR1 := Lib.hid (kp.hasBk LRr.out (by omega) (by omega) (by omega))
  have LG0_1 := Lib.hid (show Blk w1 w.heap.size 29 _ from d0)
  have LG1_1 := Lib.hid (show Blk w1 (w.heap.size + 1) 29 _ from d1)
  clear d0 d1 kp LBr LRr HSZ HRD
  go_wp2_with fail
  refine wp_region_held_drew (S := fun W' => Blk W' w.heap.size 29 #[.float .f64 P1, .float .f64 Q1] ∧ Blk W' (w.heap.size + 1) 29 #[.float .f64 P2, .float .f64 Q2] ∧ HasBlk W' (w.heap.size + 2) 29 2 ∧ Below w.heap.size w W') (by kernel_rfl) (by exact ⟨LG0_1.out.drew, LG1_1.out.drew, LR1.out.drew, LB1.out.drew⟩) (fun hHeld => ?_)
  refine wpAnyH_take (i := 0) (v := ?_) rfl (by kernel_rfl) (by kernel_rfl) (by kernel_rfl) (fun _ _ _ h => h) (Or.inl ⟨by rfl, ?_⟩) (by assumption) ?_
  rotate_left
  · (intro W2 hSw; (try dsimp only at hSw); have q0 : _ = some (.float .f64 P1 : Value) := hSw.1.cell 0; have q1 : _ = some (.float .f64 Q1 : Value) := hSw.1.cell 1; go_simp; (try with_reducible rfl))
  try simp only [Act.put, List.getElem_toArray, List.getElem_cons_succ, List.getElem_cons_zero, List.setIfInBounds_toArray, List.set_cons_zero, List.set_cons_succ]
  refine wpAnyH_ready (rs := [1]) (by kernel_rfl) (by simp) ?_
  refine AllReadyH.cons rfl (fun KK hKK => ?_) AllReadyH.nil
  go_simp
  refine (HE.out _).mono ?_
  rintro e w2 ⟨rfl, hbA⟩
  go_wp2_with fail
  refine hKK.out _ _ (⟨hHeld.1.keep hbA, hHeld.2.1.keep hbA, hHeld.2.2.1.keep hbA, hHeld.2.2.2.trans (hbA.mono hHeld.2.2.2.size)⟩) (fun _ => ?_)
  clear hKK KK hHeld; rename_i hHeld
  try simp only [Act.put, List.getElem_toArray, List.getElem_cons_succ, List.getElem_cons_zero, List.setIfInBounds_toArray, List.set_cons_zero, List.set_cons_succ]
  refine wpAnyH_take (i := 2) (v := ?_) rfl (by kernel_rfl) (by kernel_rfl) (by kernel_rfl) (fun _ _ _ h => h) (Or.inl ⟨by rfl, ?_⟩) (by assumption) ?_
  rotate_left
  · (intro W2 hSw; go_simp; (try with_reducible rfl))
  try simp only [Act.put, List.getElem_toArray, List.getElem_cons_succ, List.getElem_cons_zero, List.setIfInBounds_toArray, List.set_cons_zero, List.set_cons_succ]
  refine wpAnyH_take (i := 3) (v := ?_) rfl (by kernel_rfl) (by kernel_rfl) (by kernel_rfl) (fun _ _ _ h => h) (Or.inl ⟨by rfl, ?_⟩) (by assumption) ?_
  rotate_left
  · (intro W2 hSw; go_simp; (try with_reducible rfl))
  try simp only [Act.put, List.getElem_toArray, List.getElem_cons_succ, List.getElem_cons_zero, List.setIfInBounds_toArray, List.set_cons_zero, List.set_cons_succ]
  refine wpAnyH_take (i := 4) (v := undef) rfl (by kernel_rfl) (by kernel_rfl) (by kernel_rfl) (fun _ _ _ h => h) (Or.inr ⟨by rfl, rfl⟩) (by assumption) ?_
  try simp only [Act.put, List.getElem_toArray, List.getElem_cons_succ, List.getElem_cons_zero, List.setIfInBounds_toArray, List.set_cons_zero, List.set_cons_succ]
  refine wpAnyH_take (i := 5) (v := undef) rfl (by kernel_rfl) (by kernel_rfl) (by kernel_rfl) (fun _ _ _ h => h) (Or.inr ⟨by rfl, rfl⟩) (by assumption) ?_
  try simp only [Act.put, List.getElem_toArray, List.getElem_cons_succ, List.getElem_cons_zero, List.setIfInBounds_toArray, List.set_cons_zero, List.set_cons_succ]
  refine wpAnyH_take (i := 6) (v := undef) rfl (by kernel_rfl) (by kernel_rfl) (by kernel_rfl) (fun _ _ _ h => h) (Or.inr ⟨by rfl, rfl⟩) (by assumption) ?_
  try simp only [Act.put, List.getElem_toArray, List.getElem_cons_succ, List.getElem_cons_zero, List.setIfInBounds_toArray, List.set_cons_zero, List.set_cons_succ]
  refine wpAnyH_take (i := 7) (v := undef) rfl (by kernel_rfl) (by kernel_rfl) (by kernel_rfl) (fun _ _ _ h => h) (Or.inr ⟨by rfl, rfl⟩) (by assumption) ?_
  try simp only [Act.put, List.getElem_toArray, List.getElem_cons_succ, List.getElem_cons_zero, List.setIfInBounds_toArray, List.set_cons_zero, List.set_cons_succ]
  refine wpAnyH_take (i := 8) (v := undef) rfl (by kernel_rfl) (by kernel_rfl) (by kernel_rfl) (fun _ _ _ h => h) (Or.inr ⟨by rfl, rfl⟩) (by assumption) ?_
  try simp only [Act.put, List.getElem_toArray, List.getElem_cons_succ, List.getElem_cons_zero, List.setIfInBounds_toArray, List.set_cons_zero, List.set_cons_succ]
  refine wpAnyH_take (i := 9) (v := undef) rfl (by kernel_rfl) (by kernel_rfl) (by kernel_rfl) (fun _ _ _ h => h) (Or.inr ⟨by rfl, rfl⟩) (by assumption) ?_
  try simp only [Act.put, List.getElem_toArray, List.getElem_cons_succ, List.getElem_cons_zero, List.setIfInBounds_toArray, List.set_cons_zero, List.set_cons_succ]
  refine wpAnyH_take (i := 10) (v := undef) rfl (by kernel_rfl) (by kernel_rfl) (by kernel_rfl) (fun _ _ _ h => h) (Or.inr ⟨by rfl, rfl⟩) (by assumption) ?_
  try simp only [Act.put, List.getElem_toArray, List.getElem_cons_succ, List.getElem_cons_zero, List.setIfInBounds_toArray, List.set_cons_zero, List.set_cons_succ]
  refine wpAnyH_take (i := 11) (v := ?_) rfl (by kernel_rfl) (by kernel_rfl) (by kernel_rfl) (fun _ _ _ h => h) (Or.inl ⟨by rfl, ?_⟩) (by assumption) ?_
  rotate_left
  · (intro W2 hSw; go_simp; (try with_reducible rfl))
  try simp only [Act.put, List.getElem_toArray, List.getElem_cons_succ, List.getElem_cons_zero, List.setIfInBounds_toArray, List.set_cons_zero, List.set_cons_succ]
  refine wpAnyH_done (by kernel_rfl) ?_ _
  clear LB1 LR1 LG0_1 LG1_1
  have LG0_2 := Lib.hid hHeld.1
  have LG1_2 := Lib.hid hHeld.2.1
  have LR2 := Lib.hid hHeld.2.2.1
  have LB2 := Lib.hid hHeld.2.2.2
  clear hHeld hbA HE o12
  have q0_0 : _ = some (.float .f64 P1 : Value) := LG0_2.out.cell 0
  have q0_1 : _ = some (.float .f64 Q1 : Value) := LG0_2.out.cell 1
  have q1_0 : _ = some (.float .f64 P2 : Value) := LG1_2.out.cell 0
  have q1_1 : _ = some (.float .f64 Q2 : Value) := LG1_2.out.cell 1
  go_wp2_with fail
  refine (KC1.out _).mono ?_
  rintro e w4 ⟨rfl, hb4⟩
  have LB3 := Lib.hid (LB2.out.trans (hb4.mono LB2.out.size))
  have LR3 := Lib.hid (LR2.out.keep hb4)
  have LG0_3 := Lib.hid (LG0_2.out.keep hb4)
  have LG1_3 := Lib.hid (LG1_2.out.keep hb4)
  clear LB2 LR2 LG0_2 LG1_2
  clear hb4 q0_0 q0_1 q1_0 q1_1
  have q0_0 : _ = some (.float .f64 P1 : Value) := LG0_3.out.cell 0
  have q0_1 : _ = some (.float .f64 Q1 : Value) := LG0_3.out.cell 1
  have q1_0 : _ = some (.float .f64 P2 : Value) := LG1_3.out.cell 0
  have q1_1 : _ = some (.float .f64 Q2 : Value) := LG1_3.out.cell 1
  go_wp2_with fail
  refine (HN.out _).mono ?_
  rintro e w6 ⟨rfl, hb6⟩
  have LB4 := Lib.hid (LB3.out.trans (hb6.mono LB3.out.size))
  have LR4 := Lib.hid (LR3.out.keep hb6)
  have LG0_4 := Lib.hid (LG0_3.out.keep hb6)
  have LG1_4 := Lib.hid (LG1_3.out.keep hb6)
  clear LB3 LR3 LG0_3 LG1_3
  clear hb6 q0_0 q0_1 q1_0 q1_1
  have ha0 := LR4.out.someCell 0 (by decide)
  have hf0 := LR4.out.frozen 0
  have ha1 := LR4.out.someCell 1 (by decide)
  have hf1 := LR4.out.frozen 1
  have hk0 := LR4.out.setCell [.float .f64 18442240474082181120, .float .f64 9218868437227405312] rfl 0 (by decide)
  have hk1 := LR4.out.setCell [.float .f64 18442240474082181120, .float .f64 9218868437227405312] rfl 1 (by decide)
  have F := Lib.hid (below_sets (w0 := w) (r := (w.heap.size + 2)) (by omega) [.float .f64 18442240474082181120, .float .f64 9218868437227405312] 0 _ LB4.out)
  simp [sets] at hk0 hk1
  go_wp2
  refine bodyPost_ret (v := .agg #[.float .f64 18442240474082181120, .float .f64 9218868437227405312]) (by simp [results, Tryz.results19, go_sem, hk0, hk1]) rfl ?_
  exact ⟨rfl, F.out⟩

set_option maxHeartbeats 6400000 in
theorem cancel_B2 (b1 b2 c1 c2 : Nat) (i1 j1 i2 j2 : Int) (w : World) (hb1 : b1 < 18446744073709551616) (hb2 : b2 < 18446744073709551616) (hc1 : c1 < 18446744073709551616) (hc2 : c2 < 18446744073709551616) (r1 : rd b1 b2 = (i1, j1)) (r2 : rd c1 c2 = (i2, j2)) (h1 : com i1 j1 = true) (h3 : com i2 j2 = false) :
    Calls Tryz.prog 19 #[.agg #[.float .f64 b1, .float .f64 b2], .agg #[.float .f64 c1, .float .f64 c2]] w fun e w' => e = .returned (.agg #[.float .f64 (pat ((-(M : Int), (M : Int))).1), .float .f64 (pat ((-(M : Int), (M : Int))).2)]) ∧ Below w.heap.size w w' := by
  have v1 := rd_iv b1 b2
  have v2 := rd_iv c1 c2
  rw [r1] at v1
  rw [r2] at v2
  dsimp only at v1 v2
  have hM : M = 9218868437227405312 := rfl
  have t1 := fun W => readf b1 b2 W hb1 hb2
  have t2 := fun W => readf c1 c2 W hc1 hc2
  rw [r1] at t1
  rw [r2] at t2
  dsimp only at t1 t2
  have m1 := em_idx v1
  have m2 := em_idx v2
  have K1 := fun W => common_any i1 j1 W v1
  have K2 := fun W => common_any i2 j2 W v2
  have HE := Lib.hid emptyf
  have HN := Lib.hid entiref
  have h4 := of_decide_eq_true h1
  rw [h1] at K1
  have o12 := m1.2 (decide_eq_false (by omega))
  rw [h3] at K2
  dsimp only
  rw [pat_min, pat_max]
  obtain ⟨P1, hP1⟩ : ∃ z, pat i1 = z := ⟨_, rfl⟩
  obtain ⟨Q1, hQ1⟩ : ∃ z, pat j1 = z := ⟨_, rfl⟩
  obtain ⟨P2, hP2⟩ : ∃ z, pat i2 = z := ⟨_, rfl⟩
  obtain ⟨Q2, hQ2⟩ : ∃ z, pat j2 = z := ⟨_, rfl⟩
  rw [hP1, hQ1] at t1 m1 K1
  rw [hP2, hQ2] at t2 m2 K2
  rw [hP1] at o12
  have KC1 := Lib.hid K1
  have KC2 := Lib.hid K2
  have LB0 := Lib.hid (show Below w.heap.size w (((w.alloc (.cells #[.float .f64 b1, .float .f64 b2] 29)).alloc (.cells #[.float .f64 c1, .float .f64 c2] 29)).alloc (.cells #[.float .f64 0, .float .f64 0] 29)) from (((below_alloc w _).alloc (by simp <;> omega) _).alloc (by simp <;> omega) _))
  have LG0_0 := Lib.hid ((((Blk.at (W := w) (g := w.heap.size) (by simp <;> omega) 29 #[.float .f64 b1, .float .f64 b2]).alloc (.cells #[.float .f64 c1, .float .f64 c2] 29)).alloc (.cells #[.float .f64 0, .float .f64 0] 29)))
  have LG1_0 := Lib.hid (((Blk.at (W := (w.alloc (.cells #[.float .f64 b1, .float .f64 b2] 29))) (g := (w.heap.size + 1)) (by simp <;> omega) 29 #[.float .f64 c1, .float .f64 c2]).alloc (.cells #[.float .f64 0, .float .f64 0] 29)))
  have LR0 := Lib.hid (HasBlk.of (n := 2) (Blk.at (W := ((w.alloc (.cells #[.float .f64 b1, .float .f64 b2] 29)).alloc (.cells #[.float .f64 c1, .float .f64 c2] 29))) (g := (w.heap.size + 2)) (by simp <;> omega) 29 #[.float .f64 0, .float .f64 0]) rfl rfl)
  have hrow := Blk.at (W := (((w.alloc (.cells #[.float .f64 b1, .float .f64 b2] 29)).alloc (.cells #[.float .f64 c1, .float .f64 c2] 29)).alloc (.cells #[.float .f64 0, .float .f64 0] 29))) (g := w.heap.size + 1 + 1 + 1) (by simp) 51 #[.pointer (some ⟨w.heap.size, 0, none⟩), .pointer (some ⟨w.heap.size + 1, 0, none⟩)]
  have HRD := Lib.hid (read_two b1 b2 c1 c2 P1 Q1 P2 Q2 w.heap.size (w.heap.size + 1) (w.heap.size + 1 + 1 + 1) 2 _ _ _ (by omega) (by omega) (by omega) (hrow.cell 0) (hrow.cell 1) (LG0_0.out.alloc (.cells #[.pointer (some ⟨w.heap.size, 0, none⟩), .pointer (some ⟨w.heap.size + 1, 0, none⟩)] 51)) (LG1_0.out.alloc (.cells #[.pointer (some ⟨w.heap.size, 0, none⟩), .pointer (some ⟨w.heap.size + 1, 0, none⟩)] 51)) t1 t2 m1 m2)
  have LBr := Lib.hid (LB0.out.alloc (by simp <;> omega) (.cells #[.pointer (some ⟨w.heap.size, 0, none⟩), .pointer (some ⟨w.heap.size + 1, 0, none⟩)] 51))
  have LRr := Lib.hid (LR0.out.alloc (.cells #[.pointer (some ⟨w.heap.size, 0, none⟩), .pointer (some ⟨w.heap.size + 1, 0, none⟩)] 51))
  have hsz : w.heap.size ≤ (((((w.alloc (.cells #[.float .f64 b1, .float .f64 b2] 29)).alloc (.cells #[.float .f64 c1, .float .f64 c2] 29)).alloc (.cells #[.float .f64 0, .float .f64 0] 29))).alloc (.cells #[.pointer (some ⟨w.heap.size, 0, none⟩), .pointer (some ⟨w.heap.size + 1, 0, none⟩)] 51)).heap.size := by simp; omega
  have HSZ := Lib.hid hsz
  obtain ⟨em1, hem1⟩ : ∃ z, decide (j1 < i1) = z := ⟨_, rfl⟩
  obtain ⟨em2, hem2⟩ : ∃ z, decide (j2 < i2) = z := ⟨_, rfl⟩
  rw [hem1, hem2] at HRD
  clear t1 t2 m1 m2 hrow v1 v2 hM hsz hP1 hQ1 hP2 hQ2 r1 r2 LB0 LR0 LG0_0 LG1_0 hem1 hem2 K1 K2 h1 hb1 hb2 hc1 hc2
  clear h3 h4
  go_enter Tryz.func19, Tryz.ntmps19
  go_wp2_with fail
  refine HRD.out.mono ?_
  rintro e w1 ⟨rfl, d0, d1, kp⟩
  have LB1 := Lib.hid (kp.toBl LBr.out HSZ.out (Nat.le_refl _) (by omega) (by omega))
  have LR1 := Lib.hid (kp.hasBk LRr.out (by omega) (by omega) (by omega))
  have LG0_1 := Lib.hid (show Blk w1 w.heap.size 29 _ from d0)
  have LG1_1 := Lib.hid (show Blk w1 (w.heap.size + 1) 29 _ from d1)
  clear d0 d1 kp LBr LRr HSZ HRD
  go_wp2_with fail
  refine wp_region_held_drew (S := fun W' => Blk W' w.heap.size 29 #[.float .f64 P1, .float .f64 Q1] ∧ Blk W' (w.heap.size + 1) 29 #[.float .f64 P2, .float .f64 Q2] ∧ HasBlk W' (w.heap.size + 2) 29 2 ∧ Below w.heap.size w W') (by kernel_rfl) (by exact ⟨LG0_1.out.drew, LG1_1.out.drew, LR1.out.drew, LB1.out.drew⟩) (fun hHeld => ?_)
  refine wpAnyH_take (i := 0) (v := ?_) rfl (by kernel_rfl) (by kernel_rfl) (by kernel_rfl) (fun _ _ _ h => h) (Or.inl ⟨by rfl, ?_⟩) (by assumption) ?_
  rotate_left
  · (intro W2 hSw; (try dsimp only at hSw); have q0 : _ = some (.float .f64 P1 : Value) := hSw.1.cell 0; have q1 : _ = some (.float .f64 Q1 : Value) := hSw.1.cell 1; go_simp; (try with_reducible rfl))
  try simp only [Act.put, List.getElem_toArray, List.getElem_cons_succ, List.getElem_cons_zero, List.setIfInBounds_toArray, List.set_cons_zero, List.set_cons_succ]
  refine wpAnyH_ready (rs := [1]) (by kernel_rfl) (by simp) ?_
  refine AllReadyH.cons rfl (fun KK hKK => ?_) AllReadyH.nil
  go_simp
  refine (HE.out _).mono ?_
  rintro e w2 ⟨rfl, hbA⟩
  go_wp2_with fail
  refine hKK.out _ _ (⟨hHeld.1.keep hbA, hHeld.2.1.keep hbA, hHeld.2.2.1.keep hbA, hHeld.2.2.2.trans (hbA.mono hHeld.2.2.2.size)⟩) (fun _ => ?_)
  clear hKK KK hHeld; rename_i hHeld
  try simp only [Act.put, List.getElem_toArray, List.getElem_cons_succ, List.getElem_cons_zero, List.setIfInBounds_toArray, List.set_cons_zero, List.set_cons_succ]
  refine wpAnyH_take (i := 2) (v := ?_) rfl (by kernel_rfl) (by kernel_rfl) (by kernel_rfl) (fun _ _ _ h => h) (Or.inl ⟨by rfl, ?_⟩) (by assumption) ?_
  rotate_left
  · (intro W2 hSw; go_simp; (try with_reducible rfl))
  try simp only [Act.put, List.getElem_toArray, List.getElem_cons_succ, List.getElem_cons_zero, List.setIfInBounds_toArray, List.set_cons_zero, List.set_cons_succ]
  refine wpAnyH_take (i := 3) (v := ?_) rfl (by kernel_rfl) (by kernel_rfl) (by kernel_rfl) (fun _ _ _ h => h) (Or.inl ⟨by rfl, ?_⟩) (by assumption) ?_
  rotate_left
  · (intro W2 hSw; go_simp; (try with_reducible rfl))
  try simp only [Act.put, List.getElem_toArray, List.getElem_cons_succ, List.getElem_cons_zero, List.setIfInBounds_toArray, List.set_cons_zero, List.set_cons_succ]
  refine wpAnyH_take (i := 4) (v := undef) rfl (by kernel_rfl) (by kernel_rfl) (by kernel_rfl) (fun _ _ _ h => h) (Or.inr ⟨by rfl, rfl⟩) (by assumption) ?_
  try simp only [Act.put, List.getElem_toArray, List.getElem_cons_succ, List.getElem_cons_zero, List.setIfInBounds_toArray, List.set_cons_zero, List.set_cons_succ]
  refine wpAnyH_take (i := 5) (v := undef) rfl (by kernel_rfl) (by kernel_rfl) (by kernel_rfl) (fun _ _ _ h => h) (Or.inr ⟨by rfl, rfl⟩) (by assumption) ?_
  try simp only [Act.put, List.getElem_toArray, List.getElem_cons_succ, List.getElem_cons_zero, List.setIfInBounds_toArray, List.set_cons_zero, List.set_cons_succ]
  refine wpAnyH_take (i := 6) (v := undef) rfl (by kernel_rfl) (by kernel_rfl) (by kernel_rfl) (fun _ _ _ h => h) (Or.inr ⟨by rfl, rfl⟩) (by assumption) ?_
  try simp only [Act.put, List.getElem_toArray, List.getElem_cons_succ, List.getElem_cons_zero, List.setIfInBounds_toArray, List.set_cons_zero, List.set_cons_succ]
  refine wpAnyH_take (i := 7) (v := undef) rfl (by kernel_rfl) (by kernel_rfl) (by kernel_rfl) (fun _ _ _ h => h) (Or.inr ⟨by rfl, rfl⟩) (by assumption) ?_
  try simp only [Act.put, List.getElem_toArray, List.getElem_cons_succ, List.getElem_cons_zero, List.setIfInBounds_toArray, List.set_cons_zero, List.set_cons_succ]
  refine wpAnyH_take (i := 8) (v := undef) rfl (by kernel_rfl) (by kernel_rfl) (by kernel_rfl) (fun _ _ _ h => h) (Or.inr ⟨by rfl, rfl⟩) (by assumption) ?_
  try simp only [Act.put, List.getElem_toArray, List.getElem_cons_succ, List.getElem_cons_zero, List.setIfInBounds_toArray, List.set_cons_zero, List.set_cons_succ]
  refine wpAnyH_take (i := 9) (v := undef) rfl (by kernel_rfl) (by kernel_rfl) (by kernel_rfl) (fun _ _ _ h => h) (Or.inr ⟨by rfl, rfl⟩) (by assumption) ?_
  try simp only [Act.put, List.getElem_toArray, List.getElem_cons_succ, List.getElem_cons_zero, List.setIfInBounds_toArray, List.set_cons_zero, List.set_cons_succ]
  refine wpAnyH_take (i := 10) (v := undef) rfl (by kernel_rfl) (by kernel_rfl) (by kernel_rfl) (fun _ _ _ h => h) (Or.inr ⟨by rfl, rfl⟩) (by assumption) ?_
  try simp only [Act.put, List.getElem_toArray, List.getElem_cons_succ, List.getElem_cons_zero, List.setIfInBounds_toArray, List.set_cons_zero, List.set_cons_succ]
  refine wpAnyH_take (i := 11) (v := ?_) rfl (by kernel_rfl) (by kernel_rfl) (by kernel_rfl) (fun _ _ _ h => h) (Or.inl ⟨by rfl, ?_⟩) (by assumption) ?_
  rotate_left
  · (intro W2 hSw; go_simp; (try with_reducible rfl))
  try simp only [Act.put, List.getElem_toArray, List.getElem_cons_succ, List.getElem_cons_zero, List.setIfInBounds_toArray, List.set_cons_zero, List.set_cons_succ]
  refine wpAnyH_done (by kernel_rfl) ?_ _
  clear LB1 LR1 LG0_1 LG1_1
  have LG0_2 := Lib.hid hHeld.1
  have LG1_2 := Lib.hid hHeld.2.1
  have LR2 := Lib.hid hHeld.2.2.1
  have LB2 := Lib.hid hHeld.2.2.2
  clear hHeld hbA HE o12
  have q0_0 : _ = some (.float .f64 P1 : Value) := LG0_2.out.cell 0
  have q0_1 : _ = some (.float .f64 Q1 : Value) := LG0_2.out.cell 1
  have q1_0 : _ = some (.float .f64 P2 : Value) := LG1_2.out.cell 0
  have q1_1 : _ = some (.float .f64 Q2 : Value) := LG1_2.out.cell 1
  go_wp2_with fail
  refine (KC1.out _).mono ?_
  rintro e w4 ⟨rfl, hb4⟩
  have LB3 := Lib.hid (LB2.out.trans (hb4.mono LB2.out.size))
  have LR3 := Lib.hid (LR2.out.keep hb4)
  have LG0_3 := Lib.hid (LG0_2.out.keep hb4)
  have LG1_3 := Lib.hid (LG1_2.out.keep hb4)
  clear LB2 LR2 LG0_2 LG1_2
  clear hb4 q0_0 q0_1 q1_0 q1_1
  have q0_0 : _ = some (.float .f64 P1 : Value) := LG0_3.out.cell 0
  have q0_1 : _ = some (.float .f64 Q1 : Value) := LG0_3.out.cell 1
  have q1_0 : _ = some (.float .f64 P2 : Value) := LG1_3.out.cell 0
  have q1_1 : _ = some (.float .f64 Q2 : Value) := LG1_3.out.cell 1
  go_wp2_with fail
  refine (KC2.out _).mono ?_
  rintro e w5 ⟨rfl, hb5⟩
  have LB4 := Lib.hid (LB3.out.trans (hb5.mono LB3.out.size))
  have LR4 := Lib.hid (LR3.out.keep hb5)
  have LG0_4 := Lib.hid (LG0_3.out.keep hb5)
  have LG1_4 := Lib.hid (LG1_3.out.keep hb5)
  clear LB3 LR3 LG0_3 LG1_3
  clear hb5 q0_0 q0_1 q1_0 q1_1
  have q0_0 : _ = some (.float .f64 P1 : Value) := LG0_4.out.cell 0
  have q0_1 : _ = some (.float .f64 Q1 : Value) := LG0_4.out.cell 1
  have q1_0 : _ = some (.float .f64 P2 : Value) := LG1_4.out.cell 0
  have q1_1 : _ = some (.float .f64 Q2 : Value) := LG1_4.out.cell 1
  go_wp2_with fail
  refine (HN.out _).mono ?_
  rintro e w6 ⟨rfl, hb6⟩
  have LB5 := Lib.hid (LB4.out.trans (hb6.mono LB4.out.size))
  have LR5 := Lib.hid (LR4.out.keep hb6)
  have LG0_5 := Lib.hid (LG0_4.out.keep hb6)
  have LG1_5 := Lib.hid (LG1_4.out.keep hb6)
  clear LB4 LR4 LG0_4 LG1_4
  clear hb6 q0_0 q0_1 q1_0 q1_1
  have ha0 := LR5.out.someCell 0 (by decide)
  have hf0 := LR5.out.frozen 0
  have ha1 := LR5.out.someCell 1 (by decide)
  have hf1 := LR5.out.frozen 1
  have hk0 := LR5.out.setCell [.float .f64 18442240474082181120, .float .f64 9218868437227405312] rfl 0 (by decide)
  have hk1 := LR5.out.setCell [.float .f64 18442240474082181120, .float .f64 9218868437227405312] rfl 1 (by decide)
  have F := Lib.hid (below_sets (w0 := w) (r := (w.heap.size + 2)) (by omega) [.float .f64 18442240474082181120, .float .f64 9218868437227405312] 0 _ LB5.out)
  simp [sets] at hk0 hk1
  go_wp2
  refine bodyPost_ret (v := .agg #[.float .f64 18442240474082181120, .float .f64 9218868437227405312]) (by simp [results, Tryz.results19, go_sem, hk0, hk1]) rfl ?_
  exact ⟨rfl, F.out⟩

set_option maxHeartbeats 6400000 in
theorem cancel_C (b1 b2 c1 c2 : Nat) (i1 j1 i2 j2 : Int) (w : World) (hb1 : b1 < 18446744073709551616) (hb2 : b2 < 18446744073709551616) (hc1 : c1 < 18446744073709551616) (hc2 : c2 < 18446744073709551616) (r1 : rd b1 b2 = (i1, j1)) (r2 : rd c1 c2 = (i2, j2)) (h1 : com i1 j1 = true) (h2 : com i2 j2 = true) (h3 : fl j1 - fl i1 < fl j2 - fl i2) :
    Calls Tryz.prog 19 #[.agg #[.float .f64 b1, .float .f64 b2], .agg #[.float .f64 c1, .float .f64 c2]] w fun e w' => e = .returned (.agg #[.float .f64 (pat ((-(M : Int), (M : Int))).1), .float .f64 (pat ((-(M : Int), (M : Int))).2)]) ∧ Below w.heap.size w w' := by
  have v1 := rd_iv b1 b2
  have v2 := rd_iv c1 c2
  rw [r1] at v1
  rw [r2] at v2
  dsimp only at v1 v2
  have hM : M = 9218868437227405312 := rfl
  have t1 := fun W => readf b1 b2 W hb1 hb2
  have t2 := fun W => readf c1 c2 W hc1 hc2
  rw [r1] at t1
  rw [r2] at t2
  dsimp only at t1 t2
  have m1 := em_idx v1
  have m2 := em_idx v2
  have K1 := fun W => common_any i1 j1 W v1
  have K2 := fun W => common_any i2 j2 W v2
  have HE := Lib.hid emptyf
  have HN := Lib.hid entiref
  have h4 := of_decide_eq_true h1
  rw [h1] at K1
  have o12 := m1.2 (decide_eq_false (by omega))
  rw [h2] at K2
  have h5 := of_decide_eq_true h2
  have fn : ∀ i : Int, -(M : Int) < i → i < M → fin (pat i) := by
    intro i a b
    show rungOf _ < M
    rw [rung_pat (by omega) (by omega)]; omega
  have L1 := fun W => rless_any (pat j1) (pat i1) W (pat_lt (by omega) (by omega)) (pat_lt (by omega) (by omega)) (fn _ (by omega) (by omega)) (fn _ (by omega) (by omega))
  have L2 := fun W => rless_any (pat j2) (pat i2) W (pat_lt (by omega) (by omega)) (pat_lt (by omega) (by omega)) (fn _ (by omega) (by omega)) (fn _ (by omega) (by omega))
  rw [idx_pat (by omega) (by omega), idx_pat (by omega) (by omega)] at L1 L2
  have w1 : 0 ≤ fl j1 - fl i1 := by have := fl_le_iff.2 h4.1; grind
  have w2 : 0 ≤ fl j2 - fl i2 := by have := fl_le_iff.2 h5.1; grind
  have HA := Lib.hid fun n1 A1 m1 c1 S1 e1 n2 A2 m2 c2 S2 e2 W h1 h2 b1 b2 l1 u1 l2 u2 hv1 hv2 => alignw n1 A1 m1 c1 S1 e1 n2 A2 m2 c2 S2 e2 (fl j1 - fl i1) (fl j2 - fl i2) W h1 h2 b1 b2 l1 u1 l2 u2 hv1 hv2 w1 w2
  have HC := Lib.hid fun W A n c B m d P Q (hx : U32s W A n c (digs P)) (hy : U32s W B m d (digs Q)) => ncmp_v A B n c m d P Q W hx hy
  obtain ⟨x1, ex1⟩ : ∃ x, fl j1 - fl i1 = x := ⟨_, rfl⟩
  obtain ⟨x2, ex2⟩ : ∃ x, fl j2 - fl i2 = x := ⟨_, rfl⟩
  rw [ex1, ex2] at HA h3
  rw [ex1] at L1
  rw [ex2] at L2
  have H3 := Lib.hid h3
  clear h2 h4 h5 fn w1 w2 ex1 ex2 h3
  dsimp only
  rw [pat_min, pat_max]
  obtain ⟨P1, hP1⟩ : ∃ z, pat i1 = z := ⟨_, rfl⟩
  obtain ⟨Q1, hQ1⟩ : ∃ z, pat j1 = z := ⟨_, rfl⟩
  obtain ⟨P2, hP2⟩ : ∃ z, pat i2 = z := ⟨_, rfl⟩
  obtain ⟨Q2, hQ2⟩ : ∃ z, pat j2 = z := ⟨_, rfl⟩
  rw [hP1, hQ1] at t1 m1 K1
  rw [hP2, hQ2] at t2 m2 K2
  rw [hP1] at o12
  rw [hP1, hQ1] at L1
  rw [hP2, hQ2] at L2
  have KL1 := Lib.hid L1
  have KL2 := Lib.hid L2
  clear L1 L2
  have KC1 := Lib.hid K1
  have KC2 := Lib.hid K2
  have LB0 := Lib.hid (show Below w.heap.size w (((w.alloc (.cells #[.float .f64 b1, .float .f64 b2] 29)).alloc (.cells #[.float .f64 c1, .float .f64 c2] 29)).alloc (.cells #[.float .f64 0, .float .f64 0] 29)) from (((below_alloc w _).alloc (by simp <;> omega) _).alloc (by simp <;> omega) _))
  have LG0_0 := Lib.hid ((((Blk.at (W := w) (g := w.heap.size) (by simp <;> omega) 29 #[.float .f64 b1, .float .f64 b2]).alloc (.cells #[.float .f64 c1, .float .f64 c2] 29)).alloc (.cells #[.float .f64 0, .float .f64 0] 29)))
  have LG1_0 := Lib.hid (((Blk.at (W := (w.alloc (.cells #[.float .f64 b1, .float .f64 b2] 29))) (g := (w.heap.size + 1)) (by simp <;> omega) 29 #[.float .f64 c1, .float .f64 c2]).alloc (.cells #[.float .f64 0, .float .f64 0] 29)))
  have LR0 := Lib.hid (HasBlk.of (n := 2) (Blk.at (W := ((w.alloc (.cells #[.float .f64 b1, .float .f64 b2] 29)).alloc (.cells #[.float .f64 c1, .float .f64 c2] 29))) (g := (w.heap.size + 2)) (by simp <;> omega) 29 #[.float .f64 0, .float .f64 0]) rfl rfl)
  have hrow := Blk.at (W := (((w.alloc (.cells #[.float .f64 b1, .float .f64 b2] 29)).alloc (.cells #[.float .f64 c1, .float .f64 c2] 29)).alloc (.cells #[.float .f64 0, .float .f64 0] 29))) (g := w.heap.size + 1 + 1 + 1) (by simp) 51 #[.pointer (some ⟨w.heap.size, 0, none⟩), .pointer (some ⟨w.heap.size + 1, 0, none⟩)]
  have HRD := Lib.hid (read_two b1 b2 c1 c2 P1 Q1 P2 Q2 w.heap.size (w.heap.size + 1) (w.heap.size + 1 + 1 + 1) 2 _ _ _ (by omega) (by omega) (by omega) (hrow.cell 0) (hrow.cell 1) (LG0_0.out.alloc (.cells #[.pointer (some ⟨w.heap.size, 0, none⟩), .pointer (some ⟨w.heap.size + 1, 0, none⟩)] 51)) (LG1_0.out.alloc (.cells #[.pointer (some ⟨w.heap.size, 0, none⟩), .pointer (some ⟨w.heap.size + 1, 0, none⟩)] 51)) t1 t2 m1 m2)
  have LBr := Lib.hid (LB0.out.alloc (by simp <;> omega) (.cells #[.pointer (some ⟨w.heap.size, 0, none⟩), .pointer (some ⟨w.heap.size + 1, 0, none⟩)] 51))
  have LRr := Lib.hid (LR0.out.alloc (.cells #[.pointer (some ⟨w.heap.size, 0, none⟩), .pointer (some ⟨w.heap.size + 1, 0, none⟩)] 51))
  have hsz : w.heap.size ≤ (((((w.alloc (.cells #[.float .f64 b1, .float .f64 b2] 29)).alloc (.cells #[.float .f64 c1, .float .f64 c2] 29)).alloc (.cells #[.float .f64 0, .float .f64 0] 29))).alloc (.cells #[.pointer (some ⟨w.heap.size, 0, none⟩), .pointer (some ⟨w.heap.size + 1, 0, none⟩)] 51)).heap.size := by simp; omega
  have HSZ := Lib.hid hsz
  obtain ⟨em1, hem1⟩ : ∃ z, decide (j1 < i1) = z := ⟨_, rfl⟩
  obtain ⟨em2, hem2⟩ : ∃ z, decide (j2 < i2) = z := ⟨_, rfl⟩
  rw [hem1, hem2] at HRD
  clear t1 t2 m1 m2 hrow v1 v2 hM hsz hP1 hQ1 hP2 hQ2 r1 r2 LB0 LR0 LG0_0 LG1_0 hem1 hem2 K1 K2 h1 hb1 hb2 hc1 hc2
  go_enter Tryz.func19, Tryz.ntmps19
  go_wp2_with fail
  refine HRD.out.mono ?_
  rintro e w1 ⟨rfl, d0, d1, kp⟩
  have LB1 := Lib.hid (kp.toBl LBr.out HSZ.out (Nat.le_refl _) (by omega) (by omega))
  have LR1 := Lib.hid (kp.hasBk LRr.out (by omega) (by omega) (by omega))
  have LG0_1 := Lib.hid (show Blk w1 w.heap.size 29 _ from d0)
  have LG1_1 := Lib.hid (show Blk w1 (w.heap.size + 1) 29 _ from d1)
  clear d0 d1 kp LBr LRr HSZ HRD
  go_wp2_with fail
  refine wp_region_held_drew (S := fun W' => Blk W' w.heap.size 29 #[.float .f64 P1, .float .f64 Q1] ∧ Blk W' (w.heap.size + 1) 29 #[.float .f64 P2, .float .f64 Q2] ∧ HasBlk W' (w.heap.size + 2) 29 2 ∧ Below w.heap.size w W') (by kernel_rfl) (by exact ⟨LG0_1.out.drew, LG1_1.out.drew, LR1.out.drew, LB1.out.drew⟩) (fun hHeld => ?_)
  refine wpAnyH_take (i := 0) (v := ?_) rfl (by kernel_rfl) (by kernel_rfl) (by kernel_rfl) (fun _ _ _ h => h) (Or.inl ⟨by rfl, ?_⟩) (by assumption) ?_
  rotate_left
  · (intro W2 hSw; (try dsimp only at hSw); have q0 : _ = some (.float .f64 P1 : Value) := hSw.1.cell 0; have q1 : _ = some (.float .f64 Q1 : Value) := hSw.1.cell 1; go_simp; (try with_reducible rfl))
  try simp only [Act.put, List.getElem_toArray, List.getElem_cons_succ, List.getElem_cons_zero, List.setIfInBounds_toArray, List.set_cons_zero, List.set_cons_succ]
  refine wpAnyH_ready (rs := [1]) (by kernel_rfl) (by simp) ?_
  refine AllReadyH.cons rfl (fun KK hKK => ?_) AllReadyH.nil
  go_simp
  refine (HE.out _).mono ?_
  rintro e w2 ⟨rfl, hbA⟩
  go_wp2_with fail
  refine hKK.out _ _ (⟨hHeld.1.keep hbA, hHeld.2.1.keep hbA, hHeld.2.2.1.keep hbA, hHeld.2.2.2.trans (hbA.mono hHeld.2.2.2.size)⟩) (fun _ => ?_)
  clear hKK KK hHeld; rename_i hHeld
  try simp only [Act.put, List.getElem_toArray, List.getElem_cons_succ, List.getElem_cons_zero, List.setIfInBounds_toArray, List.set_cons_zero, List.set_cons_succ]
  refine wpAnyH_take (i := 2) (v := ?_) rfl (by kernel_rfl) (by kernel_rfl) (by kernel_rfl) (fun _ _ _ h => h) (Or.inl ⟨by rfl, ?_⟩) (by assumption) ?_
  rotate_left
  · (intro W2 hSw; go_simp; (try with_reducible rfl))
  try simp only [Act.put, List.getElem_toArray, List.getElem_cons_succ, List.getElem_cons_zero, List.setIfInBounds_toArray, List.set_cons_zero, List.set_cons_succ]
  refine wpAnyH_take (i := 3) (v := ?_) rfl (by kernel_rfl) (by kernel_rfl) (by kernel_rfl) (fun _ _ _ h => h) (Or.inl ⟨by rfl, ?_⟩) (by assumption) ?_
  rotate_left
  · (intro W2 hSw; go_simp; (try with_reducible rfl))
  try simp only [Act.put, List.getElem_toArray, List.getElem_cons_succ, List.getElem_cons_zero, List.setIfInBounds_toArray, List.set_cons_zero, List.set_cons_succ]
  refine wpAnyH_take (i := 4) (v := undef) rfl (by kernel_rfl) (by kernel_rfl) (by kernel_rfl) (fun _ _ _ h => h) (Or.inr ⟨by rfl, rfl⟩) (by assumption) ?_
  try simp only [Act.put, List.getElem_toArray, List.getElem_cons_succ, List.getElem_cons_zero, List.setIfInBounds_toArray, List.set_cons_zero, List.set_cons_succ]
  refine wpAnyH_take (i := 5) (v := undef) rfl (by kernel_rfl) (by kernel_rfl) (by kernel_rfl) (fun _ _ _ h => h) (Or.inr ⟨by rfl, rfl⟩) (by assumption) ?_
  try simp only [Act.put, List.getElem_toArray, List.getElem_cons_succ, List.getElem_cons_zero, List.setIfInBounds_toArray, List.set_cons_zero, List.set_cons_succ]
  refine wpAnyH_take (i := 6) (v := undef) rfl (by kernel_rfl) (by kernel_rfl) (by kernel_rfl) (fun _ _ _ h => h) (Or.inr ⟨by rfl, rfl⟩) (by assumption) ?_
  try simp only [Act.put, List.getElem_toArray, List.getElem_cons_succ, List.getElem_cons_zero, List.setIfInBounds_toArray, List.set_cons_zero, List.set_cons_succ]
  refine wpAnyH_take (i := 7) (v := undef) rfl (by kernel_rfl) (by kernel_rfl) (by kernel_rfl) (fun _ _ _ h => h) (Or.inr ⟨by rfl, rfl⟩) (by assumption) ?_
  try simp only [Act.put, List.getElem_toArray, List.getElem_cons_succ, List.getElem_cons_zero, List.setIfInBounds_toArray, List.set_cons_zero, List.set_cons_succ]
  refine wpAnyH_take (i := 8) (v := undef) rfl (by kernel_rfl) (by kernel_rfl) (by kernel_rfl) (fun _ _ _ h => h) (Or.inr ⟨by rfl, rfl⟩) (by assumption) ?_
  try simp only [Act.put, List.getElem_toArray, List.getElem_cons_succ, List.getElem_cons_zero, List.setIfInBounds_toArray, List.set_cons_zero, List.set_cons_succ]
  refine wpAnyH_take (i := 9) (v := undef) rfl (by kernel_rfl) (by kernel_rfl) (by kernel_rfl) (fun _ _ _ h => h) (Or.inr ⟨by rfl, rfl⟩) (by assumption) ?_
  try simp only [Act.put, List.getElem_toArray, List.getElem_cons_succ, List.getElem_cons_zero, List.setIfInBounds_toArray, List.set_cons_zero, List.set_cons_succ]
  refine wpAnyH_take (i := 10) (v := undef) rfl (by kernel_rfl) (by kernel_rfl) (by kernel_rfl) (fun _ _ _ h => h) (Or.inr ⟨by rfl, rfl⟩) (by assumption) ?_
  try simp only [Act.put, List.getElem_toArray, List.getElem_cons_succ, List.getElem_cons_zero, List.setIfInBounds_toArray, List.set_cons_zero, List.set_cons_succ]
  refine wpAnyH_take (i := 11) (v := ?_) rfl (by kernel_rfl) (by kernel_rfl) (by kernel_rfl) (fun _ _ _ h => h) (Or.inl ⟨by rfl, ?_⟩) (by assumption) ?_
  rotate_left
  · (intro W2 hSw; go_simp; (try with_reducible rfl))
  try simp only [Act.put, List.getElem_toArray, List.getElem_cons_succ, List.getElem_cons_zero, List.setIfInBounds_toArray, List.set_cons_zero, List.set_cons_succ]
  refine wpAnyH_done (by kernel_rfl) ?_ _
  clear LB1 LR1 LG0_1 LG1_1
  have LG0_2 := Lib.hid hHeld.1
  have LG1_2 := Lib.hid hHeld.2.1
  have LR2 := Lib.hid hHeld.2.2.1
  have LB2 := Lib.hid hHeld.2.2.2
  clear hHeld hbA HE o12
  have q0_0 : _ = some (.float .f64 P1 : Value) := LG0_2.out.cell 0
  have q0_1 : _ = some (.float .f64 Q1 : Value) := LG0_2.out.cell 1
  have q1_0 : _ = some (.float .f64 P2 : Value) := LG1_2.out.cell 0
  have q1_1 : _ = some (.float .f64 Q2 : Value) := LG1_2.out.cell 1
  go_wp2_with fail
  refine (KC1.out _).mono ?_
  rintro e w4 ⟨rfl, hb4⟩
  have LB3 := Lib.hid (LB2.out.trans (hb4.mono LB2.out.size))
  have LR3 := Lib.hid (LR2.out.keep hb4)
  have LG0_3 := Lib.hid (LG0_2.out.keep hb4)
  have LG1_3 := Lib.hid (LG1_2.out.keep hb4)
  clear LB2 LR2 LG0_2 LG1_2
  clear hb4 q0_0 q0_1 q1_0 q1_1
  have q0_0 : _ = some (.float .f64 P1 : Value) := LG0_3.out.cell 0
  have q0_1 : _ = some (.float .f64 Q1 : Value) := LG0_3.out.cell 1
  have q1_0 : _ = some (.float .f64 P2 : Value) := LG1_3.out.cell 0
  have q1_1 : _ = some (.float .f64 Q2 : Value) := LG1_3.out.cell 1
  go_wp2_with fail
  refine (KC2.out _).mono ?_
  rintro e w5 ⟨rfl, hb5⟩
  have LB4 := Lib.hid (LB3.out.trans (hb5.mono LB3.out.size))
  have LR4 := Lib.hid (LR3.out.keep hb5)
  have LG0_4 := Lib.hid (LG0_3.out.keep hb5)
  have LG1_4 := Lib.hid (LG1_3.out.keep hb5)
  clear LB3 LR3 LG0_3 LG1_3
  clear hb5 q0_0 q0_1 q1_0 q1_1
  have q0_0 : _ = some (.float .f64 P1 : Value) := LG0_4.out.cell 0
  have q0_1 : _ = some (.float .f64 Q1 : Value) := LG0_4.out.cell 1
  have q1_0 : _ = some (.float .f64 P2 : Value) := LG1_4.out.cell 0
  have q1_1 : _ = some (.float .f64 Q2 : Value) := LG1_4.out.cell 1
  go_wp2_with fail
  clear q0_0 q0_1 q1_0 q1_1
  refine wp_region_held_drew (S := fun W' => Blk W' w.heap.size 29 #[.float .f64 P1, .float .f64 Q1] ∧ Blk W' (w.heap.size + 1) 29 #[.float .f64 P2, .float .f64 Q2] ∧ HasBlk W' (w.heap.size + 2) 29 2 ∧ Below w.heap.size w W') (by kernel_rfl) (by exact ⟨LG0_4.out.drew, LG1_4.out.drew, LR4.out.drew, LB4.out.drew⟩) (fun hHeld => ?_)
  refine wpAnyH_take (i := 0) (v := ?_) rfl (by kernel_rfl) (by kernel_rfl) (by kernel_rfl) (fun _ _ _ h => h) (Or.inl ⟨by rfl, ?_⟩) (by assumption) ?_
  rotate_left
  · (intro W2 hSw; go_simp; (try with_reducible rfl))
  try simp only [Act.put, List.getElem_toArray, List.getElem_cons_succ, List.getElem_cons_zero, List.setIfInBounds_toArray, List.set_cons_zero, List.set_cons_succ]
  refine wpAnyH_take (i := 1) (v := ?_) rfl (by kernel_rfl) (by kernel_rfl) (by kernel_rfl) (fun _ _ _ h => h) (Or.inl ⟨by rfl, ?_⟩) (by assumption) ?_
  rotate_left
  · (intro W2 hSw; (try dsimp only at hSw); have q0 : _ = some (.float .f64 P1 : Value) := hSw.1.cell 0; have q1 : _ = some (.float .f64 Q1 : Value) := hSw.1.cell 1; go_simp; (try with_reducible rfl))
  try simp only [Act.put, List.getElem_toArray, List.getElem_cons_succ, List.getElem_cons_zero, List.setIfInBounds_toArray, List.set_cons_zero, List.set_cons_succ]
  refine wpAnyH_take (i := 2) (v := ?_) rfl (by kernel_rfl) (by kernel_rfl) (by kernel_rfl) (fun _ _ _ h => h) (Or.inl ⟨by rfl, ?_⟩) (by assumption) ?_
  rotate_left
  · (intro W2 hSw; go_simp; (try with_reducible rfl))
  try simp only [Act.put, List.getElem_toArray, List.getElem_cons_succ, List.getElem_cons_zero, List.setIfInBounds_toArray, List.set_cons_zero, List.set_cons_succ]
  refine wpAnyH_take (i := 3) (v := ?_) rfl (by kernel_rfl) (by kernel_rfl) (by kernel_rfl) (fun _ _ _ h => h) (Or.inl ⟨by rfl, ?_⟩) (by assumption) ?_
  rotate_left
  · (intro W2 hSw; (try dsimp only at hSw); have q0 : _ = some (.float .f64 P1 : Value) := hSw.1.cell 0; have q1 : _ = some (.float .f64 Q1 : Value) := hSw.1.cell 1; go_simp; (try with_reducible rfl))
  try simp only [Act.put, List.getElem_toArray, List.getElem_cons_succ, List.getElem_cons_zero, List.setIfInBounds_toArray, List.set_cons_zero, List.set_cons_succ]
  refine wpAnyH_take (i := 5) (v := ?_) rfl (by kernel_rfl) (by kernel_rfl) (by kernel_rfl) (fun _ _ _ h => h) (Or.inl ⟨by rfl, ?_⟩) (by assumption) ?_
  rotate_left
  · (intro W2 hSw; go_simp; (try with_reducible rfl))
  try simp only [Act.put, List.getElem_toArray, List.getElem_cons_succ, List.getElem_cons_zero, List.setIfInBounds_toArray, List.set_cons_zero, List.set_cons_succ]
  refine wpAnyH_take (i := 6) (v := ?_) rfl (by kernel_rfl) (by kernel_rfl) (by kernel_rfl) (fun _ _ _ h => h) (Or.inl ⟨by rfl, ?_⟩) (by assumption) ?_
  rotate_left
  · (intro W2 hSw; (try dsimp only at hSw); have q0 : _ = some (.float .f64 P2 : Value) := hSw.2.1.cell 0; have q1 : _ = some (.float .f64 Q2 : Value) := hSw.2.1.cell 1; go_simp; (try with_reducible rfl))
  try simp only [Act.put, List.getElem_toArray, List.getElem_cons_succ, List.getElem_cons_zero, List.setIfInBounds_toArray, List.set_cons_zero, List.set_cons_succ]
  refine wpAnyH_take (i := 7) (v := ?_) rfl (by kernel_rfl) (by kernel_rfl) (by kernel_rfl) (fun _ _ _ h => h) (Or.inl ⟨by rfl, ?_⟩) (by assumption) ?_
  rotate_left
  · (intro W2 hSw; go_simp; (try with_reducible rfl))
  try simp only [Act.put, List.getElem_toArray, List.getElem_cons_succ, List.getElem_cons_zero, List.setIfInBounds_toArray, List.set_cons_zero, List.set_cons_succ]
  refine wpAnyH_take (i := 8) (v := ?_) rfl (by kernel_rfl) (by kernel_rfl) (by kernel_rfl) (fun _ _ _ h => h) (Or.inl ⟨by rfl, ?_⟩) (by assumption) ?_
  rotate_left
  · (intro W2 hSw; (try dsimp only at hSw); have q0 : _ = some (.float .f64 P2 : Value) := hSw.2.1.cell 0; have q1 : _ = some (.float .f64 Q2 : Value) := hSw.2.1.cell 1; go_simp; (try with_reducible rfl))
  try simp only [Act.put, List.getElem_toArray, List.getElem_cons_succ, List.getElem_cons_zero, List.setIfInBounds_toArray, List.set_cons_zero, List.set_cons_succ]
  refine wpAnyH_ready (rs := [4]) (by kernel_rfl) (by simp) ?_
  refine AllReadyH.cons rfl (fun KK hKK => ?_) AllReadyH.nil
  go_simp
  refine (KL1.out _).mono ?_
  rintro e w6 ⟨n1, A1, k1, y1, S1, e1, rfl, hu1, hbF, hl1, hlo1, hhi1, hv1⟩
  go_wp2_with fail
  refine hKK.out _ _ (⟨hHeld.1.keep hbF, hHeld.2.1.keep hbF, hHeld.2.2.1.keep hbF, hHeld.2.2.2.trans (hbF.mono hHeld.2.2.2.size)⟩) (fun _ => ?_)
  clear hKK KK hHeld; rename_i hHeld
  try simp only [Act.put, List.getElem_toArray, List.getElem_cons_succ, List.getElem_cons_zero, List.setIfInBounds_toArray, List.set_cons_zero, List.set_cons_succ]
  refine wpAnyH_ready (rs := [9]) (by kernel_rfl) (by simp) ?_
  refine AllReadyH.cons rfl (fun KK hKK => ?_) AllReadyH.nil
  go_simp
  refine (KL2.out _).mono ?_
  rintro e w7 ⟨n2, A2, k2, y2, S2, e2, rfl, hu2, hbG, hl2, hlo2, hhi2, hv2⟩
  go_wp2_with fail
  refine hKK.out _ _ (⟨hHeld.1.keep hbG, hHeld.2.1.keep hbG, hHeld.2.2.1.keep hbG, hHeld.2.2.2.trans (hbG.mono hHeld.2.2.2.size)⟩) (fun _ => ?_)
  clear hKK KK hHeld; rename_i hHeld
  try simp only [Act.put, List.getElem_toArray, List.getElem_cons_succ, List.getElem_cons_zero, List.setIfInBounds_toArray, List.set_cons_zero, List.set_cons_succ]
  refine wpAnyH_ready (rs := [10]) (by kernel_rfl) (by simp) ?_
  refine AllReadyH.cons rfl (fun KK hKK => ?_) AllReadyH.nil
  go_simp
  refine (HA.out n1 A1 k1 y1 S1 e1 n2 A2 k2 y2 S2 e2 _ (hu1.below hbG) hu2 hl1 hl2 hlo1 hhi1 hlo2 hhi2 hv1 hv2).mono ?_
  rintro e w8 ⟨PP, QQ, EE, A3, k3, y3, A4, k4, y4, rfl, hp, hq, hpq, hbH⟩
  go_wp2_with fail
  refine hKK.out _ _ (⟨hHeld.1.keep hbH, hHeld.2.1.keep hbH, hHeld.2.2.1.keep hbH, hHeld.2.2.2.trans (hbH.mono hHeld.2.2.2.size)⟩) (fun _ => ?_)
  clear hKK KK hHeld; rename_i hHeld
  try simp only [Act.put, List.getElem_toArray, List.getElem_cons_succ, List.getElem_cons_zero, List.setIfInBounds_toArray, List.set_cons_zero, List.set_cons_succ]
  refine wpAnyH_take (i := 11) (v := ?_) rfl (by kernel_rfl) (by kernel_rfl) (by kernel_rfl) (fun _ _ _ h => h) (Or.inl ⟨by rfl, ?_⟩) (by assumption) ?_
  rotate_left
  · (intro W2 hSw; go_simp; (try with_reducible rfl))
  try simp only [Act.put, List.getElem_toArray, List.getElem_cons_succ, List.getElem_cons_zero, List.setIfInBounds_toArray, List.set_cons_zero, List.set_cons_succ]
  refine wpAnyH_take (i := 12) (v := ?_) rfl (by kernel_rfl) (by kernel_rfl) (by kernel_rfl) (fun _ _ _ h => h) (Or.inl ⟨by rfl, ?_⟩) (by assumption) ?_
  rotate_left
  · (intro W2 hSw; go_simp; (try with_reducible rfl))
  try simp only [Act.put, List.getElem_toArray, List.getElem_cons_succ, List.getElem_cons_zero, List.setIfInBounds_toArray, List.set_cons_zero, List.set_cons_succ]
  refine wpAnyH_take (i := 13) (v := ?_) rfl (by kernel_rfl) (by kernel_rfl) (by kernel_rfl) (fun _ _ _ h => h) (Or.inl ⟨by rfl, ?_⟩) (by assumption) ?_
  rotate_left
  · (intro W2 hSw; go_simp; (try with_reducible rfl))
  try simp only [Act.put, List.getElem_toArray, List.getElem_cons_succ, List.getElem_cons_zero, List.setIfInBounds_toArray, List.set_cons_zero, List.set_cons_succ]
  refine wpAnyH_take (i := 14) (v := ?_) rfl (by kernel_rfl) (by kernel_rfl) (by kernel_rfl) (fun _ _ _ h => h) (Or.inl ⟨by rfl, ?_⟩) (by assumption) ?_
  rotate_left
  · (intro W2 hSw; go_simp; (try with_reducible rfl))
  try simp only [Act.put, List.getElem_toArray, List.getElem_cons_succ, List.getElem_cons_zero, List.setIfInBounds_toArray, List.set_cons_zero, List.set_cons_succ]
  refine wpAnyH_take (i := 15) (v := ?_) rfl (by kernel_rfl) (by kernel_rfl) (by kernel_rfl) (fun _ _ _ h => h) (Or.inl ⟨by rfl, ?_⟩) (by assumption) ?_
  rotate_left
  · (intro W2 hSw; go_simp; (try with_reducible rfl))
  try simp only [Act.put, List.getElem_toArray, List.getElem_cons_succ, List.getElem_cons_zero, List.setIfInBounds_toArray, List.set_cons_zero, List.set_cons_succ]
  refine wpAnyH_take (i := 16) (v := ?_) rfl (by kernel_rfl) (by kernel_rfl) (by kernel_rfl) (fun _ _ _ h => h) (Or.inl ⟨by rfl, ?_⟩) (by assumption) ?_
  rotate_left
  · (intro W2 hSw; go_simp; (try with_reducible rfl))
  try simp only [Act.put, List.getElem_toArray, List.getElem_cons_succ, List.getElem_cons_zero, List.setIfInBounds_toArray, List.set_cons_zero, List.set_cons_succ]
  refine wpAnyH_take (i := 17) (v := ?_) rfl (by kernel_rfl) (by kernel_rfl) (by kernel_rfl) (fun _ _ _ h => h) (Or.inl ⟨by rfl, ?_⟩) (by assumption) ?_
  rotate_left
  · (intro W2 hSw; go_simp; (try with_reducible rfl))
  try simp only [Act.put, List.getElem_toArray, List.getElem_cons_succ, List.getElem_cons_zero, List.setIfInBounds_toArray, List.set_cons_zero, List.set_cons_succ]
  refine wpAnyH_done (by kernel_rfl) ?_ _
  clear LB4 LR4 LG0_4 LG1_4
  have HPP := Lib.hid hp
  have HQQ := Lib.hid hq
  have hcc : cmp3 PP QQ < 0 := by exact cmp3_neg.2 (hpq.2 H3.out)
  have HC2 := Lib.hid (fun W (hW : Below w8.heap.size w8 W) => HC.out W A3 k3 y3 A4 k4 y4 PP QQ (HPP.out.below hW) (HQQ.out.below hW))
  obtain ⟨cc, ecc⟩ : ∃ z, cmp3 PP QQ = z := ⟨_, rfl⟩
  rw [ecc] at hcc HC2
  clear ecc hp hq hpq H3 HC HPP HQQ hu1 hl1 hlo1 hhi1 hv1 hu2 hl2 hlo2 hhi2 hv2 KL1 KL2 HA
  have LG0_5 := Lib.hid hHeld.1
  have LG1_5 := Lib.hid hHeld.2.1
  have LR5 := Lib.hid hHeld.2.2.1
  have LB5 := Lib.hid hHeld.2.2.2
  clear hHeld hbF hbG hbH
  have q0_0 : _ = some (.float .f64 P1 : Value) := LG0_5.out.cell 0
  have q0_1 : _ = some (.float .f64 Q1 : Value) := LG0_5.out.cell 1
  have q1_0 : _ = some (.float .f64 P2 : Value) := LG1_5.out.cell 0
  have q1_1 : _ = some (.float .f64 Q2 : Value) := LG1_5.out.cell 1
  go_wp2_with fail
  refine (HC2.out _ (Below.refl _ _)).mono ?_
  rintro e w9 ⟨rfl, hb9⟩
  have LB6 := Lib.hid (LB5.out.trans (hb9.mono LB5.out.size))
  have LR6 := Lib.hid (LR5.out.keep hb9)
  have LG0_6 := Lib.hid (LG0_5.out.keep hb9)
  have LG1_6 := Lib.hid (LG1_5.out.keep hb9)
  clear LB5 LR5 LG0_5 LG1_5
  clear hb9 HC2 q0_0 q0_1 q1_0 q1_1
  go_wp2_with fail
  refine (HN.out _).mono ?_
  rintro e w10 ⟨rfl, hb10⟩
  have LB7 := Lib.hid (LB6.out.trans (hb10.mono LB6.out.size))
  have LR7 := Lib.hid (LR6.out.keep hb10)
  have LG0_7 := Lib.hid (LG0_6.out.keep hb10)
  have LG1_7 := Lib.hid (LG1_6.out.keep hb10)
  clear LB6 LR6 LG0_6 LG1_6
  clear hb10 hcc
  have ha0 := LR7.out.someCell 0 (by decide)
  have hf0 := LR7.out.frozen 0
  have ha1 := LR7.out.someCell 1 (by decide)
  have hf1 := LR7.out.frozen 1
  have hk0 := LR7.out.setCell [.float .f64 18442240474082181120, .float .f64 9218868437227405312] rfl 0 (by decide)
  have hk1 := LR7.out.setCell [.float .f64 18442240474082181120, .float .f64 9218868437227405312] rfl 1 (by decide)
  have F := Lib.hid (below_sets (w0 := w) (r := (w.heap.size + 2)) (by omega) [.float .f64 18442240474082181120, .float .f64 9218868437227405312] 0 _ LB7.out)
  simp [sets] at hk0 hk1
  go_wp2
  refine bodyPost_ret (v := .agg #[.float .f64 18442240474082181120, .float .f64 9218868437227405312]) (by simp [results, Tryz.results19, go_sem, hk0, hk1]) rfl ?_
  exact ⟨rfl, F.out⟩

set_option maxHeartbeats 6400000 in
theorem cancel_D (b1 b2 c1 c2 : Nat) (i1 j1 i2 j2 : Int) (w : World) (hb1 : b1 < 18446744073709551616) (hb2 : b2 < 18446744073709551616) (hc1 : c1 < 18446744073709551616) (hc2 : c2 < 18446744073709551616) (r1 : rd b1 b2 = (i1, j1)) (r2 : rd c1 c2 = (i2, j2)) (h1 : com i1 j1 = true) (h2 : com i2 j2 = true) (h3 : ¬ fl j1 - fl i1 < fl j2 - fl i2) :
    Calls Tryz.prog 19 #[.agg #[.float .f64 b1, .float .f64 b2], .agg #[.float .f64 c1, .float .f64 c2]] w fun e w' => e = .returned (.agg #[.float .f64 (pat ((ad (-1) i1 (-i2), ad 1 j1 (-j2))).1), .float .f64 (pat ((ad (-1) i1 (-i2), ad 1 j1 (-j2))).2)]) ∧ Below w.heap.size w w' := by
  have v1 := rd_iv b1 b2
  have v2 := rd_iv c1 c2
  rw [r1] at v1
  rw [r2] at v2
  dsimp only at v1 v2
  have hM : M = 9218868437227405312 := rfl
  have t1 := fun W => readf b1 b2 W hb1 hb2
  have t2 := fun W => readf c1 c2 W hc1 hc2
  rw [r1] at t1
  rw [r2] at t2
  dsimp only at t1 t2
  have m1 := em_idx v1
  have m2 := em_idx v2
  have K1 := fun W => common_any i1 j1 W v1
  have K2 := fun W => common_any i2 j2 W v2
  have HE := Lib.hid emptyf
  have HN := Lib.hid entiref
  have h4 := of_decide_eq_true h1
  rw [h1] at K1
  have o12 := m1.2 (decide_eq_false (by omega))
  rw [h2] at K2
  have h5 := of_decide_eq_true h2
  have fn : ∀ i : Int, -(M : Int) < i → i < M → fin (pat i) := by
    intro i a b
    show rungOf _ < M
    rw [rung_pat (by omega) (by omega)]; omega
  have L1 := fun W => rless_any (pat j1) (pat i1) W (pat_lt (by omega) (by omega)) (pat_lt (by omega) (by omega)) (fn _ (by omega) (by omega)) (fn _ (by omega) (by omega))
  have L2 := fun W => rless_any (pat j2) (pat i2) W (pat_lt (by omega) (by omega)) (pat_lt (by omega) (by omega)) (fn _ (by omega) (by omega)) (fn _ (by omega) (by omega))
  rw [idx_pat (by omega) (by omega), idx_pat (by omega) (by omega)] at L1 L2
  have w1 : 0 ≤ fl j1 - fl i1 := by have := fl_le_iff.2 h4.1; grind
  have w2 : 0 ≤ fl j2 - fl i2 := by have := fl_le_iff.2 h5.1; grind
  have HA := Lib.hid fun n1 A1 m1 c1 S1 e1 n2 A2 m2 c2 S2 e2 W h1 h2 b1 b2 l1 u1 l2 u2 hv1 hv2 => alignw n1 A1 m1 c1 S1 e1 n2 A2 m2 c2 S2 e2 (fl j1 - fl i1) (fl j2 - fl i2) W h1 h2 b1 b2 l1 u1 l2 u2 hv1 hv2 w1 w2
  have HC := Lib.hid fun W A n c B m d P Q (hx : U32s W A n c (digs P)) (hy : U32s W B m d (digs Q)) => ncmp_v A B n c m d P Q W hx hy
  have S1 := fun W => rsub_pat (-1) i1 i2 W (.inl rfl) v1.lo v2.lo (by unfold NoCl; omega)
  have S2 := fun W => rsub_pat 1 j1 j2 W (.inr rfl) v1.hi v2.hi (by unfold NoCl; omega)
  obtain ⟨x1, ex1⟩ : ∃ x, fl j1 - fl i1 = x := ⟨_, rfl⟩
  obtain ⟨x2, ex2⟩ : ∃ x, fl j2 - fl i2 = x := ⟨_, rfl⟩
  rw [ex1, ex2] at HA h3
  rw [ex1] at L1
  rw [ex2] at L2
  have H3 := Lib.hid h3
  clear h2 h4 h5 fn w1 w2 ex1 ex2 h3
  dsimp only
  obtain ⟨z1, hz1⟩ : ∃ z, pat (ad (-1) i1 (-i2)) = z := ⟨_, rfl⟩
  obtain ⟨z2, hz2⟩ : ∃ z, pat (ad 1 j1 (-j2)) = z := ⟨_, rfl⟩
  rw [hz1] at S1 ⊢
  rw [hz2] at S2 ⊢
  obtain ⟨P1, hP1⟩ : ∃ z, pat i1 = z := ⟨_, rfl⟩
  obtain ⟨Q1, hQ1⟩ : ∃ z, pat j1 = z := ⟨_, rfl⟩
  obtain ⟨P2, hP2⟩ : ∃ z, pat i2 = z := ⟨_, rfl⟩
  obtain ⟨Q2, hQ2⟩ : ∃ z, pat j2 = z := ⟨_, rfl⟩
  rw [hP1, hQ1] at t1 m1 K1
  rw [hP2, hQ2] at t2 m2 K2
  rw [hP1] at o12
  rw [hP1, hQ1] at L1
  rw [hP2, hQ2] at L2
  have KL1 := Lib.hid L1
  have KL2 := Lib.hid L2
  clear L1 L2
  rw [hP1, hP2] at S1
  rw [hQ1, hQ2] at S2
  have KS1 := Lib.hid S1
  have KS2 := Lib.hid S2
  clear S1 S2 hz1 hz2
  have KC1 := Lib.hid K1
  have KC2 := Lib.hid K2
  have LB0 := Lib.hid (show Below w.heap.size w (((w.alloc (.cells #[.float .f64 b1, .float .f64 b2] 29)).alloc (.cells #[.float .f64 c1, .float .f64 c2] 29)).alloc (.cells #[.float .f64 0, .float .f64 0] 29)) from (((below_alloc w _).alloc (by simp <;> omega) _).alloc (by simp <;> omega) _))
  have LG0_0 := Lib.hid ((((Blk.at (W := w) (g := w.heap.size) (by simp <;> omega) 29 #[.float .f64 b1, .float .f64 b2]).alloc (.cells #[.float .f64 c1, .float .f64 c2] 29)).alloc (.cells #[.float .f64 0, .float .f64 0] 29)))
  have LG1_0 := Lib.hid (((Blk.at (W := (w.alloc (.cells #[.float .f64 b1, .float .f64 b2] 29))) (g := (w.heap.size + 1)) (by simp <;> omega) 29 #[.float .f64 c1, .float .f64 c2]).alloc (.cells #[.float .f64 0, .float .f64 0] 29)))
  have LR0 := Lib.hid (HasBlk.of (n := 2) (Blk.at (W := ((w.alloc (.cells #[.float .f64 b1, .float .f64 b2] 29)).alloc (.cells #[.float .f64 c1, .float .f64 c2] 29))) (g := (w.heap.size + 2)) (by simp <;> omega) 29 #[.float .f64 0, .float .f64 0]) rfl rfl)
  have hrow := Blk.at (W := (((w.alloc (.cells #[.float .f64 b1, .float .f64 b2] 29)).alloc (.cells #[.float .f64 c1, .float .f64 c2] 29)).alloc (.cells #[.float .f64 0, .float .f64 0] 29))) (g := w.heap.size + 1 + 1 + 1) (by simp) 51 #[.pointer (some ⟨w.heap.size, 0, none⟩), .pointer (some ⟨w.heap.size + 1, 0, none⟩)]
  have HRD := Lib.hid (read_two b1 b2 c1 c2 P1 Q1 P2 Q2 w.heap.size (w.heap.size + 1) (w.heap.size + 1 + 1 + 1) 2 _ _ _ (by omega) (by omega) (by omega) (hrow.cell 0) (hrow.cell 1) (LG0_0.out.alloc (.cells #[.pointer (some ⟨w.heap.size, 0, none⟩), .pointer (some ⟨w.heap.size + 1, 0, none⟩)] 51)) (LG1_0.out.alloc (.cells #[.pointer (some ⟨w.heap.size, 0, none⟩), .pointer (some ⟨w.heap.size + 1, 0, none⟩)] 51)) t1 t2 m1 m2)
  have LBr := Lib.hid (LB0.out.alloc (by simp <;> omega) (.cells #[.pointer (some ⟨w.heap.size, 0, none⟩), .pointer (some ⟨w.heap.size + 1, 0, none⟩)] 51))
  have LRr := Lib.hid (LR0.out.alloc (.cells #[.pointer (some ⟨w.heap.size, 0, none⟩), .pointer (some ⟨w.heap.size + 1, 0, none⟩)] 51))
  have hsz : w.heap.size ≤ (((((w.alloc (.cells #[.float .f64 b1, .float .f64 b2] 29)).alloc (.cells #[.float .f64 c1, .float .f64 c2] 29)).alloc (.cells #[.float .f64 0, .float .f64 0] 29))).alloc (.cells #[.pointer (some ⟨w.heap.size, 0, none⟩), .pointer (some ⟨w.heap.size + 1, 0, none⟩)] 51)).heap.size := by simp; omega
  have HSZ := Lib.hid hsz
  obtain ⟨em1, hem1⟩ : ∃ z, decide (j1 < i1) = z := ⟨_, rfl⟩
  obtain ⟨em2, hem2⟩ : ∃ z, decide (j2 < i2) = z := ⟨_, rfl⟩
  rw [hem1, hem2] at HRD
  clear t1 t2 m1 m2 hrow v1 v2 hM hsz hP1 hQ1 hP2 hQ2 r1 r2 LB0 LR0 LG0_0 LG1_0 hem1 hem2 K1 K2 h1 hb1 hb2 hc1 hc2
  go_enter Tryz.func19, Tryz.ntmps19
  go_wp2_with fail
  refine HRD.out.mono ?_
  rintro e w1 ⟨rfl, d0, d1, kp⟩
  have LB1 := Lib.hid (kp.toBl LBr.out HSZ.out (Nat.le_refl _) (by omega) (by omega))
  have LR1 := Lib.hid (kp.hasBk LRr.out (by omega) (by omega) (by omega))
  have LG0_1 := Lib.hid (show Blk w1 w.heap.size 29 _ from d0)
  have LG1_1 := Lib.hid (show Blk w1 (w.heap.size + 1) 29 _ from d1)
  clear d0 d1 kp LBr LRr HSZ HRD
  go_wp2_with fail
  refine wp_region_held_drew (S := fun W' => Blk W' w.heap.size 29 #[.float .f64 P1, .float .f64 Q1] ∧ Blk W' (w.heap.size + 1) 29 #[.float .f64 P2, .float .f64 Q2] ∧ HasBlk W' (w.heap.size + 2) 29 2 ∧ Below w.heap.size w W') (by kernel_rfl) (by exact ⟨LG0_1.out.drew, LG1_1.out.drew, LR1.out.drew, LB1.out.drew⟩) (fun hHeld => ?_)
  refine wpAnyH_take (i := 0) (v := ?_) rfl (by kernel_rfl) (by kernel_rfl) (by kernel_rfl) (fun _ _ _ h => h) (Or.inl ⟨by rfl, ?_⟩) (by assumption) ?_
  rotate_left
  · (intro W2 hSw; (try dsimp only at hSw); have q0 : _ = some (.float .f64 P1 : Value) := hSw.1.cell 0; have q1 : _ = some (.float .f64 Q1 : Value) := hSw.1.cell 1; go_simp; (try with_reducible rfl))
  try simp only [Act.put, List.getElem_toArray, List.getElem_cons_succ, List.getElem_cons_zero, List.setIfInBounds_toArray, List.set_cons_zero, List.set_cons_succ]
  refine wpAnyH_ready (rs := [1]) (by kernel_rfl) (by simp) ?_
  refine AllReadyH.cons rfl (fun KK hKK => ?_) AllReadyH.nil
  go_simp
  refine (HE.out _).mono ?_
  rintro e w2 ⟨rfl, hbA⟩
  go_wp2_with fail
  refine hKK.out _ _ (⟨hHeld.1.keep hbA, hHeld.2.1.keep hbA, hHeld.2.2.1.keep hbA, hHeld.2.2.2.trans (hbA.mono hHeld.2.2.2.size)⟩) (fun _ => ?_)
  clear hKK KK hHeld; rename_i hHeld
  try simp only [Act.put, List.getElem_toArray, List.getElem_cons_succ, List.getElem_cons_zero, List.setIfInBounds_toArray, List.set_cons_zero, List.set_cons_succ]
  refine wpAnyH_take (i := 2) (v := ?_) rfl (by kernel_rfl) (by kernel_rfl) (by kernel_rfl) (fun _ _ _ h => h) (Or.inl ⟨by rfl, ?_⟩) (by assumption) ?_
  rotate_left
  · (intro W2 hSw; go_simp; (try with_reducible rfl))
  try simp only [Act.put, List.getElem_toArray, List.getElem_cons_succ, List.getElem_cons_zero, List.setIfInBounds_toArray, List.set_cons_zero, List.set_cons_succ]
  refine wpAnyH_take (i := 3) (v := ?_) rfl (by kernel_rfl) (by kernel_rfl) (by kernel_rfl) (fun _ _ _ h => h) (Or.inl ⟨by rfl, ?_⟩) (by assumption) ?_
  rotate_left
  · (intro W2 hSw; go_simp; (try with_reducible rfl))
  try simp only [Act.put, List.getElem_toArray, List.getElem_cons_succ, List.getElem_cons_zero, List.setIfInBounds_toArray, List.set_cons_zero, List.set_cons_succ]
  refine wpAnyH_take (i := 4) (v := undef) rfl (by kernel_rfl) (by kernel_rfl) (by kernel_rfl) (fun _ _ _ h => h) (Or.inr ⟨by rfl, rfl⟩) (by assumption) ?_
  try simp only [Act.put, List.getElem_toArray, List.getElem_cons_succ, List.getElem_cons_zero, List.setIfInBounds_toArray, List.set_cons_zero, List.set_cons_succ]
  refine wpAnyH_take (i := 5) (v := undef) rfl (by kernel_rfl) (by kernel_rfl) (by kernel_rfl) (fun _ _ _ h => h) (Or.inr ⟨by rfl, rfl⟩) (by assumption) ?_
  try simp only [Act.put, List.getElem_toArray, List.getElem_cons_succ, List.getElem_cons_zero, List.setIfInBounds_toArray, List.set_cons_zero, List.set_cons_succ]
  refine wpAnyH_take (i := 6) (v := undef) rfl (by kernel_rfl) (by kernel_rfl) (by kernel_rfl) (fun _ _ _ h => h) (Or.inr ⟨by rfl, rfl⟩) (by assumption) ?_
  try simp only [Act.put, List.getElem_toArray, List.getElem_cons_succ, List.getElem_cons_zero, List.setIfInBounds_toArray, List.set_cons_zero, List.set_cons_succ]
  refine wpAnyH_take (i := 7) (v := undef) rfl (by kernel_rfl) (by kernel_rfl) (by kernel_rfl) (fun _ _ _ h => h) (Or.inr ⟨by rfl, rfl⟩) (by assumption) ?_
  try simp only [Act.put, List.getElem_toArray, List.getElem_cons_succ, List.getElem_cons_zero, List.setIfInBounds_toArray, List.set_cons_zero, List.set_cons_succ]
  refine wpAnyH_take (i := 8) (v := undef) rfl (by kernel_rfl) (by kernel_rfl) (by kernel_rfl) (fun _ _ _ h => h) (Or.inr ⟨by rfl, rfl⟩) (by assumption) ?_
  try simp only [Act.put, List.getElem_toArray, List.getElem_cons_succ, List.getElem_cons_zero, List.setIfInBounds_toArray, List.set_cons_zero, List.set_cons_succ]
  refine wpAnyH_take (i := 9) (v := undef) rfl (by kernel_rfl) (by kernel_rfl) (by kernel_rfl) (fun _ _ _ h => h) (Or.inr ⟨by rfl, rfl⟩) (by assumption) ?_
  try simp only [Act.put, List.getElem_toArray, List.getElem_cons_succ, List.getElem_cons_zero, List.setIfInBounds_toArray, List.set_cons_zero, List.set_cons_succ]
  refine wpAnyH_take (i := 10) (v := undef) rfl (by kernel_rfl) (by kernel_rfl) (by kernel_rfl) (fun _ _ _ h => h) (Or.inr ⟨by rfl, rfl⟩) (by assumption) ?_
  try simp only [Act.put, List.getElem_toArray, List.getElem_cons_succ, List.getElem_cons_zero, List.setIfInBounds_toArray, List.set_cons_zero, List.set_cons_succ]
  refine wpAnyH_take (i := 11) (v := ?_) rfl (by kernel_rfl) (by kernel_rfl) (by kernel_rfl) (fun _ _ _ h => h) (Or.inl ⟨by rfl, ?_⟩) (by assumption) ?_
  rotate_left
  · (intro W2 hSw; go_simp; (try with_reducible rfl))
  try simp only [Act.put, List.getElem_toArray, List.getElem_cons_succ, List.getElem_cons_zero, List.setIfInBounds_toArray, List.set_cons_zero, List.set_cons_succ]
  refine wpAnyH_done (by kernel_rfl) ?_ _
  clear LB1 LR1 LG0_1 LG1_1
  have LG0_2 := Lib.hid hHeld.1
  have LG1_2 := Lib.hid hHeld.2.1
  have LR2 := Lib.hid hHeld.2.2.1
  have LB2 := Lib.hid hHeld.2.2.2
  clear hHeld hbA HE o12
  have q0_0 : _ = some (.float .f64 P1 : Value) := LG0_2.out.cell 0
  have q0_1 : _ = some (.float .f64 Q1 : Value) := LG0_2.out.cell 1
  have q1_0 : _ = some (.float .f64 P2 : Value) := LG1_2.out.cell 0
  have q1_1 : _ = some (.float .f64 Q2 : Value) := LG1_2.out.cell 1
  go_wp2_with fail
  refine (KC1.out _).mono ?_
  rintro e w4 ⟨rfl, hb4⟩
  have LB3 := Lib.hid (LB2.out.trans (hb4.mono LB2.out.size))
  have LR3 := Lib.hid (LR2.out.keep hb4)
  have LG0_3 := Lib.hid (LG0_2.out.keep hb4)
  have LG1_3 := Lib.hid (LG1_2.out.keep hb4)
  clear LB2 LR2 LG0_2 LG1_2
  clear hb4 q0_0 q0_1 q1_0 q1_1
  have q0_0 : _ = some (.float .f64 P1 : Value) := LG0_3.out.cell 0
  have q0_1 : _ = some (.float .f64 Q1 : Value) := LG0_3.out.cell 1
  have q1_0 : _ = some (.float .f64 P2 : Value) := LG1_3.out.cell 0
  have q1_1 : _ = some (.float .f64 Q2 : Value) := LG1_3.out.cell 1
  go_wp2_with fail
  refine (KC2.out _).mono ?_
  rintro e w5 ⟨rfl, hb5⟩
  have LB4 := Lib.hid (LB3.out.trans (hb5.mono LB3.out.size))
  have LR4 := Lib.hid (LR3.out.keep hb5)
  have LG0_4 := Lib.hid (LG0_3.out.keep hb5)
  have LG1_4 := Lib.hid (LG1_3.out.keep hb5)
  clear LB3 LR3 LG0_3 LG1_3
  clear hb5 q0_0 q0_1 q1_0 q1_1
  have q0_0 : _ = some (.float .f64 P1 : Value) := LG0_4.out.cell 0
  have q0_1 : _ = some (.float .f64 Q1 : Value) := LG0_4.out.cell 1
  have q1_0 : _ = some (.float .f64 P2 : Value) := LG1_4.out.cell 0
  have q1_1 : _ = some (.float .f64 Q2 : Value) := LG1_4.out.cell 1
  go_wp2_with fail
  clear q0_0 q0_1 q1_0 q1_1
  refine wp_region_held_drew (S := fun W' => Blk W' w.heap.size 29 #[.float .f64 P1, .float .f64 Q1] ∧ Blk W' (w.heap.size + 1) 29 #[.float .f64 P2, .float .f64 Q2] ∧ HasBlk W' (w.heap.size + 2) 29 2 ∧ Below w.heap.size w W') (by kernel_rfl) (by exact ⟨LG0_4.out.drew, LG1_4.out.drew, LR4.out.drew, LB4.out.drew⟩) (fun hHeld => ?_)
  refine wpAnyH_take (i := 0) (v := ?_) rfl (by kernel_rfl) (by kernel_rfl) (by kernel_rfl) (fun _ _ _ h => h) (Or.inl ⟨by rfl, ?_⟩) (by assumption) ?_
  rotate_left
  · (intro W2 hSw; go_simp; (try with_reducible rfl))
  try simp only [Act.put, List.getElem_toArray, List.getElem_cons_succ, List.getElem_cons_zero, List.setIfInBounds_toArray, List.set_cons_zero, List.set_cons_succ]
  refine wpAnyH_take (i := 1) (v := ?_) rfl (by kernel_rfl) (by kernel_rfl) (by kernel_rfl) (fun _ _ _ h => h) (Or.inl ⟨by rfl, ?_⟩) (by assumption) ?_
  rotate_left
  · (intro W2 hSw; (try dsimp only at hSw); have q0 : _ = some (.float .f64 P1 : Value) := hSw.1.cell 0; have q1 : _ = some (.float .f64 Q1 : Value) := hSw.1.cell 1; go_simp; (try with_reducible rfl))
  try simp only [Act.put, List.getElem_toArray, List.getElem_cons_succ, List.getElem_cons_zero, List.setIfInBounds_toArray, List.set_cons_zero, List.set_cons_succ]
  refine wpAnyH_take (i := 2) (v := ?_) rfl (by kernel_rfl) (by kernel_rfl) (by kernel_rfl) (fun _ _ _ h => h) (Or.inl ⟨by rfl, ?_⟩) (by assumption) ?_
  rotate_left
  · (intro W2 hSw; go_simp; (try with_reducible rfl))
  try simp only [Act.put, List.getElem_toArray, List.getElem_cons_succ, List.getElem_cons_zero, List.setIfInBounds_toArray, List.set_cons_zero, List.set_cons_succ]
  refine wpAnyH_take (i := 3) (v := ?_) rfl (by kernel_rfl) (by kernel_rfl) (by kernel_rfl) (fun _ _ _ h => h) (Or.inl ⟨by rfl, ?_⟩) (by assumption) ?_
  rotate_left
  · (intro W2 hSw; (try dsimp only at hSw); have q0 : _ = some (.float .f64 P1 : Value) := hSw.1.cell 0; have q1 : _ = some (.float .f64 Q1 : Value) := hSw.1.cell 1; go_simp; (try with_reducible rfl))
  try simp only [Act.put, List.getElem_toArray, List.getElem_cons_succ, List.getElem_cons_zero, List.setIfInBounds_toArray, List.set_cons_zero, List.set_cons_succ]
  refine wpAnyH_take (i := 5) (v := ?_) rfl (by kernel_rfl) (by kernel_rfl) (by kernel_rfl) (fun _ _ _ h => h) (Or.inl ⟨by rfl, ?_⟩) (by assumption) ?_
  rotate_left
  · (intro W2 hSw; go_simp; (try with_reducible rfl))
  try simp only [Act.put, List.getElem_toArray, List.getElem_cons_succ, List.getElem_cons_zero, List.setIfInBounds_toArray, List.set_cons_zero, List.set_cons_succ]
  refine wpAnyH_take (i := 6) (v := ?_) rfl (by kernel_rfl) (by kernel_rfl) (by kernel_rfl) (fun _ _ _ h => h) (Or.inl ⟨by rfl, ?_⟩) (by assumption) ?_
  rotate_left
  · (intro W2 hSw; (try dsimp only at hSw); have q0 : _ = some (.float .f64 P2 : Value) := hSw.2.1.cell 0; have q1 : _ = some (.float .f64 Q2 : Value) := hSw.2.1.cell 1; go_simp; (try with_reducible rfl))
  try simp only [Act.put, List.getElem_toArray, List.getElem_cons_succ, List.getElem_cons_zero, List.setIfInBounds_toArray, List.set_cons_zero, List.set_cons_succ]
  refine wpAnyH_take (i := 7) (v := ?_) rfl (by kernel_rfl) (by kernel_rfl) (by kernel_rfl) (fun _ _ _ h => h) (Or.inl ⟨by rfl, ?_⟩) (by assumption) ?_
  rotate_left
  · (intro W2 hSw; go_simp; (try with_reducible rfl))
  try simp only [Act.put, List.getElem_toArray, List.getElem_cons_succ, List.getElem_cons_zero, List.setIfInBounds_toArray, List.set_cons_zero, List.set_cons_succ]
  refine wpAnyH_take (i := 8) (v := ?_) rfl (by kernel_rfl) (by kernel_rfl) (by kernel_rfl) (fun _ _ _ h => h) (Or.inl ⟨by rfl, ?_⟩) (by assumption) ?_
  rotate_left
  · (intro W2 hSw; (try dsimp only at hSw); have q0 : _ = some (.float .f64 P2 : Value) := hSw.2.1.cell 0; have q1 : _ = some (.float .f64 Q2 : Value) := hSw.2.1.cell 1; go_simp; (try with_reducible rfl))
  try simp only [Act.put, List.getElem_toArray, List.getElem_cons_succ, List.getElem_cons_zero, List.setIfInBounds_toArray, List.set_cons_zero, List.set_cons_succ]
  refine wpAnyH_ready (rs := [4]) (by kernel_rfl) (by simp) ?_
  refine AllReadyH.cons rfl (fun KK hKK => ?_) AllReadyH.nil
  go_simp
  refine (KL1.out _).mono ?_
  rintro e w6 ⟨n1, A1, k1, y1, S1, e1, rfl, hu1, hbF, hl1, hlo1, hhi1, hv1⟩
  go_wp2_with fail
  refine hKK.out _ _ (⟨hHeld.1.keep hbF, hHeld.2.1.keep hbF, hHeld.2.2.1.keep hbF, hHeld.2.2.2.trans (hbF.mono hHeld.2.2.2.size)⟩) (fun _ => ?_)
  clear hKK KK hHeld; rename_i hHeld
  try simp only [Act.put, List.getElem_toArray, List.getElem_cons_succ, List.getElem_cons_zero, List.setIfInBounds_toArray, List.set_cons_zero, List.set_cons_succ]
  refine wpAnyH_ready (rs := [9]) (by kernel_rfl) (by simp) ?_
  refine AllReadyH.cons rfl (fun KK hKK => ?_) AllReadyH.nil
  go_simp
  refine (KL2.out _).mono ?_
  rintro e w7 ⟨n2, A2, k2, y2, S2, e2, rfl, hu2, hbG, hl2, hlo2, hhi2, hv2⟩
  go_wp2_with fail
  refine hKK.out _ _ (⟨hHeld.1.keep hbG, hHeld.2.1.keep hbG, hHeld.2.2.1.keep hbG, hHeld.2.2.2.trans (hbG.mono hHeld.2.2.2.size)⟩) (fun _ => ?_)
  clear hKK KK hHeld; rename_i hHeld
  try simp only [Act.put, List.getElem_toArray, List.getElem_cons_succ, List.getElem_cons_zero, List.setIfInBounds_toArray, List.set_cons_zero, List.set_cons_succ]
  refine wpAnyH_ready (rs := [10]) (by kernel_rfl) (by simp) ?_
  refine AllReadyH.cons rfl (fun KK hKK => ?_) AllReadyH.nil
  go_simp
  refine (HA.out n1 A1 k1 y1 S1 e1 n2 A2 k2 y2 S2 e2 _ (hu1.below hbG) hu2 hl1 hl2 hlo1 hhi1 hlo2 hhi2 hv1 hv2).mono ?_
  rintro e w8 ⟨PP, QQ, EE, A3, k3, y3, A4, k4, y4, rfl, hp, hq, hpq, hbH⟩
  go_wp2_with fail
  refine hKK.out _ _ (⟨hHeld.1.keep hbH, hHeld.2.1.keep hbH, hHeld.2.2.1.keep hbH, hHeld.2.2.2.trans (hbH.mono hHeld.2.2.2.size)⟩) (fun _ => ?_)
  clear hKK KK hHeld; rename_i hHeld
  try simp only [Act.put, List.getElem_toArray, List.getElem_cons_succ, List.getElem_cons_zero, List.setIfInBounds_toArray, List.set_cons_zero, List.set_cons_succ]
  refine wpAnyH_take (i := 11) (v := ?_) rfl (by kernel_rfl) (by kernel_rfl) (by kernel_rfl) (fun _ _ _ h => h) (Or.inl ⟨by rfl, ?_⟩) (by assumption) ?_
  rotate_left
  · (intro W2 hSw; go_simp; (try with_reducible rfl))
  try simp only [Act.put, List.getElem_toArray, List.getElem_cons_succ, List.getElem_cons_zero, List.setIfInBounds_toArray, List.set_cons_zero, List.set_cons_succ]
  refine wpAnyH_take (i := 12) (v := ?_) rfl (by kernel_rfl) (by kernel_rfl) (by kernel_rfl) (fun _ _ _ h => h) (Or.inl ⟨by rfl, ?_⟩) (by assumption) ?_
  rotate_left
  · (intro W2 hSw; go_simp; (try with_reducible rfl))
  try simp only [Act.put, List.getElem_toArray, List.getElem_cons_succ, List.getElem_cons_zero, List.setIfInBounds_toArray, List.set_cons_zero, List.set_cons_succ]
  refine wpAnyH_take (i := 13) (v := ?_) rfl (by kernel_rfl) (by kernel_rfl) (by kernel_rfl) (fun _ _ _ h => h) (Or.inl ⟨by rfl, ?_⟩) (by assumption) ?_
  rotate_left
  · (intro W2 hSw; go_simp; (try with_reducible rfl))
  try simp only [Act.put, List.getElem_toArray, List.getElem_cons_succ, List.getElem_cons_zero, List.setIfInBounds_toArray, List.set_cons_zero, List.set_cons_succ]
  refine wpAnyH_take (i := 14) (v := ?_) rfl (by kernel_rfl) (by kernel_rfl) (by kernel_rfl) (fun _ _ _ h => h) (Or.inl ⟨by rfl, ?_⟩) (by assumption) ?_
  rotate_left
  · (intro W2 hSw; go_simp; (try with_reducible rfl))
  try simp only [Act.put, List.getElem_toArray, List.getElem_cons_succ, List.getElem_cons_zero, List.setIfInBounds_toArray, List.set_cons_zero, List.set_cons_succ]
  refine wpAnyH_take (i := 15) (v := ?_) rfl (by kernel_rfl) (by kernel_rfl) (by kernel_rfl) (fun _ _ _ h => h) (Or.inl ⟨by rfl, ?_⟩) (by assumption) ?_
  rotate_left
  · (intro W2 hSw; go_simp; (try with_reducible rfl))
  try simp only [Act.put, List.getElem_toArray, List.getElem_cons_succ, List.getElem_cons_zero, List.setIfInBounds_toArray, List.set_cons_zero, List.set_cons_succ]
  refine wpAnyH_take (i := 16) (v := ?_) rfl (by kernel_rfl) (by kernel_rfl) (by kernel_rfl) (fun _ _ _ h => h) (Or.inl ⟨by rfl, ?_⟩) (by assumption) ?_
  rotate_left
  · (intro W2 hSw; go_simp; (try with_reducible rfl))
  try simp only [Act.put, List.getElem_toArray, List.getElem_cons_succ, List.getElem_cons_zero, List.setIfInBounds_toArray, List.set_cons_zero, List.set_cons_succ]
  refine wpAnyH_take (i := 17) (v := ?_) rfl (by kernel_rfl) (by kernel_rfl) (by kernel_rfl) (fun _ _ _ h => h) (Or.inl ⟨by rfl, ?_⟩) (by assumption) ?_
  rotate_left
  · (intro W2 hSw; go_simp; (try with_reducible rfl))
  try simp only [Act.put, List.getElem_toArray, List.getElem_cons_succ, List.getElem_cons_zero, List.setIfInBounds_toArray, List.set_cons_zero, List.set_cons_succ]
  refine wpAnyH_done (by kernel_rfl) ?_ _
  clear LB4 LR4 LG0_4 LG1_4
  have HPP := Lib.hid hp
  have HQQ := Lib.hid hq
  have hcc : 0 ≤ cmp3 PP QQ := by exact cmp3_nonneg.2 (by have := hpq.1; have := H3.out; by_cases hh : PP < QQ; exact absurd (hpq.1 hh) H3.out; omega)
  have HC2 := Lib.hid (fun W (hW : Below w8.heap.size w8 W) => HC.out W A3 k3 y3 A4 k4 y4 PP QQ (HPP.out.below hW) (HQQ.out.below hW))
  obtain ⟨cc, ecc⟩ : ∃ z, cmp3 PP QQ = z := ⟨_, rfl⟩
  rw [ecc] at hcc HC2
  clear ecc hp hq hpq H3 HC HPP HQQ hu1 hl1 hlo1 hhi1 hv1 hu2 hl2 hlo2 hhi2 hv2 KL1 KL2 HA
  have LG0_5 := Lib.hid hHeld.1
  have LG1_5 := Lib.hid hHeld.2.1
  have LR5 := Lib.hid hHeld.2.2.1
  have LB5 := Lib.hid hHeld.2.2.2
  clear hHeld hbF hbG hbH
  have q0_0 : _ = some (.float .f64 P1 : Value) := LG0_5.out.cell 0
  have q0_1 : _ = some (.float .f64 Q1 : Value) := LG0_5.out.cell 1
  have q1_0 : _ = some (.float .f64 P2 : Value) := LG1_5.out.cell 0
  have q1_1 : _ = some (.float .f64 Q2 : Value) := LG1_5.out.cell 1
  go_wp2_with fail
  refine (HC2.out _ (Below.refl _ _)).mono ?_
  rintro e w9 ⟨rfl, hb9⟩
  have LB6 := Lib.hid (LB5.out.trans (hb9.mono LB5.out.size))
  have LR6 := Lib.hid (LR5.out.keep hb9)
  have LG0_6 := Lib.hid (LG0_5.out.keep hb9)
  have LG1_6 := Lib.hid (LG1_5.out.keep hb9)
  clear LB5 LR5 LG0_5 LG1_5
  clear hb9 HC2 q0_0 q0_1 q1_0 q1_1
  go_wp2_with fail
  clear hcc
  refine wp_region_held_drew (S := fun W' => Blk W' w.heap.size 29 #[.float .f64 P1, .float .f64 Q1] ∧ Blk W' (w.heap.size + 1) 29 #[.float .f64 P2, .float .f64 Q2] ∧ HasBlk W' (w.heap.size + 2) 29 2 ∧ Below w.heap.size w W') (by kernel_rfl) (by exact ⟨LG0_6.out.drew, LG1_6.out.drew, LR6.out.drew, LB6.out.drew⟩) (fun hHeld => ?_)
  refine wpAnyH_take (i := 0) (v := ?_) rfl (by kernel_rfl) (by kernel_rfl) (by kernel_rfl) (fun _ _ _ h => h) (Or.inl ⟨by rfl, ?_⟩) (by assumption) ?_
  rotate_left
  · (intro W2 hSw; go_simp; (try with_reducible rfl))
  try simp only [Act.put, List.getElem_toArray, List.getElem_cons_succ, List.getElem_cons_zero, List.setIfInBounds_toArray, List.set_cons_zero, List.set_cons_succ]
  refine wpAnyH_take (i := 1) (v := ?_) rfl (by kernel_rfl) (by kernel_rfl) (by kernel_rfl) (fun _ _ _ h => h) (Or.inl ⟨by rfl, ?_⟩) (by assumption) ?_
  rotate_left
  · (intro W2 hSw; (try dsimp only at hSw); have q0 : _ = some (.float .f64 P1 : Value) := hSw.1.cell 0; have q1 : _ = some (.float .f64 Q1 : Value) := hSw.1.cell 1; go_simp; (try with_reducible rfl))
  try simp only [Act.put, List.getElem_toArray, List.getElem_cons_succ, List.getElem_cons_zero, List.setIfInBounds_toArray, List.set_cons_zero, List.set_cons_succ]
  refine wpAnyH_take (i := 2) (v := ?_) rfl (by kernel_rfl) (by kernel_rfl) (by kernel_rfl) (fun _ _ _ h => h) (Or.inl ⟨by rfl, ?_⟩) (by assumption) ?_
  rotate_left
  · (intro W2 hSw; go_simp; (try with_reducible rfl))
  try simp only [Act.put, List.getElem_toArray, List.getElem_cons_succ, List.getElem_cons_zero, List.setIfInBounds_toArray, List.set_cons_zero, List.set_cons_succ]
  refine wpAnyH_take (i := 3) (v := ?_) rfl (by kernel_rfl) (by kernel_rfl) (by kernel_rfl) (fun _ _ _ h => h) (Or.inl ⟨by rfl, ?_⟩) (by assumption) ?_
  rotate_left
  · (intro W2 hSw; (try dsimp only at hSw); have q0 : _ = some (.float .f64 P2 : Value) := hSw.2.1.cell 0; have q1 : _ = some (.float .f64 Q2 : Value) := hSw.2.1.cell 1; go_simp; (try with_reducible rfl))
  try simp only [Act.put, List.getElem_toArray, List.getElem_cons_succ, List.getElem_cons_zero, List.setIfInBounds_toArray, List.set_cons_zero, List.set_cons_succ]
  refine wpAnyH_take (i := 5) (v := ?_) rfl (by kernel_rfl) (by kernel_rfl) (by kernel_rfl) (fun _ _ _ h => h) (Or.inl ⟨by rfl, ?_⟩) (by assumption) ?_
  rotate_left
  · (intro W2 hSw; go_simp; (try with_reducible rfl))
  try simp only [Act.put, List.getElem_toArray, List.getElem_cons_succ, List.getElem_cons_zero, List.setIfInBounds_toArray, List.set_cons_zero, List.set_cons_succ]
  refine wpAnyH_take (i := 6) (v := ?_) rfl (by kernel_rfl) (by kernel_rfl) (by kernel_rfl) (fun _ _ _ h => h) (Or.inl ⟨by rfl, ?_⟩) (by assumption) ?_
  rotate_left
  · (intro W2 hSw; (try dsimp only at hSw); have q0 : _ = some (.float .f64 P1 : Value) := hSw.1.cell 0; have q1 : _ = some (.float .f64 Q1 : Value) := hSw.1.cell 1; go_simp; (try with_reducible rfl))
  try simp only [Act.put, List.getElem_toArray, List.getElem_cons_succ, List.getElem_cons_zero, List.setIfInBounds_toArray, List.set_cons_zero, List.set_cons_succ]
  refine wpAnyH_take (i := 7) (v := ?_) rfl (by kernel_rfl) (by kernel_rfl) (by kernel_rfl) (fun _ _ _ h => h) (Or.inl ⟨by rfl, ?_⟩) (by assumption) ?_
  rotate_left
  · (intro W2 hSw; go_simp; (try with_reducible rfl))
  try simp only [Act.put, List.getElem_toArray, List.getElem_cons_succ, List.getElem_cons_zero, List.setIfInBounds_toArray, List.set_cons_zero, List.set_cons_succ]
  refine wpAnyH_take (i := 8) (v := ?_) rfl (by kernel_rfl) (by kernel_rfl) (by kernel_rfl) (fun _ _ _ h => h) (Or.inl ⟨by rfl, ?_⟩) (by assumption) ?_
  rotate_left
  · (intro W2 hSw; (try dsimp only at hSw); have q0 : _ = some (.float .f64 P2 : Value) := hSw.2.1.cell 0; have q1 : _ = some (.float .f64 Q2 : Value) := hSw.2.1.cell 1; go_simp; (try with_reducible rfl))
  try simp only [Act.put, List.getElem_toArray, List.getElem_cons_succ, List.getElem_cons_zero, List.setIfInBounds_toArray, List.set_cons_zero, List.set_cons_succ]
  refine wpAnyH_ready (rs := [4]) (by kernel_rfl) (by simp) ?_
  refine AllReadyH.cons rfl (fun KK hKK => ?_) AllReadyH.nil
  go_simp
  refine (KS1.out _).mono ?_
  rintro e w10 ⟨rfl, hbI⟩
  go_wp2_with fail
  refine hKK.out _ _ (⟨hHeld.1.keep hbI, hHeld.2.1.keep hbI, hHeld.2.2.1.keep hbI, hHeld.2.2.2.trans (hbI.mono hHeld.2.2.2.size)⟩) (fun _ => ?_)
  clear hKK KK hHeld; rename_i hHeld
  try simp only [Act.put, List.getElem_toArray, List.getElem_cons_succ, List.getElem_cons_zero, List.setIfInBounds_toArray, List.set_cons_zero, List.set_cons_succ]
  refine wpAnyH_ready (rs := [9]) (by kernel_rfl) (by simp) ?_
  refine AllReadyH.cons rfl (fun KK hKK => ?_) AllReadyH.nil
  go_simp
  refine (KS2.out _).mono ?_
  rintro e w11 ⟨rfl, hbJ⟩
  go_wp2_with fail
  refine hKK.out _ _ (⟨hHeld.1.keep hbJ, hHeld.2.1.keep hbJ, hHeld.2.2.1.keep hbJ, hHeld.2.2.2.trans (hbJ.mono hHeld.2.2.2.size)⟩) (fun _ => ?_)
  clear hKK KK hHeld; rename_i hHeld
  try simp only [Act.put, List.getElem_toArray, List.getElem_cons_succ, List.getElem_cons_zero, List.setIfInBounds_toArray, List.set_cons_zero, List.set_cons_succ]
  refine wpAnyH_take (i := 10) (v := ?_) rfl (by kernel_rfl) (by kernel_rfl) (by kernel_rfl) (fun _ _ _ h => h) (Or.inl ⟨by rfl, ?_⟩) (by assumption) ?_
  rotate_left
  · (intro W2 hSw; go_simp; (try with_reducible rfl))
  try simp only [Act.put, List.getElem_toArray, List.getElem_cons_succ, List.getElem_cons_zero, List.setIfInBounds_toArray, List.set_cons_zero, List.set_cons_succ]
  refine wpAnyH_ready (rs := [11]) (by kernel_rfl) (by simp) ?_
  refine AllReadyH.cons rfl (fun KK hKK => ?_) AllReadyH.nil
  have ha0 := hHeld.2.2.1.someCell 0 (by decide); have hf0 := hHeld.2.2.1.frozen 0; have ha1 := hHeld.2.2.1.someCell 1 (by decide); have hf1 := hHeld.2.2.1.frozen 1; have HK := Lib.hid (hHeld.2.2.1.setCell [.float .f64 z1, .float .f64 z2] rfl); have F := Lib.hid (below_sets (w0 := w) (r := (w.heap.size + 2)) (by omega) [.float .f64 z1, .float .f64 z2] 0 _ hHeld.2.2.2)
  go_simp
  refine hKK.out _ _ (⟨hHeld.1.other (by omega) 0 [.float .f64 z1, .float .f64 z2], hHeld.2.1.other (by omega) 0 [.float .f64 z1, .float .f64 z2], hHeld.2.2.1.sets [.float .f64 z1, .float .f64 z2] rfl rfl, below_sets (by omega) [.float .f64 z1, .float .f64 z2] 0 _ hHeld.2.2.2⟩) (fun _ => ?_)
  clear hKK KK hHeld; rename_i hHeld
  try simp only [Act.put, List.getElem_toArray, List.getElem_cons_succ, List.getElem_cons_zero, List.setIfInBounds_toArray, List.set_cons_zero, List.set_cons_succ]
  refine wpAnyH_done (by kernel_rfl) ?_ _
  have hk0 := HK.out 0 (by decide)
  have hk1 := HK.out 1 (by decide)
  simp [sets] at hk0 hk1
  clear hHeld HK hbI hbJ
  clear LB6 LR6 LG0_6 LG1_6
  go_wp2
  refine bodyPost_ret (v := .agg #[.float .f64 z1, .float .f64 z2]) (by simp [results, Tryz.results19, go_sem, hk0, hk1]) rfl ?_
  exact ⟨rfl, F.out⟩

theorem cancel_any (b1 b2 c1 c2 : Nat) (w : World) (hb1 : b1 < 18446744073709551616) (hb2 : b2 < 18446744073709551616) (hc1 : c1 < 18446744073709551616) (hc2 : c2 < 18446744073709551616) :
    Calls Tryz.prog 19 #[.agg #[.float .f64 b1, .float .f64 b2], .agg #[.float .f64 c1, .float .f64 c2]] w fun e w' => e = .returned (.agg #[.float .f64 (pat (cmf (rd b1 b2).1 (rd b1 b2).2 (rd c1 c2).1 (rd c1 c2).2).1), .float .f64 (pat (cmf (rd b1 b2).1 (rd b1 b2).2 (rd c1 c2).1 (rd c1 c2).2).2)]) ∧ Below w.heap.size w w' := by
  unfold cmf
  by_cases a : (rd b1 b2).2 < (rd b1 b2).1
  · by_cases b : (rd c1 c2).2 < (rd c1 c2).1
    · rw [if_pos ⟨a, .inl b⟩]; exact cancel_A1 b1 b2 c1 c2 _ _ _ _ w hb1 hb2 hc1 hc2 rfl rfl a b
    · cases c : com (rd c1 c2).1 (rd c1 c2).2
      · rw [if_neg (by rintro ⟨-, h | h⟩; exact b h; cases h), if_pos (.inr rfl)]; exact cancel_B0 b1 b2 c1 c2 _ _ _ _ w hb1 hb2 hc1 hc2 rfl rfl a b c
      · rw [if_pos ⟨a, .inr rfl⟩]; exact cancel_A2 b1 b2 c1 c2 _ _ _ _ w hb1 hb2 hc1 hc2 rfl rfl a c
  · rw [if_neg (fun h => a h.1)]
    cases c1' : com (rd b1 b2).1 (rd b1 b2).2
    · rw [if_pos (.inl rfl)]; exact cancel_B1 b1 b2 c1 c2 _ _ _ _ w hb1 hb2 hc1 hc2 rfl rfl a c1'
    · cases c2' : com (rd c1 c2).1 (rd c1 c2).2
      · rw [if_pos (.inr rfl)]; exact cancel_B2 b1 b2 c1 c2 _ _ _ _ w hb1 hb2 hc1 hc2 rfl rfl c1' c2'
      · rw [if_neg (by simp)]
        by_cases d : fl (rd b1 b2).2 - fl (rd b1 b2).1 < fl (rd c1 c2).2 - fl (rd c1 c2).1
        · rw [if_pos d]; exact cancel_C b1 b2 c1 c2 _ _ _ _ w hb1 hb2 hc1 hc2 rfl rfl c1' c2' d
        · rw [if_neg d]; exact cancel_D b1 b2 c1 c2 _ _ _ _ w hb1 hb2 hc1 hc2 rfl rfl c1' c2' d
theorem cancel_idx (b1 b2 : Nat) (i2 j2 : Int) (w : World) (hb1 : b1 < 18446744073709551616) (hb2 : b2 < 18446744073709551616) (h : Iv i2 j2) :
    Calls Tryz.prog 19 #[.agg #[.float .f64 b1, .float .f64 b2], .agg #[.float .f64 (pat i2), .float .f64 (pat j2)]] w fun e w' => e = .returned (.agg #[.float .f64 (pat (cmf (rd b1 b2).1 (rd b1 b2).2 i2 j2).1), .float .f64 (pat (cmf (rd b1 b2).1 (rd b1 b2).2 i2 j2).2)]) ∧ Below w.heap.size w w' := by
  have h2 := cancel_any b1 b2 (pat i2) (pat j2) w hb1 hb2 (pat_lt h.lo.1 h.lo.2) (pat_lt h.hi.1 h.hi.2)
  rw [rd_pat h] at h2
  exact h2
set_option maxHeartbeats 6400000 in
theorem cancelp_any (b1 b2 c1 c2 : Nat) (w : World) (hb1 : b1 < 18446744073709551616) (hb2 : b2 < 18446744073709551616) (hc1 : c1 < 18446744073709551616) (hc2 : c2 < 18446744073709551616) :
    Calls Tryz.prog 21 #[.agg #[.float .f64 b1, .float .f64 b2], .agg #[.float .f64 c1, .float .f64 c2]] w fun e w' => e = .returned (.agg #[.float .f64 (pat (cmf (rd b1 b2).1 (rd b1 b2).2 (-(rd c1 c2).2) (-(rd c1 c2).1)).1), .float .f64 (pat (cmf (rd b1 b2).1 (rd b1 b2).2 (-(rd c1 c2).2) (-(rd c1 c2).1)).2)]) ∧ Below w.heap.size w w' := by
  have HN1 := Lib.hid fun W => mirrorf c1 c2 W hc1 hc2
  have HM := Lib.hid fun W => cancel_idx b1 b2 _ _ W hb1 hb2 (rd_iv c1 c2).negg
  obtain ⟨z1, hz1⟩ : ∃ z, pat (cmf (rd b1 b2).1 (rd b1 b2).2 (-(rd c1 c2).2) (-(rd c1 c2).1)).1 = z := ⟨_, rfl⟩
  obtain ⟨z2, hz2⟩ : ∃ z, pat (cmf (rd b1 b2).1 (rd b1 b2).2 (-(rd c1 c2).2) (-(rd c1 c2).1)).2 = z := ⟨_, rfl⟩
  obtain ⟨p1, e1⟩ : ∃ z, pat (-(rd c1 c2).2) = z := ⟨_, rfl⟩
  obtain ⟨p2, e2⟩ : ∃ z, pat (-(rd c1 c2).1) = z := ⟨_, rfl⟩
  rw [e1, e2] at HN1 HM
  simp only [hz1, hz2] at HM ⊢
  clear hz1 hz2 e1 e2
  have LB0 := Lib.hid (show Below w.heap.size w (((w.alloc (.cells #[.float .f64 b1, .float .f64 b2] 29)).alloc (.cells #[.float .f64 c1, .float .f64 c2] 29)).alloc (.cells #[.float .f64 0, .float .f64 0] 29)) from (((below_alloc w _).alloc (by simp <;> omega) _).alloc (by simp <;> omega) _))
  have LG0_0 := Lib.hid ((((Blk.at (W := w) (g := w.heap.size) (by simp <;> omega) 29 #[.float .f64 b1, .float .f64 b2]).alloc (.cells #[.float .f64 c1, .float .f64 c2] 29)).alloc (.cells #[.float .f64 0, .float .f64 0] 29)))
  have LG1_0 := Lib.hid (((Blk.at (W := (w.alloc (.cells #[.float .f64 b1, .float .f64 b2] 29))) (g := (w.heap.size + 1)) (by simp <;> omega) 29 #[.float .f64 c1, .float .f64 c2]).alloc (.cells #[.float .f64 0, .float .f64 0] 29)))
  have LR0 := Lib.hid (HasBlk.of (n := 2) (Blk.at (W := ((w.alloc (.cells #[.float .f64 b1, .float .f64 b2] 29)).alloc (.cells #[.float .f64 c1, .float .f64 c2] 29))) (g := (w.heap.size + 2)) (by simp <;> omega) 29 #[.float .f64 0, .float .f64 0]) rfl rfl)
  go_enter Tryz.func21, Tryz.ntmps21
  go_wp2_with fail
  refine wp_region_held_drew (S := fun W' => Blk W' w.heap.size 29 #[.float .f64 b1, .float .f64 b2] ∧ Blk W' (w.heap.size + 1) 29 #[.float .f64 c1, .float .f64 c2] ∧ HasBlk W' (w.heap.size + 2) 29 2 ∧ Below w.heap.size w W') (by kernel_rfl) (by exact ⟨LG0_0.out.drew, LG1_0.out.drew, LR0.out.drew, LB0.out.drew⟩) (fun hHeld => ?_)
  refine wpAnyH_take (i := 0) (v := ?_) rfl (by kernel_rfl) (by kernel_rfl) (by kernel_rfl) (fun _ _ _ h => h) (Or.inl ⟨by rfl, ?_⟩) (by assumption) ?_
  rotate_left
  · (intro W2 hSw; (try dsimp only at hSw); have q0 : _ = some (.float .f64 b1 : Value) := hSw.1.cell 0; have q1 : _ = some (.float .f64 b2 : Value) := hSw.1.cell 1; go_simp; (try with_reducible rfl))
  try simp only [Act.put, List.getElem_toArray, List.getElem_cons_succ, List.getElem_cons_zero, List.setIfInBounds_toArray, List.set_cons_zero, List.set_cons_succ]
  refine wpAnyH_take (i := 1) (v := ?_) rfl (by kernel_rfl) (by kernel_rfl) (by kernel_rfl) (fun _ _ _ h => h) (Or.inl ⟨by rfl, ?_⟩) (by assumption) ?_
  rotate_left
  · (intro W2 hSw; (try dsimp only at hSw); have q0 : _ = some (.float .f64 c1 : Value) := hSw.2.1.cell 0; have q1 : _ = some (.float .f64 c2 : Value) := hSw.2.1.cell 1; go_simp; (try with_reducible rfl))
  try simp only [Act.put, List.getElem_toArray, List.getElem_cons_succ, List.getElem_cons_zero, List.setIfInBounds_toArray, List.set_cons_zero, List.set_cons_succ]
  refine wpAnyH_ready (rs := [2]) (by kernel_rfl) (by simp) ?_
  refine AllReadyH.cons rfl (fun KK hKK => ?_) AllReadyH.nil
  go_simp
  refine (HN1.out _).mono ?_
  rintro e w1 ⟨rfl, hbA⟩
  go_wp2_with fail
  refine hKK.out _ _ (⟨hHeld.1.keep hbA, hHeld.2.1.keep hbA, hHeld.2.2.1.keep hbA, hHeld.2.2.2.trans (hbA.mono hHeld.2.2.2.size)⟩) (fun _ => ?_)
  clear hKK KK hHeld; rename_i hHeld
  try simp only [Act.put, List.getElem_toArray, List.getElem_cons_succ, List.getElem_cons_zero, List.setIfInBounds_toArray, List.set_cons_zero, List.set_cons_succ]
  refine wpAnyH_ready (rs := [3]) (by kernel_rfl) (by simp) ?_
  refine AllReadyH.cons rfl (fun KK hKK => ?_) AllReadyH.nil
  go_simp
  refine (HM.out _).mono ?_
  rintro e w3 ⟨rfl, hbC⟩
  go_wp2_with fail
  refine hKK.out _ _ (⟨hHeld.1.keep hbC, hHeld.2.1.keep hbC, hHeld.2.2.1.keep hbC, hHeld.2.2.2.trans (hbC.mono hHeld.2.2.2.size)⟩) (fun _ => ?_)
  clear hKK KK hHeld; rename_i hHeld
  try simp only [Act.put, List.getElem_toArray, List.getElem_cons_succ, List.getElem_cons_zero, List.setIfInBounds_toArray, List.set_cons_zero, List.set_cons_succ]
  refine wpAnyH_ready (rs := [4]) (by kernel_rfl) (by simp) ?_
  refine AllReadyH.cons rfl (fun KK hKK => ?_) AllReadyH.nil
  have ha0 := hHeld.2.2.1.someCell 0 (by decide); have hf0 := hHeld.2.2.1.frozen 0; have ha1 := hHeld.2.2.1.someCell 1 (by decide); have hf1 := hHeld.2.2.1.frozen 1; have HK := Lib.hid (hHeld.2.2.1.setCell [.float .f64 z1, .float .f64 z2] rfl); have F := Lib.hid (below_sets (w0 := w) (r := (w.heap.size + 2)) (by omega) [.float .f64 z1, .float .f64 z2] 0 _ hHeld.2.2.2)
  go_simp
  refine hKK.out _ _ (⟨hHeld.1.other (by omega) 0 [.float .f64 z1, .float .f64 z2], hHeld.2.1.other (by omega) 0 [.float .f64 z1, .float .f64 z2], hHeld.2.2.1.sets [.float .f64 z1, .float .f64 z2] rfl rfl, below_sets (by omega) [.float .f64 z1, .float .f64 z2] 0 _ hHeld.2.2.2⟩) (fun _ => ?_)
  clear hKK KK hHeld; rename_i hHeld
  try simp only [Act.put, List.getElem_toArray, List.getElem_cons_succ, List.getElem_cons_zero, List.setIfInBounds_toArray, List.set_cons_zero, List.set_cons_succ]
  refine wpAnyH_done (by kernel_rfl) ?_ _
  have hk0 := HK.out 0 (by decide)
  have hk1 := HK.out 1 (by decide)
  simp [sets] at hk0 hk1
  clear hHeld HK hbA hbC
  clear LB0 LR0 LG0_0 LG1_0
  go_wp2
  refine bodyPost_ret (v := .agg #[.float .f64 z1, .float .f64 z2]) (by simp [results, Tryz.results21, go_sem, hk0, hk1]) rfl ?_
  exact ⟨rfl, F.out⟩

end Go.Proofs.YtmjkmoahkanblaaGreat
