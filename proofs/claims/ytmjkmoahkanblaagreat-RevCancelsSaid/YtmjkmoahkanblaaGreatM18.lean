/-
Walks: package round: sum of any two, to; what they are worth.
Walks: package vergeref2, RAdd.
Walks: package vergeref10, numbers; package vergeref2, RSub.
-/
import Derived.Test.YtmjkmoahkanblaaGreatPPartT
import Derived.Test.YtmjkmoahkanblaaGreatPMinusT
import Derived.Test.YtmjkmoahkanblaaGreatM07
import Derived.Test.YtmjkmoahkanblaaGreatM08
import Derived.Test.YtmjkmoahkanblaaGreatPMathT
import Derived.Test.YtmjkmoahkanblaaGreatM04
set_option linter.unusedSimpArgs false
set_option linter.unusedVariables false

namespace Go.Proofs.YtmjkmoahkanblaaGreat
open Go.RowKit
attribute [local go_sem] run_store_float run_frombits run_bitsof run_negf

/-- The sum of two dyadics. -/
def dsF (n1 : Bool) (S1 : Nat) (e1 : Int) (n2 : Bool) (S2 : Nat) (e2 : Int) : Bool × Nat × Int :=
  if S1 = 0 then (n2, S2, e2) else if S2 = 0 then (n1, S1, e1)
  else if e2 < e1 then ((dsum n2 S2 n1 (S1 * 2^(e1 - e2).toNat)).1, (dsum n2 S2 n1 (S1 * 2^(e1 - e2).toNat)).2, e2)
  else ((dsum n1 S1 n2 (S2 * 2^(e2 - e1).toNat)).1, (dsum n1 S1 n2 (S2 * 2^(e2 - e1).toNat)).2, e1)

theorem sum_any (n1 : Bool) (A1 : Option Addr) (m1 c1 S1 : Nat) (e1 : Int) (n2 : Bool) (A2 : Option Addr) (m2 c2 S2 : Nat) (e2 : Int) (w : World) (h1 : U32s w A1 m1 c1 (digs S1)) (h2 : U32s w A2 m2 c2 (digs S2))
    (he1 : -1000000 ≤ e1 ∧ e1 ≤ 1000000) (he2 : -1000000 ≤ e2 ∧ e2 ≤ 1000000) (hb1 : (blen S1 : Int) + (e1 - e2).toNat ≤ 500000) (hb2 : (blen S2 : Int) + (e2 - e1).toNat ≤ 500000) :
    Calls Tryz.prog 183 #[.agg #[.bool n1, .slice A1 m1 c1, .int .i64 e1], .agg #[.bool n2, .slice A2 m2 c2, .int .i64 e2]] w (NewDy w (dsF n1 S1 e1 n2 S2 e2).1 (dsF n1 S1 e1 n2 S2 e2).2.1 (dsF n1 S1 e1 n2 S2 e2).2.2) := by
  unfold dsF
  by_cases h0 : S1 = 0
  · rw [if_pos h0]
    refine sum_left n1 A1 m1 c1 S1 e1 n2 A2 m2 c2 S2 e2 w h2 ?_
    rw [← h1.len, digs_length_eq_zero]; exact h0
  · rw [if_neg h0]
    have hp1 := digs_len_pos (S := S1) (by omega) h1.len
    by_cases h0' : S2 = 0
    · rw [if_pos h0']
      refine sum_right n1 A1 m1 c1 S1 e1 n2 A2 m2 c2 S2 e2 w h1 hp1 ?_
      rw [← h2.len, digs_length_eq_zero]; exact h0'
    · rw [if_neg h0']
      by_cases hlt : e2 < e1
      · rw [if_pos hlt]
        exact sum_swap n1 A1 m1 c1 S1 e1 n2 A2 m2 c2 S2 e2 (e1 - e2).toNat w h1 h2 (by omega) (by omega) hlt (by omega) he1 he2 (by omega) (by omega)
      · rw [if_neg hlt]
        exact sum_keep n1 A1 m1 c1 S1 e1 n2 A2 m2 c2 S2 e2 (e2 - e1).toNat w h1 h2 (by omega) (by omega) (by omega) (by omega) he1 he2 (by omega) (by omega)

theorem rv_int (n : Bool) (S : Nat) : rv n S 1 = ((if n then -(S : Int) else (S : Int) : Int) : Rat) := by
  unfold rv
  cases n
  · simp [Rat.div_def]
    rw [Rat.intCast_natCast]; grind
  · simp [Rat.div_def]
    rw [Rat.intCast_natCast]; grind
theorem dsum_val (n1 : Bool) (S1 : Nat) (n2 : Bool) (T2 : Nat) : rv (dsum n1 S1 n2 T2).1 (dsum n1 S1 n2 T2).2 1 = rv n1 S1 1 + rv n2 T2 1 := by
  rw [rv_int, rv_int, rv_int, ← Rat.intCast_add]
  congr 1
  unfold dsum
  by_cases h : n1 = n2
  · subst h
    rw [if_pos rfl]
    cases n1 <;> simp <;> omega
  · rw [if_neg h]
    by_cases hlt : S1 < T2
    · rw [if_pos hlt]
      cases n1 <;> cases n2 <;> simp at h ⊢ <;> omega
    · rw [if_neg hlt]
      cases n1 <;> cases n2 <;> simp at h ⊢ <;> omega
theorem rv_shift (n : Bool) (S k : Nat) (a b : Int) (h : b = a + k) : rv n (S * 2^k) 1 * 2^a = rv n S 1 * 2^b := by
  rw [h, zpow_add, zpow_nat, rv_int, rv_int]
  cases n
  · simp only [Bool.false_eq_true, if_false]
    rw [Rat.intCast_natCast, Rat.intCast_natCast, Rat.natCast_mul]; grind
  · simp only [if_true]
    rw [Rat.intCast_neg, Rat.intCast_neg, Rat.intCast_natCast, Rat.intCast_natCast, Rat.natCast_mul]; grind
theorem dsF_val (n1 : Bool) (S1 : Nat) (e1 : Int) (n2 : Bool) (S2 : Nat) (e2 : Int) :
    rv (dsF n1 S1 e1 n2 S2 e2).1 (dsF n1 S1 e1 n2 S2 e2).2.1 1 * 2^(dsF n1 S1 e1 n2 S2 e2).2.2 = rv n1 S1 1 * 2^e1 + rv n2 S2 1 * 2^e2 := by
  unfold dsF
  by_cases h0 : S1 = 0
  · rw [if_pos h0, h0, rv_zero]; grind
  · rw [if_neg h0]
    by_cases h0' : S2 = 0
    · rw [if_pos h0', h0', rv_zero]; grind
    · rw [if_neg h0']
      by_cases hlt : e2 < e1
      · rw [if_pos hlt]
        dsimp only
        rw [dsum_val, ← rv_shift n1 S1 (e1 - e2).toNat e2 e1 (by omega)]; grind
      · rw [if_neg hlt]
        dsimp only
        rw [dsum_val, ← rv_shift n2 S2 (e2 - e1).toNat e1 e2 (by omega)]; grind
theorem blen_mono {a b : Nat} (h : a ≤ b) : blen a ≤ blen b := blen_le_iff.2 (Nat.lt_of_le_of_lt h (lt_pow_blen b))
theorem dsum_blen (n1 : Bool) (S1 : Nat) (n2 : Bool) (T2 P : Nat) (h1 : blen S1 ≤ P) (h2 : blen T2 ≤ P) : blen (dsum n1 S1 n2 T2).2 ≤ P + 1 := by
  have a1 := blen_le_iff.1 h1
  have a2 := blen_le_iff.1 h2
  refine blen_le_iff.2 ?_
  rw [Nat.pow_succ]
  unfold dsum
  split
  · dsimp only; omega
  · split <;> (dsimp only; omega)
theorem dsF_bound (n1 : Bool) (S1 : Nat) (e1 : Int) (n2 : Bool) (S2 : Nat) (e2 : Int) (P : Nat) (h1 : blen S1 + (e1 - e2).toNat ≤ P) (h2 : blen S2 + (e2 - e1).toNat ≤ P) :
    blen (dsF n1 S1 e1 n2 S2 e2).2.1 ≤ P + 1 ∧ ((dsF n1 S1 e1 n2 S2 e2).2.2 = e1 ∨ (dsF n1 S1 e1 n2 S2 e2).2.2 = e2) := by
  unfold dsF
  by_cases h0 : S1 = 0
  · rw [if_pos h0]; exact ⟨by dsimp only; omega, .inr rfl⟩
  · rw [if_neg h0]
    by_cases h0' : S2 = 0
    · rw [if_pos h0']; exact ⟨by dsimp only; omega, .inl rfl⟩
    · rw [if_neg h0']
      by_cases hlt : e2 < e1
      · rw [if_pos hlt]
        exact ⟨dsum_blen _ _ _ _ _ (by omega) (by rw [blen_shl _ _ (by omega)]; omega), .inr rfl⟩
      · rw [if_neg hlt]
        exact ⟨dsum_blen _ _ _ _ _ (by omega) (by rw [blen_shl _ _ (by omega)]; omega), .inl rfl⟩

theorem rv_exact (n : Bool) (S : Nat) (x : Int) : rv n (S * 2^x.toNat) (2^(-x).toNat) = rv n S 1 * 2^x := by
  have h := rv_scale n (p := S) (q := 1) (by omega) x
  rw [Nat.one_mul] at h; exact h
theorem wlen_blen {S : Nat} (h : blen S ≤ 524288) : wlen (digs S) ≤ 16384 := wlen_digs_le (K := 16384) (by omega)

set_option maxHeartbeats 1600000 in
theorem to_any (d : Int) (neg : Bool) (A : Option Addr) (n c S : Nat) (x : Int) (w : World) (hu : U32s w A n c (digs S)) (hd : d = -1 ∨ d = 1) (hb : blen S ≤ 524288) (hx1 : -1000000 ≤ x) (hx2 : x ≤ 1099511627776) :
    Calls Tryz.prog 185 #[.agg #[.bool neg, .slice A n c, .int .i64 x], .int .i64 d] w fun e w' => e = .returned (.float .f64 (pat (rndI d (rv neg S 1 * 2^x)))) ∧ Below w.heap.size w w' := by
  have HO := Lib.hid (show ∀ W, Below w.heap.size w W → Calls Tryz.prog 227 #[.int .i64 d, .bool neg, .slice A n c, .int .i64 x, .bool false] W fun e w' => e = .returned (.float .f64 (pat (rndI d (rv neg S 1 * 2^x)))) ∧ Below W.heap.size W w' from fun W hW => by
    rcases Nat.eq_zero_or_pos S with h0 | h0
    · subst h0
      rw [rv_zero, Rat.zero_mul, rndI_zero hd, pat_zero]
      refine (of_nought d neg false A n c (digs 0) x W (hu.below hW) (num_digs 0)).mono ?_
      rintro e w' ⟨rfl, rfl⟩
      exact ⟨rfl, Below.refl _ _⟩
    · rw [← rv_exact]
      exact of_pos d neg false A n c S _ _ (digs S) x W (hu.below hW) (num_digs S) h0 (wlen_blen hb) hd (Dg.exact S x) (Nat.two_pow_pos _) (fun h => by cases h) hx1 hx2)
  obtain ⟨r, hr⟩ : ∃ r, pat (rndI d (rv neg S 1 * 2^x)) = r := ⟨_, rfl⟩
  rw [hr] at HO ⊢
  clear hu hd hr
  have LB0 := Lib.hid (show Below w.heap.size w (w.alloc (.cells #[.bool neg, .slice A n c, .int .i64 x] 156)) from (below_alloc w _))
  have LG0_0 := Lib.hid ((Blk.at (W := w) (g := w.heap.size) (by simp <;> omega) 156 #[.bool neg, .slice A n c, .int .i64 x]))
  go_enter Tryz.func185, Tryz.ntmps185
  have q0_0 : _ = some (.bool neg : Value) := LG0_0.out.cell 0
  have q0_1 : _ = some (.slice A n c : Value) := LG0_0.out.cell 1
  have q0_2 : _ = some (.int .i64 x : Value) := LG0_0.out.cell 2
  go_wp2_with fail
  refine (HO.out _ LB0.out).mono ?_
  rintro e w1 ⟨rfl, hb1⟩
  have LB1 := Lib.hid (LB0.out.trans (hb1.mono LB0.out.size))
  have LG0_1 := Lib.hid (LG0_0.out.keep hb1)
  clear LB0 LG0_0
  clear hb1 HO q0_0 q0_1 q0_2
  go_wp2
  go_ret
  exact ⟨rfl, LB1.out⟩

end Go.Proofs.YtmjkmoahkanblaaGreat

namespace Go.Proofs.YtmjkmoahkanblaaGreat
open Go.RowKit

theorem rv_over (n : Bool) (a D : Nat) : rv n a D = rv n a 1 * (D : Rat)⁻¹ := by
  unfold rv
  cases n <;> simp [Rat.div_def] <;> grind
theorem rv_add (n1 : Bool) (p1 q1 : Nat) (n2 : Bool) (p2 q2 : Nat) (h1 : 0 < q1) (h2 : 0 < q2) :
    rv n1 p1 q1 + rv n2 p2 q2 = rv (dsum n1 (p1 * q2) n2 (p2 * q1)).1 (dsum n1 (p1 * q2) n2 (p2 * q1)).2 (q1 * q2) := by
  have e1 : rv n1 p1 q1 = rv n1 (p1 * q2) (q1 * q2) := rv_eq h1 (Nat.mul_pos h1 h2) (by ac_rfl)
  have e2 : rv n2 p2 q2 = rv n2 (p2 * q1) (q1 * q2) := rv_eq h2 (Nat.mul_pos h1 h2) (by ac_rfl)
  rw [e1, e2, rv_over, rv_over n2, rv_over (dsum n1 (p1 * q2) n2 (p2 * q1)).1, dsum_val]
  grind
theorem times_v (A B : Option Addr) (n c m d a b : Nat) (w : World) (hx : U32s w A n c (digs a)) (hy : U32s w B m d (digs b)) (hs1 : n ≤ 8589934592) (hs2 : m ≤ 8589934592) :
    Calls Tryz.prog 143 #[.slice A n c, .slice B m d] w (NewU32 w (digs (a * b))) := by
  have h := times_any A B n c m d _ _ w hx hy hs1 hs2
  rw [num_digs, num_digs] at h; exact h
theorem plus_v (A B : Option Addr) (n c m d a b : Nat) (w : World) (hx : U32s w A n c (digs a)) (hy : U32s w B m d (digs b)) (hs1 : n ≤ 8589934592) (hs2 : m ≤ 8589934592) :
    Calls Tryz.prog 197 #[.slice A n c, .slice B m d] w (NewU32 w (digs (a + b))) := by
  have h := plus_any A B n c m d _ _ w hx hy (by omega) (by omega)
  rw [num_digs, num_digs] at h; exact h
theorem minus_v (A B : Option Addr) (n c m d a b : Nat) (w : World) (hx : U32s w A n c (digs a)) (hy : U32s w B m d (digs b)) (hs1 : n ≤ 8589934592) (hle : b ≤ a) :
    Calls Tryz.prog 198 #[.slice A n c, .slice B m d] w (NewU32 w (digs (a - b))) := by
  have h := nminus_any A B n c m d _ _ w hx hy (by omega) (by rw [num_digs, num_digs]; exact hle)
  rw [num_digs, num_digs] at h; exact h
theorem cmp_w (A B : Option Addr) (n c m d a b : Nat) (w : World) (hx : U32s w A n c (digs a)) (hy : U32s w B m d (digs b)) :
    Calls Tryz.prog 142 #[.slice A n c, .slice B m d] w fun e w' => e = .returned (.int .i64 (cmp3 a b)) ∧ Below w.heap.size w w' := by
  have h := cmp_any A B n c m d _ _ w hx hy
  rw [num_digs, num_digs] at h
  refine h.mono ?_
  rintro e w' ⟨rfl, k, rfl⟩
  exact ⟨rfl, below_drewN (Below.refl _ _) k⟩

set_option maxHeartbeats 6400000 in
theorem radd_same (K : Nat) (g : Bool) (p1 q1 p2 q2 : Nat) (A1 : Option Addr) (n1 c1 : Nat) (B1 : Option Addr) (m1 d1 : Nat) (A2 : Option Addr) (n2 c2 : Nat) (B2 : Option Addr) (m2 d2 : Nat) (w : World) (u1 : U32s w A1 n1 c1 (digs p1)) (v1 : U32s w B1 m1 d1 (digs q1)) (u2 : U32s w A2 n2 c2 (digs p2)) (v2 : U32s w B2 m2 d2 (digs q2)) (l1 : n1 ≤ 8589934592) (l2 : m1 ≤ 8589934592) (l3 : n2 ≤ 8589934592) (l4 : m2 ≤ 8589934592) (hq1 : 0 < q1) (hq2 : 0 < q2) (hk1 : p1 * q2 < 2^(32 * K)) (hk2 : p2 * q1 < 2^(32 * K)) (hk3 : q1 * q2 < 2^(32 * K)) (hk4 : p1 * q2 + p2 * q1 < 2^(32 * K)) (hK : 1 ≤ K) (hK2 : K ≤ 1073741824) :
    Calls Tryz.prog 138 #[.agg #[.bool g, .slice A1 n1 c1, .slice B1 m1 d1], .agg #[.bool g, .slice A2 n2 c2, .slice B2 m2 d2]] w (NewRat w K (rv g (p1 * q2 + p2 * q1) (q1 * q2))) := by
  have T1 := Lib.hid fun W (hW : Below w.heap.size w W) => times_v A1 B2 n1 c1 m2 d2 p1 q2 W (u1.below hW) (v2.below hW) l1 l4
  have T2 := Lib.hid fun W (hW : Below w.heap.size w W) => times_v A2 B1 n2 c2 m1 d1 p2 q1 W (u2.below hW) (v1.below hW) l3 l2
  have T3 := Lib.hid fun W (hW : Below w.heap.size w W) => times_v B1 B2 m1 d1 m2 d2 q1 q2 W (v1.below hW) (v2.below hW) l2 l4
  have HQ := Lib.hid (Nat.mul_pos hq1 hq2)
  obtain ⟨X, eX⟩ : ∃ x, p1 * q2 = x := ⟨_, rfl⟩
  obtain ⟨Y, eY⟩ : ∃ x, p2 * q1 = x := ⟨_, rfl⟩
  obtain ⟨D, eD⟩ : ∃ x, q1 * q2 = x := ⟨_, rfl⟩
  rw [eX, eY] at hk4 ⊢
  rw [eX] at T1 hk1
  rw [eY] at T2 hk2
  rw [eD] at T3 HQ hk3 ⊢
  have T4 := Lib.hid fun W (A : Option Addr) (n c : Nat) (B : Option Addr) (m d : Nat) (hx : U32s W A n c (digs X)) (hy : U32s W B m d (digs Y)) => plus_v A B n c m d X Y W hx hy (by have := hx.len_le hk1; omega) (by have := hy.len_le hk2; omega)
  obtain ⟨Z, eZ⟩ : ∃ x, X + Y = x := ⟨_, rfl⟩
  rw [eZ] at T4 hk4 ⊢
  have T5 := Lib.hid fun W (A : Option Addr) (n c : Nat) (B : Option Addr) (m d : Nat) (hx : U32s W A n c (digs Z)) (hy : U32s W B m d (digs D)) => frac_plain g A B n c m d K Z D W hx hy HQ.out hk4 hk3 hK hK2
  clear u1 v1 u2 v2 l1 l2 l3 l4 hq1 hq2 hk1 hk2 hk3 hk4 hK hK2 eX eY eD eZ HQ
  have LB0 := Lib.hid (show Below w.heap.size w (((w.alloc (.cells #[.bool g, .slice A1 n1 c1, .slice B1 m1 d1] 60)).alloc (.cells #[.bool g, .slice A2 n2 c2, .slice B2 m2 d2] 60)).alloc (.cells #[.bool false, .slice none 0 0, .slice none 0 0] 60)) from (((below_alloc w _).alloc (by simp <;> omega) _).alloc (by simp <;> omega) _))
  have LG0_0 := Lib.hid ((((Blk.at (W := w) (g := w.heap.size) (by simp <;> omega) 60 #[.bool g, .slice A1 n1 c1, .slice B1 m1 d1]).alloc (.cells #[.bool g, .slice A2 n2 c2, .slice B2 m2 d2] 60)).alloc (.cells #[.bool false, .slice none 0 0, .slice none 0 0] 60)))
  have LG1_0 := Lib.hid (((Blk.at (W := (w.alloc (.cells #[.bool g, .slice A1 n1 c1, .slice B1 m1 d1] 60))) (g := (w.heap.size + 1)) (by simp <;> omega) 60 #[.bool g, .slice A2 n2 c2, .slice B2 m2 d2]).alloc (.cells #[.bool false, .slice none 0 0, .slice none 0 0] 60)))
  have LR0 := Lib.hid (HasBlk.of (n := 3) (Blk.at (W := ((w.alloc (.cells #[.bool g, .slice A1 n1 c1, .slice B1 m1 d1] 60)).alloc (.cells #[.bool g, .slice A2 n2 c2, .slice B2 m2 d2] 60))) (g := (w.heap.size + 2)) (by simp <;> omega) 60 #[.bool false, .slice none 0 0, .slice none 0 0]) rfl rfl)
  go_enter Tryz.func138, Tryz.ntmps138
  go_wp2_with fail
  refine (T1.out _ LB0.out).mono ?_
  rintro e w1 ⟨AX, nX, cX, rfl, hX, hb1⟩
  have LB1 := Lib.hid (LB0.out.trans (hb1.mono LB0.out.size))
  have LR1 := Lib.hid (LR0.out.keep hb1)
  have LG0_1 := Lib.hid (LG0_0.out.keep hb1)
  have LG1_1 := Lib.hid (LG1_0.out.keep hb1)
  clear LB0 LR0 LG0_0 LG1_0
  have q0_0 : _ = some (.bool g : Value) := LG0_1.out.cell 0
  have q0_1 : _ = some (.slice A1 n1 c1 : Value) := LG0_1.out.cell 1
  have q0_2 : _ = some (.slice B1 m1 d1 : Value) := LG0_1.out.cell 2
  have q1_0 : _ = some (.bool g : Value) := LG1_1.out.cell 0
  have q1_1 : _ = some (.slice A2 n2 c2 : Value) := LG1_1.out.cell 1
  have q1_2 : _ = some (.slice B2 m2 d2 : Value) := LG1_1.out.cell 2
  have HX1 := Lib.hid hX
  clear hX hb1 T1
  go_wp2_with fail
  refine (T2.out _ LB1.out).mono ?_
  rintro e w2 ⟨AY, nY, cY, rfl, hY, hb2⟩
  have LB2 := Lib.hid (LB1.out.trans (hb2.mono LB1.out.size))
  have LR2 := Lib.hid (LR1.out.keep hb2)
  have LG0_2 := Lib.hid (LG0_1.out.keep hb2)
  have LG1_2 := Lib.hid (LG1_1.out.keep hb2)
  clear LB1 LR1 LG0_1 LG1_1
  have HX2 := Lib.hid (HX1.out.below hb2)
  have HY2 := Lib.hid hY
  clear hY hb2 HX1 T2 q0_0 q0_1 q0_2 q1_0 q1_1 q1_2
  have q0_0 : _ = some (.bool g : Value) := LG0_2.out.cell 0
  have q0_1 : _ = some (.slice A1 n1 c1 : Value) := LG0_2.out.cell 1
  have q0_2 : _ = some (.slice B1 m1 d1 : Value) := LG0_2.out.cell 2
  have q1_0 : _ = some (.bool g : Value) := LG1_2.out.cell 0
  have q1_1 : _ = some (.slice A2 n2 c2 : Value) := LG1_2.out.cell 1
  have q1_2 : _ = some (.slice B2 m2 d2 : Value) := LG1_2.out.cell 2
  go_wp2_with fail
  refine (T3.out _ LB2.out).mono ?_
  rintro e w3 ⟨AD, nD, cD, rfl, hD, hb3⟩
  have LB3 := Lib.hid (LB2.out.trans (hb3.mono LB2.out.size))
  have LR3 := Lib.hid (LR2.out.keep hb3)
  have LG0_3 := Lib.hid (LG0_2.out.keep hb3)
  have LG1_3 := Lib.hid (LG1_2.out.keep hb3)
  clear LB2 LR2 LG0_2 LG1_2
  have HX3 := Lib.hid (HX2.out.below hb3)
  have HY3 := Lib.hid (HY2.out.below hb3)
  have HD3 := Lib.hid hD
  clear hD hb3 HX2 HY2 T3 q0_0 q0_1 q0_2 q1_0 q1_1 q1_2
  have q0_0 : _ = some (.bool g : Value) := LG0_3.out.cell 0
  have q1_0 : _ = some (.bool g : Value) := LG1_3.out.cell 0
  go_wp2_with fail
  clear q0_0 q1_0
  refine wp_region_held_drew (S := fun W' => Blk W' w.heap.size 60 #[.bool g, .slice A1 n1 c1, .slice B1 m1 d1] ∧ Blk W' (w.heap.size + 1) 60 #[.bool g, .slice A2 n2 c2, .slice B2 m2 d2] ∧ HasBlk W' (w.heap.size + 2) 60 3 ∧ Below w.heap.size w W') (by kernel_rfl) (by exact ⟨LG0_3.out.drew, LG1_3.out.drew, LR3.out.drew, LB3.out.drew⟩) (fun hHeld => ?_)
  refine wpAnyH_take (i := 0) (v := ?_) rfl (by kernel_rfl) (by kernel_rfl) (by kernel_rfl) (fun _ _ _ h => h) (Or.inl ⟨by rfl, ?_⟩) (by assumption) ?_
  rotate_left
  · (intro W2 hSw; go_simp; (try with_reducible rfl))
  try simp only [Act.put, List.getElem_toArray, List.getElem_cons_succ, List.getElem_cons_zero, List.setIfInBounds_toArray, List.set_cons_zero, List.set_cons_succ]
  refine wpAnyH_take (i := 1) (v := ?_) rfl (by kernel_rfl) (by kernel_rfl) (by kernel_rfl) (fun _ _ _ h => h) (Or.inl ⟨by rfl, ?_⟩) (by assumption) ?_
  rotate_left
  · (intro W2 hSw; (try dsimp only at hSw); have q0 : _ = some (.bool g : Value) := hSw.1.cell 0; have q1 : _ = some (.slice A1 n1 c1 : Value) := hSw.1.cell 1; have q2 : _ = some (.slice B1 m1 d1 : Value) := hSw.1.cell 2; go_simp; (try with_reducible rfl))
  try simp only [Act.put, List.getElem_toArray, List.getElem_cons_succ, List.getElem_cons_zero, List.setIfInBounds_toArray, List.set_cons_zero, List.set_cons_succ]
  refine wpAnyH_take (i := 2) (v := ?_) rfl (by kernel_rfl) (by kernel_rfl) (by kernel_rfl) (fun _ _ _ h => h) (Or.inl ⟨by rfl, ?_⟩) (by assumption) ?_
  rotate_left
  · (intro W2 hSw; go_simp; (try with_reducible rfl))
  try simp only [Act.put, List.getElem_toArray, List.getElem_cons_succ, List.getElem_cons_zero, List.setIfInBounds_toArray, List.set_cons_zero, List.set_cons_succ]
  refine wpAnyH_take (i := 3) (v := ?_) rfl (by kernel_rfl) (by kernel_rfl) (by kernel_rfl) (fun _ _ _ h => h) (Or.inl ⟨by rfl, ?_⟩) (by assumption) ?_
  rotate_left
  · (intro W2 hSw; go_simp; (try with_reducible rfl))
  try simp only [Act.put, List.getElem_toArray, List.getElem_cons_succ, List.getElem_cons_zero, List.setIfInBounds_toArray, List.set_cons_zero, List.set_cons_succ]
  refine wpAnyH_take (i := 5) (v := ?_) rfl (by kernel_rfl) (by kernel_rfl) (by kernel_rfl) (fun _ _ _ h => h) (Or.inl ⟨by rfl, ?_⟩) (by assumption) ?_
  rotate_left
  · (intro W2 hSw; go_simp; (try with_reducible rfl))
  try simp only [Act.put, List.getElem_toArray, List.getElem_cons_succ, List.getElem_cons_zero, List.setIfInBounds_toArray, List.set_cons_zero, List.set_cons_succ]
  refine wpAnyH_ready (rs := [4]) (by kernel_rfl) (by simp) ?_
  refine AllReadyH.cons rfl (fun KK hKK => ?_) AllReadyH.nil
  go_simp
  refine (T4.out _ _ _ _ _ _ _ HX3.out.drew HY3.out.drew).mono ?_
  rintro e w6 ⟨AS, nS, cS, rfl, hS, hbA⟩
  go_wp2_with fail
  refine hKK.out _ _ (⟨hHeld.1.keep hbA, hHeld.2.1.keep hbA, hHeld.2.2.1.keep hbA, hHeld.2.2.2.trans (hbA.mono hHeld.2.2.2.size)⟩) (fun _ => ?_)
  clear hKK KK hHeld; rename_i hHeld
  try simp only [Act.put, List.getElem_toArray, List.getElem_cons_succ, List.getElem_cons_zero, List.setIfInBounds_toArray, List.set_cons_zero, List.set_cons_succ]
  refine wpAnyH_ready (rs := [6]) (by kernel_rfl) (by simp) ?_
  refine AllReadyH.cons rfl (fun KK hKK => ?_) AllReadyH.nil
  go_simp
  refine (T5.out _ _ _ _ _ _ _ hS (HD3.out.drew.below hbA)).mono ?_
  rintro e w7 ⟨gz, vn, vd, rfl, hR, hbB⟩; obtain ⟨AZ, nZ, cZ, BZ, mZ, dZ, rfl, rfl⟩ := hR.shape
  go_wp2_with fail
  refine hKK.out _ _ (⟨hHeld.1.keep hbB, hHeld.2.1.keep hbB, hHeld.2.2.1.keep hbB, hHeld.2.2.2.trans (hbB.mono hHeld.2.2.2.size)⟩) (fun _ => ?_)
  clear hKK KK hHeld; rename_i hHeld
  try simp only [Act.put, List.getElem_toArray, List.getElem_cons_succ, List.getElem_cons_zero, List.setIfInBounds_toArray, List.set_cons_zero, List.set_cons_succ]
  refine wpAnyH_ready (rs := [7]) (by kernel_rfl) (by simp) ?_
  refine AllReadyH.cons rfl (fun KK hKK => ?_) AllReadyH.nil
  have ha0 := hHeld.2.2.1.someCell 0 (by decide); have hf0 := hHeld.2.2.1.frozen 0; have ha1 := hHeld.2.2.1.someCell 1 (by decide); have hf1 := hHeld.2.2.1.frozen 1; have ha2 := hHeld.2.2.1.someCell 2 (by decide); have hf2 := hHeld.2.2.1.frozen 2; have HK := Lib.hid (hHeld.2.2.1.setCell [.bool gz, .slice AZ nZ cZ, .slice BZ mZ dZ] rfl); have F := Lib.hid (below_sets (w0 := w) (r := (w.heap.size + 2)) (by omega) [.bool gz, .slice AZ nZ cZ, .slice BZ mZ dZ] 0 _ hHeld.2.2.2); have FR := Lib.hid (hHeld.2.2.1.rat hR [.bool gz, .slice AZ nZ cZ, .slice BZ mZ dZ])
  go_simp
  refine hKK.out _ _ (⟨hHeld.1.other (by omega) 0 [.bool gz, .slice AZ nZ cZ, .slice BZ mZ dZ], hHeld.2.1.other (by omega) 0 [.bool gz, .slice AZ nZ cZ, .slice BZ mZ dZ], hHeld.2.2.1.sets [.bool gz, .slice AZ nZ cZ, .slice BZ mZ dZ] rfl rfl, below_sets (by omega) [.bool gz, .slice AZ nZ cZ, .slice BZ mZ dZ] 0 _ hHeld.2.2.2⟩) (fun _ => ?_)
  clear hKK KK hHeld; rename_i hHeld
  try simp only [Act.put, List.getElem_toArray, List.getElem_cons_succ, List.getElem_cons_zero, List.setIfInBounds_toArray, List.set_cons_zero, List.set_cons_succ]
  refine wpAnyH_done (by kernel_rfl) ?_ _
  have hk0 := HK.out 0 (by decide)
  have hk1 := HK.out 1 (by decide)
  have hk2 := HK.out 2 (by decide)
  simp [sets] at hk0 hk1 hk2
  clear hHeld HK hS hbA hR hbB
  clear LB3 LR3 LG0_3 LG1_3
  go_wp2
  refine bodyPost_ret (v := .agg #[.bool gz, .slice AZ nZ cZ, .slice BZ mZ dZ]) (by simp [results, Tryz.results138, go_sem, hk0, hk1, hk2]) rfl ?_
  exact ⟨_, _, _, rfl, FR.out, F.out⟩

set_option maxHeartbeats 6400000 in
theorem radd_ge (K : Nat) (g h : Bool) (p1 q1 p2 q2 : Nat) (A1 : Option Addr) (n1 c1 : Nat) (B1 : Option Addr) (m1 d1 : Nat) (A2 : Option Addr) (n2 c2 : Nat) (B2 : Option Addr) (m2 d2 : Nat) (w : World) (u1 : U32s w A1 n1 c1 (digs p1)) (v1 : U32s w B1 m1 d1 (digs q1)) (u2 : U32s w A2 n2 c2 (digs p2)) (v2 : U32s w B2 m2 d2 (digs q2)) (l1 : n1 ≤ 8589934592) (l2 : m1 ≤ 8589934592) (l3 : n2 ≤ 8589934592) (l4 : m2 ≤ 8589934592) (hgh : (g == h) = false) (hle : p2 * q1 ≤ p1 * q2) (hq1 : 0 < q1) (hq2 : 0 < q2) (hk1 : p1 * q2 < 2^(32 * K)) (hk2 : p2 * q1 < 2^(32 * K)) (hk3 : q1 * q2 < 2^(32 * K)) (hk4 : p1 * q2 - p2 * q1 < 2^(32 * K)) (hK : 1 ≤ K) (hK2 : K ≤ 1073741824) :
    Calls Tryz.prog 138 #[.agg #[.bool g, .slice A1 n1 c1, .slice B1 m1 d1], .agg #[.bool h, .slice A2 n2 c2, .slice B2 m2 d2]] w (NewRat w K (rv g (p1 * q2 - p2 * q1) (q1 * q2))) := by
  have T1 := Lib.hid fun W (hW : Below w.heap.size w W) => times_v A1 B2 n1 c1 m2 d2 p1 q2 W (u1.below hW) (v2.below hW) l1 l4
  have T2 := Lib.hid fun W (hW : Below w.heap.size w W) => times_v A2 B1 n2 c2 m1 d1 p2 q1 W (u2.below hW) (v1.below hW) l3 l2
  have T3 := Lib.hid fun W (hW : Below w.heap.size w W) => times_v B1 B2 m1 d1 m2 d2 q1 q2 W (v1.below hW) (v2.below hW) l2 l4
  have HQ := Lib.hid (Nat.mul_pos hq1 hq2)
  obtain ⟨X, eX⟩ : ∃ x, p1 * q2 = x := ⟨_, rfl⟩
  obtain ⟨Y, eY⟩ : ∃ x, p2 * q1 = x := ⟨_, rfl⟩
  obtain ⟨D, eD⟩ : ∃ x, q1 * q2 = x := ⟨_, rfl⟩
  rw [eX, eY] at hk4 ⊢
  rw [eX, eY] at hle
  rw [eX] at T1 hk1
  rw [eY] at T2 hk2
  rw [eD] at T3 HQ hk3 ⊢
  have T4 := Lib.hid fun W (A : Option Addr) (n c : Nat) (B : Option Addr) (m d : Nat) (hx : U32s W A n c (digs X)) (hy : U32s W B m d (digs Y)) => minus_v A B n c m d X Y W hx hy (by have := hx.len_le hk1; omega) hle
  obtain ⟨Z, eZ⟩ : ∃ x, X - Y = x := ⟨_, rfl⟩
  rw [eZ] at T4 hk4 ⊢
  have T5 := Lib.hid fun W (A : Option Addr) (n c : Nat) (B : Option Addr) (m d : Nat) (hx : U32s W A n c (digs Z)) (hy : U32s W B m d (digs D)) => frac_plain g A B n c m d K Z D W hx hy HQ.out hk4 hk3 hK hK2
  have HC := Lib.hid fun W (A : Option Addr) (n c : Nat) (B : Option Addr) (m d : Nat) (hx : U32s W A n c (digs X)) (hy : U32s W B m d (digs Y)) => cmp_w A B n c m d X Y W hx hy
  obtain ⟨cc, ecc⟩ : ∃ x, cmp3 X Y = x := ⟨_, rfl⟩
  have hcc : 0 ≤ cc := by rw [← ecc]; exact cmp3_nonneg.2 hle
  rw [ecc] at HC
  clear u1 v1 u2 v2 l1 l2 l3 l4 hq1 hq2 hk1 hk2 hk3 hk4 hK hK2 eX eY eD eZ HQ hle ecc
  have LB0 := Lib.hid (show Below w.heap.size w (((w.alloc (.cells #[.bool g, .slice A1 n1 c1, .slice B1 m1 d1] 60)).alloc (.cells #[.bool h, .slice A2 n2 c2, .slice B2 m2 d2] 60)).alloc (.cells #[.bool false, .slice none 0 0, .slice none 0 0] 60)) from (((below_alloc w _).alloc (by simp <;> omega) _).alloc (by simp <;> omega) _))
  have LG0_0 := Lib.hid ((((Blk.at (W := w) (g := w.heap.size) (by simp <;> omega) 60 #[.bool g, .slice A1 n1 c1, .slice B1 m1 d1]).alloc (.cells #[.bool h, .slice A2 n2 c2, .slice B2 m2 d2] 60)).alloc (.cells #[.bool false, .slice none 0 0, .slice none 0 0] 60)))
  have LG1_0 := Lib.hid (((Blk.at (W := (w.alloc (.cells #[.bool g, .slice A1 n1 c1, .slice B1 m1 d1] 60))) (g := (w.heap.size + 1)) (by simp <;> omega) 60 #[.bool h, .slice A2 n2 c2, .slice B2 m2 d2]).alloc (.cells #[.bool false, .slice none 0 0, .slice none 0 0] 60)))
  have LR0 := Lib.hid (HasBlk.of (n := 3) (Blk.at (W := ((w.alloc (.cells #[.bool g, .slice A1 n1 c1, .slice B1 m1 d1] 60)).alloc (.cells #[.bool h, .slice A2 n2 c2, .slice B2 m2 d2] 60))) (g := (w.heap.size + 2)) (by simp <;> omega) 60 #[.bool false, .slice none 0 0, .slice none 0 0]) rfl rfl)
  go_enter Tryz.func138, Tryz.ntmps138
  go_wp2_with fail
  refine (T1.out _ LB0.out).mono ?_
  rintro e w1 ⟨AX, nX, cX, rfl, hX, hb1⟩
  have LB1 := Lib.hid (LB0.out.trans (hb1.mono LB0.out.size))
  have LR1 := Lib.hid (LR0.out.keep hb1)
  have LG0_1 := Lib.hid (LG0_0.out.keep hb1)
  have LG1_1 := Lib.hid (LG1_0.out.keep hb1)
  clear LB0 LR0 LG0_0 LG1_0
  have q0_0 : _ = some (.bool g : Value) := LG0_1.out.cell 0
  have q0_1 : _ = some (.slice A1 n1 c1 : Value) := LG0_1.out.cell 1
  have q0_2 : _ = some (.slice B1 m1 d1 : Value) := LG0_1.out.cell 2
  have q1_0 : _ = some (.bool h : Value) := LG1_1.out.cell 0
  have q1_1 : _ = some (.slice A2 n2 c2 : Value) := LG1_1.out.cell 1
  have q1_2 : _ = some (.slice B2 m2 d2 : Value) := LG1_1.out.cell 2
  have HX1 := Lib.hid hX
  clear hX hb1 T1
  go_wp2_with fail
  refine (T2.out _ LB1.out).mono ?_
  rintro e w2 ⟨AY, nY, cY, rfl, hY, hb2⟩
  have LB2 := Lib.hid (LB1.out.trans (hb2.mono LB1.out.size))
  have LR2 := Lib.hid (LR1.out.keep hb2)
  have LG0_2 := Lib.hid (LG0_1.out.keep hb2)
  have LG1_2 := Lib.hid (LG1_1.out.keep hb2)
  clear LB1 LR1 LG0_1 LG1_1
  have HX2 := Lib.hid (HX1.out.below hb2)
  have HY2 := Lib.hid hY
  clear hY hb2 HX1 T2 q0_0 q0_1 q0_2 q1_0 q1_1 q1_2
  have q0_0 : _ = some (.bool g : Value) := LG0_2.out.cell 0
  have q0_1 : _ = some (.slice A1 n1 c1 : Value) := LG0_2.out.cell 1
  have q0_2 : _ = some (.slice B1 m1 d1 : Value) := LG0_2.out.cell 2
  have q1_0 : _ = some (.bool h : Value) := LG1_2.out.cell 0
  have q1_1 : _ = some (.slice A2 n2 c2 : Value) := LG1_2.out.cell 1
  have q1_2 : _ = some (.slice B2 m2 d2 : Value) := LG1_2.out.cell 2
  go_wp2_with fail
  refine (T3.out _ LB2.out).mono ?_
  rintro e w3 ⟨AD, nD, cD, rfl, hD, hb3⟩
  have LB3 := Lib.hid (LB2.out.trans (hb3.mono LB2.out.size))
  have LR3 := Lib.hid (LR2.out.keep hb3)
  have LG0_3 := Lib.hid (LG0_2.out.keep hb3)
  have LG1_3 := Lib.hid (LG1_2.out.keep hb3)
  clear LB2 LR2 LG0_2 LG1_2
  have HX3 := Lib.hid (HX2.out.below hb3)
  have HY3 := Lib.hid (HY2.out.below hb3)
  have HD3 := Lib.hid hD
  clear hD hb3 HX2 HY2 T3 q0_0 q0_1 q0_2 q1_0 q1_1 q1_2
  have q0_0 : _ = some (.bool g : Value) := LG0_3.out.cell 0
  have q1_0 : _ = some (.bool h : Value) := LG1_3.out.cell 0
  go_wp2_with fail
  refine (HC.out _ _ _ _ _ _ _ HX3.out HY3.out).mono ?_
  rintro e w4 ⟨rfl, hb4⟩
  have LB4 := Lib.hid (LB3.out.trans (hb4.mono LB3.out.size))
  have LR4 := Lib.hid (LR3.out.keep hb4)
  have LG0_4 := Lib.hid (LG0_3.out.keep hb4)
  have LG1_4 := Lib.hid (LG1_3.out.keep hb4)
  clear LB3 LR3 LG0_3 LG1_3
  have HX4 := Lib.hid (HX3.out.below hb4)
  have HY4 := Lib.hid (HY3.out.below hb4)
  have HD4 := Lib.hid (HD3.out.below hb4)
  clear hb4 HX3 HY3 HD3 HC q0_0 q1_0
  go_wp2_with fail
  clear hgh hcc
  refine wp_region_held_drew (S := fun W' => Blk W' w.heap.size 60 #[.bool g, .slice A1 n1 c1, .slice B1 m1 d1] ∧ Blk W' (w.heap.size + 1) 60 #[.bool h, .slice A2 n2 c2, .slice B2 m2 d2] ∧ HasBlk W' (w.heap.size + 2) 60 3 ∧ Below w.heap.size w W') (by kernel_rfl) (by exact ⟨LG0_4.out.drew, LG1_4.out.drew, LR4.out.drew, LB4.out.drew⟩) (fun hHeld => ?_)
  refine wpAnyH_take (i := 0) (v := ?_) rfl (by kernel_rfl) (by kernel_rfl) (by kernel_rfl) (fun _ _ _ h => h) (Or.inl ⟨by rfl, ?_⟩) (by assumption) ?_
  rotate_left
  · (intro W2 hSw; go_simp; (try with_reducible rfl))
  try simp only [Act.put, List.getElem_toArray, List.getElem_cons_succ, List.getElem_cons_zero, List.setIfInBounds_toArray, List.set_cons_zero, List.set_cons_succ]
  refine wpAnyH_take (i := 1) (v := ?_) rfl (by kernel_rfl) (by kernel_rfl) (by kernel_rfl) (fun _ _ _ h => h) (Or.inl ⟨by rfl, ?_⟩) (by assumption) ?_
  rotate_left
  · (intro W2 hSw; (try dsimp only at hSw); have q0 : _ = some (.bool g : Value) := hSw.1.cell 0; have q1 : _ = some (.slice A1 n1 c1 : Value) := hSw.1.cell 1; have q2 : _ = some (.slice B1 m1 d1 : Value) := hSw.1.cell 2; go_simp; (try with_reducible rfl))
  try simp only [Act.put, List.getElem_toArray, List.getElem_cons_succ, List.getElem_cons_zero, List.setIfInBounds_toArray, List.set_cons_zero, List.set_cons_succ]
  refine wpAnyH_take (i := 2) (v := ?_) rfl (by kernel_rfl) (by kernel_rfl) (by kernel_rfl) (fun _ _ _ h => h) (Or.inl ⟨by rfl, ?_⟩) (by assumption) ?_
  rotate_left
  · (intro W2 hSw; go_simp; (try with_reducible rfl))
  try simp only [Act.put, List.getElem_toArray, List.getElem_cons_succ, List.getElem_cons_zero, List.setIfInBounds_toArray, List.set_cons_zero, List.set_cons_succ]
  refine wpAnyH_take (i := 3) (v := ?_) rfl (by kernel_rfl) (by kernel_rfl) (by kernel_rfl) (fun _ _ _ h => h) (Or.inl ⟨by rfl, ?_⟩) (by assumption) ?_
  rotate_left
  · (intro W2 hSw; go_simp; (try with_reducible rfl))
  try simp only [Act.put, List.getElem_toArray, List.getElem_cons_succ, List.getElem_cons_zero, List.setIfInBounds_toArray, List.set_cons_zero, List.set_cons_succ]
  refine wpAnyH_take (i := 5) (v := ?_) rfl (by kernel_rfl) (by kernel_rfl) (by kernel_rfl) (fun _ _ _ h => h) (Or.inl ⟨by rfl, ?_⟩) (by assumption) ?_
  rotate_left
  · (intro W2 hSw; go_simp; (try with_reducible rfl))
  try simp only [Act.put, List.getElem_toArray, List.getElem_cons_succ, List.getElem_cons_zero, List.setIfInBounds_toArray, List.set_cons_zero, List.set_cons_succ]
  refine wpAnyH_ready (rs := [4]) (by kernel_rfl) (by simp) ?_
  refine AllReadyH.cons rfl (fun KK hKK => ?_) AllReadyH.nil
  go_simp
  refine (T4.out _ _ _ _ _ _ _ HX4.out.drew HY4.out.drew).mono ?_
  rintro e w6 ⟨AS, nS, cS, rfl, hS, hbA⟩
  go_wp2_with fail
  refine hKK.out _ _ (⟨hHeld.1.keep hbA, hHeld.2.1.keep hbA, hHeld.2.2.1.keep hbA, hHeld.2.2.2.trans (hbA.mono hHeld.2.2.2.size)⟩) (fun _ => ?_)
  clear hKK KK hHeld; rename_i hHeld
  try simp only [Act.put, List.getElem_toArray, List.getElem_cons_succ, List.getElem_cons_zero, List.setIfInBounds_toArray, List.set_cons_zero, List.set_cons_succ]
  refine wpAnyH_ready (rs := [6]) (by kernel_rfl) (by simp) ?_
  refine AllReadyH.cons rfl (fun KK hKK => ?_) AllReadyH.nil
  go_simp
  refine (T5.out _ _ _ _ _ _ _ hS (HD4.out.drew.below hbA)).mono ?_
  rintro e w7 ⟨gz, vn, vd, rfl, hR, hbB⟩; obtain ⟨AZ, nZ, cZ, BZ, mZ, dZ, rfl, rfl⟩ := hR.shape
  go_wp2_with fail
  refine hKK.out _ _ (⟨hHeld.1.keep hbB, hHeld.2.1.keep hbB, hHeld.2.2.1.keep hbB, hHeld.2.2.2.trans (hbB.mono hHeld.2.2.2.size)⟩) (fun _ => ?_)
  clear hKK KK hHeld; rename_i hHeld
  try simp only [Act.put, List.getElem_toArray, List.getElem_cons_succ, List.getElem_cons_zero, List.setIfInBounds_toArray, List.set_cons_zero, List.set_cons_succ]
  refine wpAnyH_ready (rs := [7]) (by kernel_rfl) (by simp) ?_
  refine AllReadyH.cons rfl (fun KK hKK => ?_) AllReadyH.nil
  have ha0 := hHeld.2.2.1.someCell 0 (by decide); have hf0 := hHeld.2.2.1.frozen 0; have ha1 := hHeld.2.2.1.someCell 1 (by decide); have hf1 := hHeld.2.2.1.frozen 1; have ha2 := hHeld.2.2.1.someCell 2 (by decide); have hf2 := hHeld.2.2.1.frozen 2; have HK := Lib.hid (hHeld.2.2.1.setCell [.bool gz, .slice AZ nZ cZ, .slice BZ mZ dZ] rfl); have F := Lib.hid (below_sets (w0 := w) (r := (w.heap.size + 2)) (by omega) [.bool gz, .slice AZ nZ cZ, .slice BZ mZ dZ] 0 _ hHeld.2.2.2); have FR := Lib.hid (hHeld.2.2.1.rat hR [.bool gz, .slice AZ nZ cZ, .slice BZ mZ dZ])
  go_simp
  refine hKK.out _ _ (⟨hHeld.1.other (by omega) 0 [.bool gz, .slice AZ nZ cZ, .slice BZ mZ dZ], hHeld.2.1.other (by omega) 0 [.bool gz, .slice AZ nZ cZ, .slice BZ mZ dZ], hHeld.2.2.1.sets [.bool gz, .slice AZ nZ cZ, .slice BZ mZ dZ] rfl rfl, below_sets (by omega) [.bool gz, .slice AZ nZ cZ, .slice BZ mZ dZ] 0 _ hHeld.2.2.2⟩) (fun _ => ?_)
  clear hKK KK hHeld; rename_i hHeld
  try simp only [Act.put, List.getElem_toArray, List.getElem_cons_succ, List.getElem_cons_zero, List.setIfInBounds_toArray, List.set_cons_zero, List.set_cons_succ]
  refine wpAnyH_done (by kernel_rfl) ?_ _
  have hk0 := HK.out 0 (by decide)
  have hk1 := HK.out 1 (by decide)
  have hk2 := HK.out 2 (by decide)
  simp [sets] at hk0 hk1 hk2
  clear hHeld HK hS hbA hR hbB
  clear LB4 LR4 LG0_4 LG1_4
  go_wp2
  refine bodyPost_ret (v := .agg #[.bool gz, .slice AZ nZ cZ, .slice BZ mZ dZ]) (by simp [results, Tryz.results138, go_sem, hk0, hk1, hk2]) rfl ?_
  exact ⟨_, _, _, rfl, FR.out, F.out⟩

set_option maxHeartbeats 6400000 in
theorem radd_lt (K : Nat) (g h : Bool) (p1 q1 p2 q2 : Nat) (A1 : Option Addr) (n1 c1 : Nat) (B1 : Option Addr) (m1 d1 : Nat) (A2 : Option Addr) (n2 c2 : Nat) (B2 : Option Addr) (m2 d2 : Nat) (w : World) (u1 : U32s w A1 n1 c1 (digs p1)) (v1 : U32s w B1 m1 d1 (digs q1)) (u2 : U32s w A2 n2 c2 (digs p2)) (v2 : U32s w B2 m2 d2 (digs q2)) (l1 : n1 ≤ 8589934592) (l2 : m1 ≤ 8589934592) (l3 : n2 ≤ 8589934592) (l4 : m2 ≤ 8589934592) (hgh : (g == h) = false) (hle : p1 * q2 < p2 * q1) (hq1 : 0 < q1) (hq2 : 0 < q2) (hk1 : p1 * q2 < 2^(32 * K)) (hk2 : p2 * q1 < 2^(32 * K)) (hk3 : q1 * q2 < 2^(32 * K)) (hk4 : p2 * q1 - p1 * q2 < 2^(32 * K)) (hK : 1 ≤ K) (hK2 : K ≤ 1073741824) :
    Calls Tryz.prog 138 #[.agg #[.bool g, .slice A1 n1 c1, .slice B1 m1 d1], .agg #[.bool h, .slice A2 n2 c2, .slice B2 m2 d2]] w (NewRat w K (rv h (p2 * q1 - p1 * q2) (q1 * q2))) := by
  have T1 := Lib.hid fun W (hW : Below w.heap.size w W) => times_v A1 B2 n1 c1 m2 d2 p1 q2 W (u1.below hW) (v2.below hW) l1 l4
  have T2 := Lib.hid fun W (hW : Below w.heap.size w W) => times_v A2 B1 n2 c2 m1 d1 p2 q1 W (u2.below hW) (v1.below hW) l3 l2
  have T3 := Lib.hid fun W (hW : Below w.heap.size w W) => times_v B1 B2 m1 d1 m2 d2 q1 q2 W (v1.below hW) (v2.below hW) l2 l4
  have HQ := Lib.hid (Nat.mul_pos hq1 hq2)
  obtain ⟨X, eX⟩ : ∃ x, p1 * q2 = x := ⟨_, rfl⟩
  obtain ⟨Y, eY⟩ : ∃ x, p2 * q1 = x := ⟨_, rfl⟩
  obtain ⟨D, eD⟩ : ∃ x, q1 * q2 = x := ⟨_, rfl⟩
  rw [eX, eY] at hk4 ⊢
  rw [eX, eY] at hle
  rw [eX] at T1 hk1
  rw [eY] at T2 hk2
  rw [eD] at T3 HQ hk3 ⊢
  have T4 := Lib.hid fun W (A : Option Addr) (n c : Nat) (B : Option Addr) (m d : Nat) (hx : U32s W A n c (digs Y)) (hy : U32s W B m d (digs X)) => minus_v A B n c m d Y X W hx hy (by have := hx.len_le hk2; omega) (Nat.le_of_lt hle)
  obtain ⟨Z, eZ⟩ : ∃ x, Y - X = x := ⟨_, rfl⟩
  rw [eZ] at T4 hk4 ⊢
  have T5 := Lib.hid fun W (A : Option Addr) (n c : Nat) (B : Option Addr) (m d : Nat) (hx : U32s W A n c (digs Z)) (hy : U32s W B m d (digs D)) => frac_plain h A B n c m d K Z D W hx hy HQ.out hk4 hk3 hK hK2
  have HC := Lib.hid fun W (A : Option Addr) (n c : Nat) (B : Option Addr) (m d : Nat) (hx : U32s W A n c (digs X)) (hy : U32s W B m d (digs Y)) => cmp_w A B n c m d X Y W hx hy
  obtain ⟨cc, ecc⟩ : ∃ x, cmp3 X Y = x := ⟨_, rfl⟩
  have hcc : cc < 0 := by rw [← ecc]; exact cmp3_neg.2 hle
  rw [ecc] at HC
  clear u1 v1 u2 v2 l1 l2 l3 l4 hq1 hq2 hk1 hk2 hk3 hk4 hK hK2 eX eY eD eZ HQ hle ecc
  have LB0 := Lib.hid (show Below w.heap.size w (((w.alloc (.cells #[.bool g, .slice A1 n1 c1, .slice B1 m1 d1] 60)).alloc (.cells #[.bool h, .slice A2 n2 c2, .slice B2 m2 d2] 60)).alloc (.cells #[.bool false, .slice none 0 0, .slice none 0 0] 60)) from (((below_alloc w _).alloc (by simp <;> omega) _).alloc (by simp <;> omega) _))
  have LG0_0 := Lib.hid ((((Blk.at (W := w) (g := w.heap.size) (by simp <;> omega) 60 #[.bool g, .slice A1 n1 c1, .slice B1 m1 d1]).alloc (.cells #[.bool h, .slice A2 n2 c2, .slice B2 m2 d2] 60)).alloc (.cells #[.bool false, .slice none 0 0, .slice none 0 0] 60)))
  have LG1_0 := Lib.hid (((Blk.at (W := (w.alloc (.cells #[.bool g, .slice A1 n1 c1, .slice B1 m1 d1] 60))) (g := (w.heap.size + 1)) (by simp <;> omega) 60 #[.bool h, .slice A2 n2 c2, .slice B2 m2 d2]).alloc (.cells #[.bool false, .slice none 0 0, .slice none 0 0] 60)))
  have LR0 := Lib.hid (HasBlk.of (n := 3) (Blk.at (W := ((w.alloc (.cells #[.bool g, .slice A1 n1 c1, .slice B1 m1 d1] 60)).alloc (.cells #[.bool h, .slice A2 n2 c2, .slice B2 m2 d2] 60))) (g := (w.heap.size + 2)) (by simp <;> omega) 60 #[.bool false, .slice none 0 0, .slice none 0 0]) rfl rfl)
  go_enter Tryz.func138, Tryz.ntmps138
  go_wp2_with fail
  refine (T1.out _ LB0.out).mono ?_
  rintro e w1 ⟨AX, nX, cX, rfl, hX, hb1⟩
  have LB1 := Lib.hid (LB0.out.trans (hb1.mono LB0.out.size))
  have LR1 := Lib.hid (LR0.out.keep hb1)
  have LG0_1 := Lib.hid (LG0_0.out.keep hb1)
  have LG1_1 := Lib.hid (LG1_0.out.keep hb1)
  clear LB0 LR0 LG0_0 LG1_0
  have q0_0 : _ = some (.bool g : Value) := LG0_1.out.cell 0
  have q0_1 : _ = some (.slice A1 n1 c1 : Value) := LG0_1.out.cell 1
  have q0_2 : _ = some (.slice B1 m1 d1 : Value) := LG0_1.out.cell 2
  have q1_0 : _ = some (.bool h : Value) := LG1_1.out.cell 0
  have q1_1 : _ = some (.slice A2 n2 c2 : Value) := LG1_1.out.cell 1
  have q1_2 : _ = some (.slice B2 m2 d2 : Value) := LG1_1.out.cell 2
  have HX1 := Lib.hid hX
  clear hX hb1 T1
  go_wp2_with fail
  refine (T2.out _ LB1.out).mono ?_
  rintro e w2 ⟨AY, nY, cY, rfl, hY, hb2⟩
  have LB2 := Lib.hid (LB1.out.trans (hb2.mono LB1.out.size))
  have LR2 := Lib.hid (LR1.out.keep hb2)
  have LG0_2 := Lib.hid (LG0_1.out.keep hb2)
  have LG1_2 := Lib.hid (LG1_1.out.keep hb2)
  clear LB1 LR1 LG0_1 LG1_1
  have HX2 := Lib.hid (HX1.out.below hb2)
  have HY2 := Lib.hid hY
  clear hY hb2 HX1 T2 q0_0 q0_1 q0_2 q1_0 q1_1 q1_2
  have q0_0 : _ = some (.bool g : Value) := LG0_2.out.cell 0
  have q0_1 : _ = some (.slice A1 n1 c1 : Value) := LG0_2.out.cell 1
  have q0_2 : _ = some (.slice B1 m1 d1 : Value) := LG0_2.out.cell 2
  have q1_0 : _ = some (.bool h : Value) := LG1_2.out.cell 0
  have q1_1 : _ = some (.slice A2 n2 c2 : Value) := LG1_2.out.cell 1
  have q1_2 : _ = some (.slice B2 m2 d2 : Value) := LG1_2.out.cell 2
  go_wp2_with fail
  refine (T3.out _ LB2.out).mono ?_
  rintro e w3 ⟨AD, nD, cD, rfl, hD, hb3⟩
  have LB3 := Lib.hid (LB2.out.trans (hb3.mono LB2.out.size))
  have LR3 := Lib.hid (LR2.out.keep hb3)
  have LG0_3 := Lib.hid (LG0_2.out.keep hb3)
  have LG1_3 := Lib.hid (LG1_2.out.keep hb3)
  clear LB2 LR2 LG0_2 LG1_2
  have HX3 := Lib.hid (HX2.out.below hb3)
  have HY3 := Lib.hid (HY2.out.below hb3)
  have HD3 := Lib.hid hD
  clear hD hb3 HX2 HY2 T3 q0_0 q0_1 q0_2 q1_0 q1_1 q1_2
  have q0_0 : _ = some (.bool g : Value) := LG0_3.out.cell 0
  have q1_0 : _ = some (.bool h : Value) := LG1_3.out.cell 0
  go_wp2_with fail
  refine (HC.out _ _ _ _ _ _ _ HX3.out HY3.out).mono ?_
  rintro e w4 ⟨rfl, hb4⟩
  have LB4 := Lib.hid (LB3.out.trans (hb4.mono LB3.out.size))
  have LR4 := Lib.hid (LR3.out.keep hb4)
  have LG0_4 := Lib.hid (LG0_3.out.keep hb4)
  have LG1_4 := Lib.hid (LG1_3.out.keep hb4)
  clear LB3 LR3 LG0_3 LG1_3
  have HX4 := Lib.hid (HX3.out.below hb4)
  have HY4 := Lib.hid (HY3.out.below hb4)
  have HD4 := Lib.hid (HD3.out.below hb4)
  clear hb4 HX3 HY3 HD3 HC q0_0 q1_0
  go_wp2_with fail
  clear hgh hcc
  refine wp_region_held_drew (S := fun W' => Blk W' w.heap.size 60 #[.bool g, .slice A1 n1 c1, .slice B1 m1 d1] ∧ Blk W' (w.heap.size + 1) 60 #[.bool h, .slice A2 n2 c2, .slice B2 m2 d2] ∧ HasBlk W' (w.heap.size + 2) 60 3 ∧ Below w.heap.size w W') (by kernel_rfl) (by exact ⟨LG0_4.out.drew, LG1_4.out.drew, LR4.out.drew, LB4.out.drew⟩) (fun hHeld => ?_)
  refine wpAnyH_take (i := 0) (v := ?_) rfl (by kernel_rfl) (by kernel_rfl) (by kernel_rfl) (fun _ _ _ h => h) (Or.inl ⟨by rfl, ?_⟩) (by assumption) ?_
  rotate_left
  · (intro W2 hSw; go_simp; (try with_reducible rfl))
  try simp only [Act.put, List.getElem_toArray, List.getElem_cons_succ, List.getElem_cons_zero, List.setIfInBounds_toArray, List.set_cons_zero, List.set_cons_succ]
  refine wpAnyH_take (i := 1) (v := ?_) rfl (by kernel_rfl) (by kernel_rfl) (by kernel_rfl) (fun _ _ _ h => h) (Or.inl ⟨by rfl, ?_⟩) (by assumption) ?_
  rotate_left
  · (intro W2 hSw; (try dsimp only at hSw); have q0 : _ = some (.bool h : Value) := hSw.2.1.cell 0; have q1 : _ = some (.slice A2 n2 c2 : Value) := hSw.2.1.cell 1; have q2 : _ = some (.slice B2 m2 d2 : Value) := hSw.2.1.cell 2; go_simp; (try with_reducible rfl))
  try simp only [Act.put, List.getElem_toArray, List.getElem_cons_succ, List.getElem_cons_zero, List.setIfInBounds_toArray, List.set_cons_zero, List.set_cons_succ]
  refine wpAnyH_take (i := 2) (v := ?_) rfl (by kernel_rfl) (by kernel_rfl) (by kernel_rfl) (fun _ _ _ h => h) (Or.inl ⟨by rfl, ?_⟩) (by assumption) ?_
  rotate_left
  · (intro W2 hSw; go_simp; (try with_reducible rfl))
  try simp only [Act.put, List.getElem_toArray, List.getElem_cons_succ, List.getElem_cons_zero, List.setIfInBounds_toArray, List.set_cons_zero, List.set_cons_succ]
  refine wpAnyH_take (i := 3) (v := ?_) rfl (by kernel_rfl) (by kernel_rfl) (by kernel_rfl) (fun _ _ _ h => h) (Or.inl ⟨by rfl, ?_⟩) (by assumption) ?_
  rotate_left
  · (intro W2 hSw; go_simp; (try with_reducible rfl))
  try simp only [Act.put, List.getElem_toArray, List.getElem_cons_succ, List.getElem_cons_zero, List.setIfInBounds_toArray, List.set_cons_zero, List.set_cons_succ]
  refine wpAnyH_take (i := 5) (v := ?_) rfl (by kernel_rfl) (by kernel_rfl) (by kernel_rfl) (fun _ _ _ h => h) (Or.inl ⟨by rfl, ?_⟩) (by assumption) ?_
  rotate_left
  · (intro W2 hSw; go_simp; (try with_reducible rfl))
  try simp only [Act.put, List.getElem_toArray, List.getElem_cons_succ, List.getElem_cons_zero, List.setIfInBounds_toArray, List.set_cons_zero, List.set_cons_succ]
  refine wpAnyH_ready (rs := [4]) (by kernel_rfl) (by simp) ?_
  refine AllReadyH.cons rfl (fun KK hKK => ?_) AllReadyH.nil
  go_simp
  refine (T4.out _ _ _ _ _ _ _ HY4.out.drew HX4.out.drew).mono ?_
  rintro e w6 ⟨AS, nS, cS, rfl, hS, hbA⟩
  go_wp2_with fail
  refine hKK.out _ _ (⟨hHeld.1.keep hbA, hHeld.2.1.keep hbA, hHeld.2.2.1.keep hbA, hHeld.2.2.2.trans (hbA.mono hHeld.2.2.2.size)⟩) (fun _ => ?_)
  clear hKK KK hHeld; rename_i hHeld
  try simp only [Act.put, List.getElem_toArray, List.getElem_cons_succ, List.getElem_cons_zero, List.setIfInBounds_toArray, List.set_cons_zero, List.set_cons_succ]
  refine wpAnyH_ready (rs := [6]) (by kernel_rfl) (by simp) ?_
  refine AllReadyH.cons rfl (fun KK hKK => ?_) AllReadyH.nil
  go_simp
  refine (T5.out _ _ _ _ _ _ _ hS (HD4.out.drew.below hbA)).mono ?_
  rintro e w7 ⟨gz, vn, vd, rfl, hR, hbB⟩; obtain ⟨AZ, nZ, cZ, BZ, mZ, dZ, rfl, rfl⟩ := hR.shape
  go_wp2_with fail
  refine hKK.out _ _ (⟨hHeld.1.keep hbB, hHeld.2.1.keep hbB, hHeld.2.2.1.keep hbB, hHeld.2.2.2.trans (hbB.mono hHeld.2.2.2.size)⟩) (fun _ => ?_)
  clear hKK KK hHeld; rename_i hHeld
  try simp only [Act.put, List.getElem_toArray, List.getElem_cons_succ, List.getElem_cons_zero, List.setIfInBounds_toArray, List.set_cons_zero, List.set_cons_succ]
  refine wpAnyH_ready (rs := [7]) (by kernel_rfl) (by simp) ?_
  refine AllReadyH.cons rfl (fun KK hKK => ?_) AllReadyH.nil
  have ha0 := hHeld.2.2.1.someCell 0 (by decide); have hf0 := hHeld.2.2.1.frozen 0; have ha1 := hHeld.2.2.1.someCell 1 (by decide); have hf1 := hHeld.2.2.1.frozen 1; have ha2 := hHeld.2.2.1.someCell 2 (by decide); have hf2 := hHeld.2.2.1.frozen 2; have HK := Lib.hid (hHeld.2.2.1.setCell [.bool gz, .slice AZ nZ cZ, .slice BZ mZ dZ] rfl); have F := Lib.hid (below_sets (w0 := w) (r := (w.heap.size + 2)) (by omega) [.bool gz, .slice AZ nZ cZ, .slice BZ mZ dZ] 0 _ hHeld.2.2.2); have FR := Lib.hid (hHeld.2.2.1.rat hR [.bool gz, .slice AZ nZ cZ, .slice BZ mZ dZ])
  go_simp
  refine hKK.out _ _ (⟨hHeld.1.other (by omega) 0 [.bool gz, .slice AZ nZ cZ, .slice BZ mZ dZ], hHeld.2.1.other (by omega) 0 [.bool gz, .slice AZ nZ cZ, .slice BZ mZ dZ], hHeld.2.2.1.sets [.bool gz, .slice AZ nZ cZ, .slice BZ mZ dZ] rfl rfl, below_sets (by omega) [.bool gz, .slice AZ nZ cZ, .slice BZ mZ dZ] 0 _ hHeld.2.2.2⟩) (fun _ => ?_)
  clear hKK KK hHeld; rename_i hHeld
  try simp only [Act.put, List.getElem_toArray, List.getElem_cons_succ, List.getElem_cons_zero, List.setIfInBounds_toArray, List.set_cons_zero, List.set_cons_succ]
  refine wpAnyH_done (by kernel_rfl) ?_ _
  have hk0 := HK.out 0 (by decide)
  have hk1 := HK.out 1 (by decide)
  have hk2 := HK.out 2 (by decide)
  simp [sets] at hk0 hk1 hk2
  clear hHeld HK hS hbA hR hbB
  clear LB4 LR4 LG0_4 LG1_4
  go_wp2
  refine bodyPost_ret (v := .agg #[.bool gz, .slice AZ nZ cZ, .slice BZ mZ dZ]) (by simp [results, Tryz.results138, go_sem, hk0, hk1, hk2]) rfl ?_
  exact ⟨_, _, _, rfl, FR.out, F.out⟩

theorem radd_v (K : Nat) (g1 : Bool) (vn1 vd1 : Value) (x1 : Rat) (g2 : Bool) (vn2 vd2 : Value) (x2 : Rat) (w : World) (h1 : RatV w K g1 vn1 vd1 x1) (h2 : RatV w K g2 vn2 vd2 x2) (hK : K ≤ 1048576) :
    Calls Tryz.prog 138 #[.agg #[.bool g1, vn1, vd1], .agg #[.bool g2, vn2, vd2]] w (NewRat w (2 * K + 1) (x1 + x2)) := by
  obtain ⟨p1, q1, A1, n1, c1, B1, m1, d1, rfl, rfl, u1, v1, hq1, -, k1, k2, rfl⟩ := h1
  obtain ⟨p2, q2, A2, n2, c2, B2, m2, d2, rfl, rfl, u2, v2, hq2, -, k3, k4, rfl⟩ := h2
  have l1 := u1.len_le k1
  have l2 := v1.len_le k2
  have l3 := u2.len_le k3
  have l4 := v2.len_le k4
  have mm : ∀ a b : Nat, a < 2^(32 * K) → b < 2^(32 * K) → a * b < 2^(64 * K) := by
    intro a b ha hb
    have h : 2^(64 * K) = 2^(32 * K) * 2^(32 * K) := by rw [← Nat.pow_add]; congr 1; omega
    rw [h]
    exact Nat.mul_lt_mul'' ha hb
  have e1 := mm p1 q2 k1 k4
  have e2 := mm p2 q1 k3 k2
  have e3 := mm q1 q2 k2 k4
  have hh : 2 * 2^(64 * K) ≤ 2^(32 * (2 * K + 1)) := by
    rw [show 32 * (2 * K + 1) = 64 * K + 32 from by omega, Nat.pow_add]
    have : 2 * 2^(64 * K) ≤ 2^(64 * K) * 2^32 := by rw [Nat.mul_comm]; exact Nat.mul_le_mul_left _ (by decide)
    exact this
  rw [rv_add _ _ _ _ _ _ hq1 hq2]
  unfold dsum
  by_cases hg : g1 = g2
  · subst hg
    rw [if_pos rfl]
    exact radd_same (2 * K + 1) g1 p1 q1 p2 q2 A1 n1 c1 B1 m1 d1 A2 n2 c2 B2 m2 d2 w u1 v1 u2 v2 (by omega) (by omega) (by omega) (by omega) hq1 hq2 (by omega) (by omega) (by omega) (by omega) (by omega) (by omega)
  · rw [if_neg hg]
    have hgh : (g1 == g2) = false := by simpa using hg
    by_cases hl : p1 * q2 < p2 * q1
    · rw [if_pos hl]
      exact radd_lt (2 * K + 1) g1 g2 p1 q1 p2 q2 A1 n1 c1 B1 m1 d1 A2 n2 c2 B2 m2 d2 w u1 v1 u2 v2 (by omega) (by omega) (by omega) (by omega) hgh hl hq1 hq2 (by omega) (by omega) (by omega) (by omega) (by omega) (by omega)
    · rw [if_neg hl]
      exact radd_ge (2 * K + 1) g1 g2 p1 q1 p2 q2 A1 n1 c1 B1 m1 d1 A2 n2 c2 B2 m2 d2 w u1 v1 u2 v2 (by omega) (by omega) (by omega) (by omega) hgh (by omega) hq1 hq2 (by omega) (by omega) (by omega) (by omega) (by omega) (by omega)

end Go.Proofs.YtmjkmoahkanblaaGreat

namespace Go.Proofs.YtmjkmoahkanblaaGreat
open Go.RowKit

set_option maxHeartbeats 1600000 in
theorem numbers_lo (p q : Nat) (w : World) (I1 : ∀ W, Calls Tryz.prog 137 #[.int .u64 (p : Int)] W fun e w' => e = .returned (.bool true) ∧ Below W.heap.size W w') :
    Calls Tryz.prog 67 #[.agg #[.int .u64 (p : Int), .int .u64 (q : Int)]] w fun e w' => e = .returned (.bool false) ∧ Below w.heap.size w w' := by
  have K1 := Lib.hid I1
  clear I1
  have LB0 := Lib.hid (show Below w.heap.size w (w.alloc (.cells #[.int .u64 (p : Int), .int .u64 (q : Int)] 24)) from (below_alloc w _))
  have LG0_0 := Lib.hid ((Blk.at (W := w) (g := w.heap.size) (by simp <;> omega) 24 #[.int .u64 (p : Int), .int .u64 (q : Int)]))
  go_enter Tryz.func67, Tryz.ntmps67
  go_wp2_with fail
  refine (K1.out _).mono ?_
  rintro e w1 ⟨rfl, hb1⟩
  have LB1 := Lib.hid (LB0.out.trans (hb1.mono LB0.out.size))
  have LG0_1 := Lib.hid (LG0_0.out.keep hb1)
  clear LB0 LG0_0
  clear hb1
  have q0_0 : _ = some (.int .u64 (p : Int) : Value) := LG0_1.out.cell 0
  have q0_1 : _ = some (.int .u64 (q : Int) : Value) := LG0_1.out.cell 1
  go_wp2
  go_ret
  exact ⟨rfl, LB1.out⟩

set_option maxHeartbeats 1600000 in
theorem numbers_hi (p q : Nat) (w : World) (I1 : ∀ W, Calls Tryz.prog 137 #[.int .u64 (p : Int)] W fun e w' => e = .returned (.bool false) ∧ Below W.heap.size W w') (I2 : ∀ W, Calls Tryz.prog 137 #[.int .u64 (q : Int)] W fun e w' => e = .returned (.bool true) ∧ Below W.heap.size W w') :
    Calls Tryz.prog 67 #[.agg #[.int .u64 (p : Int), .int .u64 (q : Int)]] w fun e w' => e = .returned (.bool false) ∧ Below w.heap.size w w' := by
  have K1 := Lib.hid I1
  have K2 := Lib.hid I2
  clear I1 I2
  have LB0 := Lib.hid (show Below w.heap.size w (w.alloc (.cells #[.int .u64 (p : Int), .int .u64 (q : Int)] 24)) from (below_alloc w _))
  have LG0_0 := Lib.hid ((Blk.at (W := w) (g := w.heap.size) (by simp <;> omega) 24 #[.int .u64 (p : Int), .int .u64 (q : Int)]))
  go_enter Tryz.func67, Tryz.ntmps67
  go_wp2_with fail
  refine (K1.out _).mono ?_
  rintro e w1 ⟨rfl, hb1⟩
  have LB1 := Lib.hid (LB0.out.trans (hb1.mono LB0.out.size))
  have LG0_1 := Lib.hid (LG0_0.out.keep hb1)
  clear LB0 LG0_0
  clear hb1
  have q0_0 : _ = some (.int .u64 (p : Int) : Value) := LG0_1.out.cell 0
  have q0_1 : _ = some (.int .u64 (q : Int) : Value) := LG0_1.out.cell 1
  go_wp2_with fail
  refine (K2.out _).mono ?_
  rintro e w2 ⟨rfl, hb2⟩
  have LB2 := Lib.hid (LB1.out.trans (hb2.mono LB1.out.size))
  have LG0_2 := Lib.hid (LG0_1.out.keep hb2)
  clear LB1 LG0_1
  clear hb2 q0_0 q0_1
  go_wp2
  go_ret
  exact ⟨rfl, LB2.out⟩

set_option maxHeartbeats 1600000 in
theorem numbers_yes (p q : Nat) (w : World) (I1 : ∀ W, Calls Tryz.prog 137 #[.int .u64 (p : Int)] W fun e w' => e = .returned (.bool false) ∧ Below W.heap.size W w') (I2 : ∀ W, Calls Tryz.prog 137 #[.int .u64 (q : Int)] W fun e w' => e = .returned (.bool false) ∧ Below W.heap.size W w') :
    Calls Tryz.prog 67 #[.agg #[.int .u64 (p : Int), .int .u64 (q : Int)]] w fun e w' => e = .returned (.bool true) ∧ Below w.heap.size w w' := by
  have K1 := Lib.hid I1
  have K2 := Lib.hid I2
  clear I1 I2
  have LB0 := Lib.hid (show Below w.heap.size w (w.alloc (.cells #[.int .u64 (p : Int), .int .u64 (q : Int)] 24)) from (below_alloc w _))
  have LG0_0 := Lib.hid ((Blk.at (W := w) (g := w.heap.size) (by simp <;> omega) 24 #[.int .u64 (p : Int), .int .u64 (q : Int)]))
  go_enter Tryz.func67, Tryz.ntmps67
  go_wp2_with fail
  refine (K1.out _).mono ?_
  rintro e w1 ⟨rfl, hb1⟩
  have LB1 := Lib.hid (LB0.out.trans (hb1.mono LB0.out.size))
  have LG0_1 := Lib.hid (LG0_0.out.keep hb1)
  clear LB0 LG0_0
  clear hb1
  have q0_0 : _ = some (.int .u64 (p : Int) : Value) := LG0_1.out.cell 0
  have q0_1 : _ = some (.int .u64 (q : Int) : Value) := LG0_1.out.cell 1
  go_wp2_with fail
  refine (K2.out _).mono ?_
  rintro e w2 ⟨rfl, hb2⟩
  have LB2 := Lib.hid (LB1.out.trans (hb2.mono LB1.out.size))
  have LG0_2 := Lib.hid (LG0_1.out.keep hb2)
  clear LB1 LG0_1
  clear hb2 q0_0 q0_1
  go_wp2
  go_ret
  exact ⟨rfl, LB2.out⟩

theorem numbers_any (i j : Int) (w : World) (h : Iv i j) :
    Calls Tryz.prog 67 #[.agg #[.int .u64 (pat i : Int), .int .u64 (pat j : Int)]] w fun e w' => e = .returned (.bool (com i j)) ∧ Below w.heap.size w w' := by
  have hi := h.lo
  have hj := h.hi
  have I : ∀ k : Int, -(M : Int) ≤ k → k ≤ M → ∀ W, Calls Tryz.prog 137 #[.int .u64 (pat k : Int)] W fun e w' => e = .returned (.bool (decide (k.natAbs = M))) ∧ Below W.heap.size W w' := by
    intro k h1 h2 W
    refine (isinf_any (pat k) W (pat_lt h1 h2)).mono ?_
    rintro e w' ⟨rfl, n, rfl⟩
    rw [rung_pat h1 h2]
    exact ⟨rfl, below_drewN (Below.refl _ _) n⟩
  have I1 := I i hi.1 hi.2
  have I2 := I j hj.1 hj.2
  have hM : M = 9218868437227405312 := rfl
  unfold com
  unfold Iv at h
  by_cases c1 : i.natAbs = M
  · rw [decide_eq_true c1] at I1
    rw [decide_eq_false (by omega)]
    exact numbers_lo _ _ w I1
  · rw [decide_eq_false c1] at I1
    by_cases c2 : j.natAbs = M
    · rw [decide_eq_true c2] at I2
      rw [decide_eq_false (by omega)]
      exact numbers_hi _ _ w I1 I2
    · rw [decide_eq_false c2] at I2
      rw [decide_eq_true (by omega)]
      exact numbers_yes _ _ w I1 I2

set_option maxHeartbeats 3200000 in
theorem rsub_v (K : Nat) (g1 : Bool) (A1 : Option Addr) (n1 c1 : Nat) (B1 : Option Addr) (m1 d1 : Nat) (x1 : Rat) (g2 : Bool) (A2 : Option Addr) (n2 c2 : Nat) (B2 : Option Addr) (m2 d2 : Nat) (x2 : Rat) (w : World) (h1 : RatV w K g1 (.slice A1 n1 c1) (.slice B1 m1 d1) x1) (h2 : RatV w K g2 (.slice A2 n2 c2) (.slice B2 m2 d2) x2) (hK : K ≤ 1048576) :
    Calls Tryz.prog 69 #[.agg #[.bool g1, .slice A1 n1 c1, .slice B1 m1 d1], .agg #[.bool g2, .slice A2 n2 c2, .slice B2 m2 d2]] w (NewRatS w (2 * K + 1) (x1 - x2)) := by
  have T1 := Lib.hid fun W (hW : Below w.heap.size w W) => (rneg_any K g2 _ _ x2 W (h2.below hW) (by omega)).mono fun _ _ h => h.s
  have T2 := Lib.hid fun W g A n c B m d (hW : Below w.heap.size w W) (h : RatV W K g (.slice A n c) (.slice B m d) (-x2)) => (radd_v K g1 _ _ x1 g _ _ (-x2) W (h1.below hW) h hK).mono fun _ _ h => h.s
  rw [show x1 - x2 = x1 + -x2 from Rat.sub_eq_add_neg _ _]
  clear h1 h2
  have LB0 := Lib.hid (show Below w.heap.size w (((w.alloc (.cells #[.bool g1, .slice A1 n1 c1, .slice B1 m1 d1] 60)).alloc (.cells #[.bool g2, .slice A2 n2 c2, .slice B2 m2 d2] 60)).alloc (.cells #[.bool false, .slice none 0 0, .slice none 0 0] 60)) from (((below_alloc w _).alloc (by simp <;> omega) _).alloc (by simp <;> omega) _))
  have LG0_0 := Lib.hid ((((Blk.at (W := w) (g := w.heap.size) (by simp <;> omega) 60 #[.bool g1, .slice A1 n1 c1, .slice B1 m1 d1]).alloc (.cells #[.bool g2, .slice A2 n2 c2, .slice B2 m2 d2] 60)).alloc (.cells #[.bool false, .slice none 0 0, .slice none 0 0] 60)))
  have LG1_0 := Lib.hid (((Blk.at (W := (w.alloc (.cells #[.bool g1, .slice A1 n1 c1, .slice B1 m1 d1] 60))) (g := (w.heap.size + 1)) (by simp <;> omega) 60 #[.bool g2, .slice A2 n2 c2, .slice B2 m2 d2]).alloc (.cells #[.bool false, .slice none 0 0, .slice none 0 0] 60)))
  have LR0 := Lib.hid (HasBlk.of (n := 3) (Blk.at (W := ((w.alloc (.cells #[.bool g1, .slice A1 n1 c1, .slice B1 m1 d1] 60)).alloc (.cells #[.bool g2, .slice A2 n2 c2, .slice B2 m2 d2] 60))) (g := (w.heap.size + 2)) (by simp <;> omega) 60 #[.bool false, .slice none 0 0, .slice none 0 0]) rfl rfl)
  go_enter Tryz.func69, Tryz.ntmps69
  go_wp2_with fail
  refine wp_region_held_drew (S := fun W' => Blk W' w.heap.size 60 #[.bool g1, .slice A1 n1 c1, .slice B1 m1 d1] ∧ Blk W' (w.heap.size + 1) 60 #[.bool g2, .slice A2 n2 c2, .slice B2 m2 d2] ∧ HasBlk W' (w.heap.size + 2) 60 3 ∧ Below w.heap.size w W') (by kernel_rfl) (by exact ⟨LG0_0.out.drew, LG1_0.out.drew, LR0.out.drew, LB0.out.drew⟩) (fun hHeld => ?_)
  refine wpAnyH_take (i := 0) (v := ?_) rfl (by kernel_rfl) (by kernel_rfl) (by kernel_rfl) (fun _ _ _ h => h) (Or.inl ⟨by rfl, ?_⟩) (by assumption) ?_
  rotate_left
  · (intro W2 hSw; (try dsimp only at hSw); have q0 : _ = some (.bool g1 : Value) := hSw.1.cell 0; have q1 : _ = some (.slice A1 n1 c1 : Value) := hSw.1.cell 1; have q2 : _ = some (.slice B1 m1 d1 : Value) := hSw.1.cell 2; go_simp; (try with_reducible rfl))
  try simp only [Act.put, List.getElem_toArray, List.getElem_cons_succ, List.getElem_cons_zero, List.setIfInBounds_toArray, List.set_cons_zero, List.set_cons_succ]
  refine wpAnyH_take (i := 1) (v := ?_) rfl (by kernel_rfl) (by kernel_rfl) (by kernel_rfl) (fun _ _ _ h => h) (Or.inl ⟨by rfl, ?_⟩) (by assumption) ?_
  rotate_left
  · (intro W2 hSw; (try dsimp only at hSw); have q0 : _ = some (.bool g2 : Value) := hSw.2.1.cell 0; have q1 : _ = some (.slice A2 n2 c2 : Value) := hSw.2.1.cell 1; have q2 : _ = some (.slice B2 m2 d2 : Value) := hSw.2.1.cell 2; go_simp; (try with_reducible rfl))
  try simp only [Act.put, List.getElem_toArray, List.getElem_cons_succ, List.getElem_cons_zero, List.setIfInBounds_toArray, List.set_cons_zero, List.set_cons_succ]
  refine wpAnyH_ready (rs := [2]) (by kernel_rfl) (by simp) ?_
  refine AllReadyH.cons rfl (fun KK hKK => ?_) AllReadyH.nil
  go_simp
  refine (T1.out _ ?_).mono ?_; exact hHeld.2.2.2
  rintro e w3 ⟨g3, A3, n3, c3, B3, m3, d3, rfl, h3, hbA⟩
  go_wp2_with fail
  refine hKK.out _ _ (⟨hHeld.1.keep hbA, hHeld.2.1.keep hbA, hHeld.2.2.1.keep hbA, hHeld.2.2.2.trans (hbA.mono hHeld.2.2.2.size)⟩) (fun _ => ?_)
  clear hKK KK hHeld; rename_i hHeld
  try simp only [Act.put, List.getElem_toArray, List.getElem_cons_succ, List.getElem_cons_zero, List.setIfInBounds_toArray, List.set_cons_zero, List.set_cons_succ]
  refine wpAnyH_ready (rs := [3]) (by kernel_rfl) (by simp) ?_
  refine AllReadyH.cons rfl (fun KK hKK => ?_) AllReadyH.nil
  go_simp
  refine (T2.out _ _ _ _ _ _ _ _ ?_ h3).mono ?_; exact hHeld.2.2.2
  rintro e w4 ⟨g4, A4, n4, c4, B4, m4, d4, rfl, h4, hbB⟩
  go_wp2_with fail
  refine hKK.out _ _ (⟨hHeld.1.keep hbB, hHeld.2.1.keep hbB, hHeld.2.2.1.keep hbB, hHeld.2.2.2.trans (hbB.mono hHeld.2.2.2.size)⟩) (fun _ => ?_)
  clear hKK KK hHeld; rename_i hHeld
  try simp only [Act.put, List.getElem_toArray, List.getElem_cons_succ, List.getElem_cons_zero, List.setIfInBounds_toArray, List.set_cons_zero, List.set_cons_succ]
  refine wpAnyH_ready (rs := [4]) (by kernel_rfl) (by simp) ?_
  refine AllReadyH.cons rfl (fun KK hKK => ?_) AllReadyH.nil
  have ha0 := hHeld.2.2.1.someCell 0 (by decide); have hf0 := hHeld.2.2.1.frozen 0; have ha1 := hHeld.2.2.1.someCell 1 (by decide); have hf1 := hHeld.2.2.1.frozen 1; have ha2 := hHeld.2.2.1.someCell 2 (by decide); have hf2 := hHeld.2.2.1.frozen 2; have HK := Lib.hid (hHeld.2.2.1.setCell [.bool g4, .slice A4 n4 c4, .slice B4 m4 d4] rfl); have F := Lib.hid (below_sets (w0 := w) (r := (w.heap.size + 2)) (by omega) [.bool g4, .slice A4 n4 c4, .slice B4 m4 d4] 0 _ hHeld.2.2.2); have FR := Lib.hid (hHeld.2.2.1.rat h4 [.bool g4, .slice A4 n4 c4, .slice B4 m4 d4])
  go_simp
  refine hKK.out _ _ (⟨hHeld.1.other (by omega) 0 [.bool g4, .slice A4 n4 c4, .slice B4 m4 d4], hHeld.2.1.other (by omega) 0 [.bool g4, .slice A4 n4 c4, .slice B4 m4 d4], hHeld.2.2.1.sets [.bool g4, .slice A4 n4 c4, .slice B4 m4 d4] rfl rfl, below_sets (by omega) [.bool g4, .slice A4 n4 c4, .slice B4 m4 d4] 0 _ hHeld.2.2.2⟩) (fun _ => ?_)
  clear hKK KK hHeld; rename_i hHeld
  try simp only [Act.put, List.getElem_toArray, List.getElem_cons_succ, List.getElem_cons_zero, List.setIfInBounds_toArray, List.set_cons_zero, List.set_cons_succ]
  refine wpAnyH_done (by kernel_rfl) ?_ _
  have hk0 := HK.out 0 (by decide)
  have hk1 := HK.out 1 (by decide)
  have hk2 := HK.out 2 (by decide)
  simp [sets] at hk0 hk1 hk2
  clear hHeld HK h3 hbA h4 hbB
  clear LB0 LR0 LG0_0 LG1_0
  go_wp2
  refine bodyPost_ret (v := .agg #[.bool g4, .slice A4 n4 c4, .slice B4 m4 d4]) (by simp [results, Tryz.results69, go_sem, hk0, hk1, hk2]) rfl ?_
  exact ⟨_, _, _, _, _, _, _, rfl, FR.out, F.out⟩

end Go.Proofs.YtmjkmoahkanblaaGreat
