/-
Walks: package round: part.
Walks: package round: sum, to.
Walks: package round: sum of any two, to; what they are worth.
-/
import Derived.Test.YtmjkmoahkanblaaGreatM04
import Derived.Test.YtmjkmoahkanblaaGreatM13
import Derived.Test.YtmjkmoahkanblaaGreatM03
set_option linter.unusedSimpArgs false
set_option linter.unusedVariables false
set_option maxHeartbeats 12800000

namespace Go.Proofs.YtmjkmoahkanblaaGreat
open Go.RowKit
attribute [local go_sem] run_store_float run_frombits run_bitsof run_negf
def NewDy (w : World) (neg : Bool) (S : Nat) (x : Int) (e : Ending) (w' : World) : Prop :=
  ∃ A n c, e = .returned (.agg #[.bool neg, .slice A n c, .int .i64 x]) ∧ U32s w' A n c (digs S) ∧ Below w.heap.size w w'
theorem part_walk (b e f S : Nat) (neg : Bool) (w : World) (hb : b < 18446744073709551616) (he : b / 4503599627370496 % 2048 = e) (hff : b % 4503599627370496 = f) (hn : (b / 9223372036854775808 == 1) = neg) (hS : S = if e = 0 then f else f + 4503599627370496) :
    Calls Tryz.prog 184 #[.float .f64 b] w (NewDy w neg S ((if e = 0 then (e : Int) else (e : Int) - 1) - 1074)) := by
  have m1 := mask52_u64 hb
  rw [hff] at m1
  have m2 : bits .and .u64 ((b : Int) / 4503599627370496) 2047 = (e : Int) := by
    have h := mask11_u64 (x := b / 4503599627370496) (by omega)
    rw [he, show ((b / 4503599627370496 : Nat) : Int) = (b : Int) / 4503599627370496 from by omega] at h
    exact h
  have m3 : ((b : Int) / 9223372036854775808 == 1) = neg := by
    rw [← hn, Bool.eq_iff_iff]
    simp only [beq_iff_eq]
    omega
  have ff := fun W => run_bitsof b W
  have hf2 : f < 4503599627370496 := by omega
  have he2 : e < 2048 := by omega
  have hor := or_join' (i := 52) (x := 1) (y := f) (by omega) (by omega) (by omega)
  rw [show ((1 * 2^52 : Nat) : Int) = 4503599627370496 from rfl, show (f + 1 * 2^52 : Nat) = f + 4503599627370496 from rfl] at hor
  clear hff hn he
  by_cases h0 : e = 0
  · subst h0
    rw [if_pos rfl] at hS ⊢
    subst hS
    have HS := Lib.hid fun W => nsmall_any S W (by omega)
    clear hor
    obtain ⟨LB0, LR⟩ := bx1 w #[.bool false, .slice none 0 0, .int .i64 0] 156
    have LR0 := Lib.hid (HasBlk.of (n := 3) LR.out rfl rfl)
    clear LR
    go_enter Tryz.func184, Tryz.ntmps184
    go_wp2_with fail
    refine (HS.out _).mono ?_
    rintro e w1 ⟨A, n, c, rfl, hu, hb1⟩
    have LB1 := stB LB0 hb1 LB0.out.size
    have LR1 := stR LR0 hb1
    clear LB0 LR0
    obtain ⟨ha0, hf0, ha1, hf1, ha2, hf2⟩ := LR1.out.sf3
    obtain ⟨hk0, hk1, hk2⟩ := LR1.out.sc3 (.bool neg) (.slice A n c) (.int .i64 (-1074))
    have F := Lib.hid (below_sets (w0 := w) (r := w.heap.size) (by omega) [.bool neg, .slice A n c, .int .i64 (-1074)] 0 _ LB1.out)
    simp [sets] at hk0 hk1 hk2
    have FU := Lib.hid (LR1.out.u32s hu [.bool neg, .slice A n c, .int .i64 (-1074)])
    clear hu hb1 HS
    go_wp2
    refine bodyPost_ret (v := .agg #[.bool neg, .slice A n c, .int .i64 (-1074)]) (by simp [results, Tryz.results184, go_sem, hk0, hk1, hk2]) rfl ?_
    exact ⟨A, n, c, rfl, FU.out, F.out⟩
  · rw [if_neg h0] at hS ⊢
    subst hS
    have HS := Lib.hid fun W => nsmall_any (f + 4503599627370496) W (by omega)
    obtain ⟨S, hS⟩ : ∃ S, f + 4503599627370496 = S := ⟨_, rfl⟩
    rw [hS] at HS hor ⊢
    have hei : (0 : Int) < (e : Int) := by omega
    clear h0 hS
    obtain ⟨LB0, LR⟩ := bx1 w #[.bool false, .slice none 0 0, .int .i64 0] 156
    have LR0 := Lib.hid (HasBlk.of (n := 3) LR.out rfl rfl)
    clear LR
    go_enter Tryz.func184, Tryz.ntmps184
    go_wp2_with fail
    refine (HS.out _).mono ?_
    rintro e w1 ⟨A, n, c, rfl, hu, hb1⟩
    have LB1 := stB LB0 hb1 LB0.out.size
    have LR1 := stR LR0 hb1
    clear LB0 LR0
    obtain ⟨ha0, hf0, ha1, hf1, ha2, hf2⟩ := LR1.out.sf3
    obtain ⟨hk0, hk1, hk2⟩ := LR1.out.sc3 (.bool neg) (.slice A n c) (.int .i64 ((e : Int) - 1 - 1074))
    have F := Lib.hid (below_sets (w0 := w) (r := w.heap.size) (by omega) [.bool neg, .slice A n c, .int .i64 ((e : Int) - 1 - 1074)] 0 _ LB1.out)
    simp [sets] at hk0 hk1 hk2
    have FU := Lib.hid (LR1.out.u32s hu [.bool neg, .slice A n c, .int .i64 ((e : Int) - 1 - 1074)])
    clear hu hb1 HS
    go_wp2
    refine bodyPost_ret (v := .agg #[.bool neg, .slice A n c, .int .i64 ((e : Int) - 1 - 1074)]) (by simp [results, Tryz.results184, go_sem, hk0, hk1, hk2]) rfl ?_
    exact ⟨A, n, c, rfl, FU.out, F.out⟩
theorem part_any (b : Nat) (hb : b < 18446744073709551616) (hf : fin b) : ∃ (S : Nat) (x : Int), S < 9007199254740992 ∧ -1074 ≤ x ∧ x ≤ 971 ∧ fl (idx b) = rv (sgn b) S 1 * 2^x ∧ ∀ w, Calls Tryz.prog 184 #[.float .f64 b] w (NewDy w (sgn b) S x) := by
  have hp := fl_parts (b := b) hf rfl rfl rfl
  have hn : (b / 9223372036854775808 == 1) = sgn b := by
    unfold sgn
    rw [Bool.eq_iff_iff]
    simp only [beq_iff_eq]
    omega
  refine ⟨_, _, ?_, ?_, ?_, ?_, fun w => part_walk b _ _ _ (sgn b) w hb rfl rfl hn rfl⟩
  · split <;> omega
  · split <;> omega
  · split <;> omega
  · by_cases h0 : b / 4503599627370496 % 2048 = 0
    · rw [if_pos h0, if_pos h0]; exact hp.2.2.2 h0
    · rw [if_neg h0, if_neg h0]; exact hp.2.2.1 (by omega)
end Go.Proofs.YtmjkmoahkanblaaGreat

namespace Go.Proofs.YtmjkmoahkanblaaGreat
open Go.RowKit
attribute [local go_sem] run_store_float run_frombits run_bitsof run_negf
end Go.Proofs.YtmjkmoahkanblaaGreat

namespace Go.Proofs.YtmjkmoahkanblaaGreat
open Go.RowKit
attribute [local go_sem] run_store_float run_frombits run_bitsof run_negf
theorem rv_exact (n : Bool) (S : Nat) (x : Int) : rv n (S * 2^x.toNat) (2^(-x).toNat) = rv n S 1 * 2^x := by
  have h := rv_scale n (p := S) (q := 1) (by omega) x
  rw [Nat.one_mul] at h; exact h
theorem to_any (d : Int) (neg : Bool) (A : Option Addr) (n c S : Nat) (x : Int) (w : World) (hu : U32s w A n c (digs S)) (hd : d = -1 ∨ d = 1) (hb : blen S ≤ 524288) (hx1 : -1000000 ≤ x) (hx2 : x ≤ 1099511627776) :
    Calls Tryz.prog 185 #[.agg #[.bool neg, .slice A n c, .int .i64 x], .int .i64 d] w fun e w' => e = .returned (.float .f64 (pat (rndI d (rv neg S 1 * 2^x)))) ∧ Below w.heap.size w w' := by
  have HO := Lib.hid (show ∀ W, Below w.heap.size w W → Calls Tryz.prog 227 #[.int .i64 d, .bool neg, .slice A n c, .int .i64 x, .bool false] W fun e w' => e = .returned (.float .f64 (pat (rndI d (rv neg S 1 * 2^x)))) ∧ Below W.heap.size W w' from fun W hW => by
    rcases Nat.eq_zero_or_pos S with h0 | h0
    · subst h0
      rw [rv_zero, Rat.zero_mul, rndI_zero hd, pat_zero]
      refine (of_nought d neg false A n c (digs 0) x W (hu.below hW) (num_digs 0)).mono ?_
      rintro e w' ⟨rfl, rfl⟩
      exact ⟨rfl, Below.refl _ _⟩
    · rw [← rv_exact]
      exact of_pos d neg false A n c S _ _ (digs S) x W (hu.below hW) (num_digs S) h0 (wlen_blen hb) hd (Dg.exact S x) (Nat.two_pow_pos _) (fun h => by cases h) hx1 hx2)
  obtain ⟨r, hr⟩ : ∃ r, pat (rndI d (rv neg S 1 * 2^x)) = r := ⟨_, rfl⟩
  rw [hr] at HO ⊢
  clear hu hd hr
  obtain ⟨LB0, LG0_0⟩ := bx1 w #[.bool neg, .slice A n c, .int .i64 x] 156
  go_enter Tryz.func185, Tryz.ntmps185
  obtain ⟨q0_0, q0_1, q0_2⟩ := LG0_0.out.c3
  go_wp2_with fail
  refine (HO.out _ LB0.out).mono ?_
  rintro e w1 ⟨rfl, hb1⟩
  have LB1 := stB LB0 hb1 LB0.out.size
  have LG0_1 := stG LG0_0 hb1
  clear LB0 LG0_0
  clear hb1 HO q0_0 q0_1 q0_2
  go_wp2
  go_ret
  exact ⟨rfl, LB1.out⟩
end Go.Proofs.YtmjkmoahkanblaaGreat
