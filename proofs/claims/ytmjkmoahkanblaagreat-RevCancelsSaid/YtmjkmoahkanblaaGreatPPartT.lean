/-
Walks: package round: part.
Walks: package round: sum, to.
-/
import Derived.Test.YtmjkmoahkanblaaGreatM16
import Derived.Test.YtmjkmoahkanblaaGreatM03
import Derived.Test.YtmjkmoahkanblaaGreatM04
set_option linter.unusedSimpArgs false
set_option linter.unusedVariables false

namespace Go.Proofs.YtmjkmoahkanblaaGreat
open Go.RowKit
attribute [local go_sem] run_store_float run_frombits run_bitsof run_negf

/-- A dyadic that a call answers. -/
def NewDy (w : World) (neg : Bool) (S : Nat) (x : Int) (e : Ending) (w' : World) : Prop :=
  ∃ A n c, e = .returned (.agg #[.bool neg, .slice A n c, .int .i64 x]) ∧ U32s w' A n c (digs S) ∧ Below w.heap.size w w'
theorem HasBlk.u32s {W : World} {r : Nat} {t : TypeId} {n0 : Nat} {A : Option Addr} {n c : Nat} {xs : List Nat} (h : HasBlk W r t n0) (hu : U32s W A n c xs) (vs : List Value) : U32s (Proofs.YtmjkmoahkanblaaGreat.sets W r 0 vs) A n c xs := by
  obtain ⟨cs, h1, h2, h3⟩ := h
  exact hu.sets h1 h3 0 vs

set_option maxHeartbeats 1600000 in
theorem part_walk (b e f S : Nat) (neg : Bool) (w : World) (hb : b < 18446744073709551616) (he : b / 4503599627370496 % 2048 = e) (hff : b % 4503599627370496 = f) (hn : (b / 9223372036854775808 == 1) = neg) (hS : S = if e = 0 then f else f + 4503599627370496) :
    Calls Tryz.prog 184 #[.float .f64 b] w (NewDy w neg S ((if e = 0 then (e : Int) else (e : Int) - 1) - 1074)) := by
  have m1 := mask52_u64 hb
  rw [hff] at m1
  have m2 : bits .and .u64 ((b : Int) / 4503599627370496) 2047 = (e : Int) := by
    have h := mask11_u64 (x := b / 4503599627370496) (by omega)
    rw [he, show ((b / 4503599627370496 : Nat) : Int) = (b : Int) / 4503599627370496 from by omega] at h
    exact h
  have m3 : ((b : Int) / 9223372036854775808 == 1) = neg := by
    rw [← hn, Bool.eq_iff_iff]
    simp only [beq_iff_eq]
    omega
  have ff := fun W => run_bitsof b W
  have hf2 : f < 4503599627370496 := by omega
  have he2 : e < 2048 := by omega
  have hor := or_join' (i := 52) (x := 1) (y := f) (by omega) (by omega) (by omega)
  rw [show ((1 * 2^52 : Nat) : Int) = 4503599627370496 from rfl, show (f + 1 * 2^52 : Nat) = f + 4503599627370496 from rfl] at hor
  clear hff hn he
  by_cases h0 : e = 0
  · subst h0
    rw [if_pos rfl] at hS ⊢
    subst hS
    have HS := Lib.hid fun W => nsmall_any S W (by omega)
    clear hor
    have LB0 := Lib.hid (show Below w.heap.size w (w.alloc (.cells #[.bool false, .slice none 0 0, .int .i64 0] 156)) from (below_alloc w _))
    have LR0 := Lib.hid (HasBlk.of (n := 3) (Blk.at (W := w) (g := w.heap.size) (by simp <;> omega) 156 #[.bool false, .slice none 0 0, .int .i64 0]) rfl rfl)
    go_enter Tryz.func184, Tryz.ntmps184
    go_wp2_with fail
    refine (HS.out _).mono ?_
    rintro e w1 ⟨A, n, c, rfl, hu, hb1⟩
    have LB1 := Lib.hid (LB0.out.trans (hb1.mono LB0.out.size))
    have LR1 := Lib.hid (LR0.out.keep hb1)
    clear LB0 LR0
    have ha0 := LR1.out.someCell 0 (by decide)
    have hf0 := LR1.out.frozen 0
    have ha1 := LR1.out.someCell 1 (by decide)
    have hf1 := LR1.out.frozen 1
    have ha2 := LR1.out.someCell 2 (by decide)
    have hf2 := LR1.out.frozen 2
    have hk0 := LR1.out.setCell [.bool neg, .slice A n c, .int .i64 (-1074)] rfl 0 (by decide)
    have hk1 := LR1.out.setCell [.bool neg, .slice A n c, .int .i64 (-1074)] rfl 1 (by decide)
    have hk2 := LR1.out.setCell [.bool neg, .slice A n c, .int .i64 (-1074)] rfl 2 (by decide)
    have F := Lib.hid (below_sets (w0 := w) (r := w.heap.size) (by omega) [.bool neg, .slice A n c, .int .i64 (-1074)] 0 _ LB1.out)
    simp [sets] at hk0 hk1 hk2
    have FU := Lib.hid (LR1.out.u32s hu [.bool neg, .slice A n c, .int .i64 (-1074)])
    clear hu hb1 HS
    go_wp2
    refine bodyPost_ret (v := .agg #[.bool neg, .slice A n c, .int .i64 (-1074)]) (by simp [results, Tryz.results184, go_sem, hk0, hk1, hk2]) rfl ?_
    exact ⟨A, n, c, rfl, FU.out, F.out⟩
  · rw [if_neg h0] at hS ⊢
    subst hS
    have HS := Lib.hid fun W => nsmall_any (f + 4503599627370496) W (by omega)
    obtain ⟨S, hS⟩ : ∃ S, f + 4503599627370496 = S := ⟨_, rfl⟩
    rw [hS] at HS hor ⊢
    have hei : (0 : Int) < (e : Int) := by omega
    clear h0 hS
    have LB0 := Lib.hid (show Below w.heap.size w (w.alloc (.cells #[.bool false, .slice none 0 0, .int .i64 0] 156)) from (below_alloc w _))
    have LR0 := Lib.hid (HasBlk.of (n := 3) (Blk.at (W := w) (g := w.heap.size) (by simp <;> omega) 156 #[.bool false, .slice none 0 0, .int .i64 0]) rfl rfl)
    go_enter Tryz.func184, Tryz.ntmps184
    go_wp2_with fail
    refine (HS.out _).mono ?_
    rintro e w1 ⟨A, n, c, rfl, hu, hb1⟩
    have LB1 := Lib.hid (LB0.out.trans (hb1.mono LB0.out.size))
    have LR1 := Lib.hid (LR0.out.keep hb1)
    clear LB0 LR0
    have ha0 := LR1.out.someCell 0 (by decide)
    have hf0 := LR1.out.frozen 0
    have ha1 := LR1.out.someCell 1 (by decide)
    have hf1 := LR1.out.frozen 1
    have ha2 := LR1.out.someCell 2 (by decide)
    have hf2 := LR1.out.frozen 2
    have hk0 := LR1.out.setCell [.bool neg, .slice A n c, .int .i64 ((e : Int) - 1 - 1074)] rfl 0 (by decide)
    have hk1 := LR1.out.setCell [.bool neg, .slice A n c, .int .i64 ((e : Int) - 1 - 1074)] rfl 1 (by decide)
    have hk2 := LR1.out.setCell [.bool neg, .slice A n c, .int .i64 ((e : Int) - 1 - 1074)] rfl 2 (by decide)
    have F := Lib.hid (below_sets (w0 := w) (r := w.heap.size) (by omega) [.bool neg, .slice A n c, .int .i64 ((e : Int) - 1 - 1074)] 0 _ LB1.out)
    simp [sets] at hk0 hk1 hk2
    have FU := Lib.hid (LR1.out.u32s hu [.bool neg, .slice A n c, .int .i64 ((e : Int) - 1 - 1074)])
    clear hu hb1 HS
    go_wp2
    refine bodyPost_ret (v := .agg #[.bool neg, .slice A n c, .int .i64 ((e : Int) - 1 - 1074)]) (by simp [results, Tryz.results184, go_sem, hk0, hk1, hk2]) rfl ?_
    exact ⟨A, n, c, rfl, FU.out, F.out⟩

theorem part_any (b : Nat) (hb : b < 18446744073709551616) (hf : fin b) : ∃ (S : Nat) (x : Int), S < 9007199254740992 ∧ -1074 ≤ x ∧ x ≤ 971 ∧ fl (idx b) = rv (sgn b) S 1 * 2^x ∧ ∀ w, Calls Tryz.prog 184 #[.float .f64 b] w (NewDy w (sgn b) S x) := by
  have hp := fl_parts (b := b) hf rfl rfl rfl
  have hn : (b / 9223372036854775808 == 1) = sgn b := by
    unfold sgn
    rw [Bool.eq_iff_iff]
    simp only [beq_iff_eq]
    omega
  refine ⟨_, _, ?_, ?_, ?_, ?_, fun w => part_walk b _ _ _ (sgn b) w hb rfl rfl hn rfl⟩
  · split <;> omega
  · split <;> omega
  · split <;> omega
  · by_cases h0 : b / 4503599627370496 % 2048 = 0
    · rw [if_pos h0, if_pos h0]; exact hp.2.2.2 h0
    · rw [if_neg h0, if_neg h0]; exact hp.2.2.1 (by omega)

end Go.Proofs.YtmjkmoahkanblaaGreat

namespace Go.Proofs.YtmjkmoahkanblaaGreat
open Go.RowKit
attribute [local go_sem] run_store_float run_frombits run_bitsof run_negf

theorem digs_len_pos {S : Nat} (h : 0 < S) {n : Nat} (hl : (digs S).length = n) : 0 < n := by
  rcases Nat.eq_zero_or_pos n with h0 | h0
  · rw [h0, digs_length_eq_zero] at hl; omega
  · exact h0
theorem U32s.carry {W : World} {g : Nat} {t : TypeId} {cs : Array Value} {A : Option Addr} {n c : Nat} {xs : List Nat} (h : U32s W A n c xs) (hb : Blk W g t cs) (hc : cs.toList.all notWd = true) (i : Nat) (v : Value) : U32s (W.setCell ⟨g, i, none⟩ v) A n c xs :=
  h.sets hb (NoWd.of (by rw [← Array.all_toList]; exact hc)) i [v]
theorem wlen_digs_le {S K : Nat} (h : blen S ≤ 32 * K) : wlen (digs S) ≤ K := by
  rw [wlen_digs]; exact digs_length_le (blen_le_iff.1 h)
theorem blen_shl (S k : Nat) (h : 0 < S) : blen (S * 2^k) = blen S + k := by
  have h1 := blen_high (hi := S) (lo := 0) (k := k) h (Nat.two_pow_pos k)
  rw [Nat.zero_add, Nat.mul_comm] at h1
  rw [h1, Nat.add_comm]
/-- What sum answers. -/
def dsum (n1 : Bool) (S1 : Nat) (n2 : Bool) (T2 : Nat) : Bool × Nat := if n1 = n2 then (n1, S1 + T2) else if S1 < T2 then (n2, T2 - S1) else (n1, S1 - T2)

set_option maxHeartbeats 1600000 in
theorem sum_left (n1 : Bool) (A1 : Option Addr) (m1 c1 S1 : Nat) (e1 : Int) (n2 : Bool) (A2 : Option Addr) (m2 c2 S2 : Nat) (e2 : Int) (w : World) (h2 : U32s w A2 m2 c2 (digs S2)) (hm : m1 = 0) : Calls Tryz.prog 183 #[.agg #[.bool n1, .slice A1 m1 c1, .int .i64 e1], .agg #[.bool n2, .slice A2 m2 c2, .int .i64 e2]] w (NewDy w n2 S2 e2) := by
  subst hm
  have H2 := Lib.hid h2
  clear h2
  have LB0 := Lib.hid (show Below w.heap.size w (((w.alloc (.cells #[.bool n1, .slice A1 0 c1, .int .i64 e1] 156)).alloc (.cells #[.bool n2, .slice A2 m2 c2, .int .i64 e2] 156)).alloc (.cells #[.bool false, .slice none 0 0, .int .i64 0] 156)) from (((below_alloc w _).alloc (by simp <;> omega) _).alloc (by simp <;> omega) _))
  have LG0_0 := Lib.hid ((((Blk.at (W := w) (g := w.heap.size) (by simp <;> omega) 156 #[.bool n1, .slice A1 0 c1, .int .i64 e1]).alloc (.cells #[.bool n2, .slice A2 m2 c2, .int .i64 e2] 156)).alloc (.cells #[.bool false, .slice none 0 0, .int .i64 0] 156)))
  have LG1_0 := Lib.hid (((Blk.at (W := (w.alloc (.cells #[.bool n1, .slice A1 0 c1, .int .i64 e1] 156))) (g := (w.heap.size + 1)) (by simp <;> omega) 156 #[.bool n2, .slice A2 m2 c2, .int .i64 e2]).alloc (.cells #[.bool false, .slice none 0 0, .int .i64 0] 156)))
  have LR0 := Lib.hid (HasBlk.of (n := 3) (Blk.at (W := ((w.alloc (.cells #[.bool n1, .slice A1 0 c1, .int .i64 e1] 156)).alloc (.cells #[.bool n2, .slice A2 m2 c2, .int .i64 e2] 156))) (g := (w.heap.size + 2)) (by simp <;> omega) 156 #[.bool false, .slice none 0 0, .int .i64 0]) rfl rfl)
  clear LB0 LG0_0 LG1_0 LR0
  go_enter Tryz.func183, Tryz.ntmps183
  go_wp2
  refine bodyPost_ret (v := .agg #[.bool n2, .slice A2 m2 c2, .int .i64 e2]) (by simp [results, Tryz.results183, go_sem]) rfl ?_
  exact have b := (((below_alloc w _).alloc (by simp <;> omega) _).alloc (by simp <;> omega) _); ⟨A2, m2, c2, rfl, H2.out.below b, b⟩

set_option maxHeartbeats 1600000 in
theorem sum_right (n1 : Bool) (A1 : Option Addr) (m1 c1 S1 : Nat) (e1 : Int) (n2 : Bool) (A2 : Option Addr) (m2 c2 S2 : Nat) (e2 : Int) (w : World) (h1 : U32s w A1 m1 c1 (digs S1)) (hm1 : 0 < m1) (hm : m2 = 0) : Calls Tryz.prog 183 #[.agg #[.bool n1, .slice A1 m1 c1, .int .i64 e1], .agg #[.bool n2, .slice A2 m2 c2, .int .i64 e2]] w (NewDy w n1 S1 e1) := by
  subst hm
  have hq1 : ((m1 : Int) == 0) = false := by simp; omega
  have H1 := Lib.hid h1
  clear h1 hm1
  have LB0 := Lib.hid (show Below w.heap.size w (((w.alloc (.cells #[.bool n1, .slice A1 m1 c1, .int .i64 e1] 156)).alloc (.cells #[.bool n2, .slice A2 0 c2, .int .i64 e2] 156)).alloc (.cells #[.bool false, .slice none 0 0, .int .i64 0] 156)) from (((below_alloc w _).alloc (by simp <;> omega) _).alloc (by simp <;> omega) _))
  have LG0_0 := Lib.hid ((((Blk.at (W := w) (g := w.heap.size) (by simp <;> omega) 156 #[.bool n1, .slice A1 m1 c1, .int .i64 e1]).alloc (.cells #[.bool n2, .slice A2 0 c2, .int .i64 e2] 156)).alloc (.cells #[.bool false, .slice none 0 0, .int .i64 0] 156)))
  have LG1_0 := Lib.hid (((Blk.at (W := (w.alloc (.cells #[.bool n1, .slice A1 m1 c1, .int .i64 e1] 156))) (g := (w.heap.size + 1)) (by simp <;> omega) 156 #[.bool n2, .slice A2 0 c2, .int .i64 e2]).alloc (.cells #[.bool false, .slice none 0 0, .int .i64 0] 156)))
  have LR0 := Lib.hid (HasBlk.of (n := 3) (Blk.at (W := ((w.alloc (.cells #[.bool n1, .slice A1 m1 c1, .int .i64 e1] 156)).alloc (.cells #[.bool n2, .slice A2 0 c2, .int .i64 e2] 156))) (g := (w.heap.size + 2)) (by simp <;> omega) 156 #[.bool false, .slice none 0 0, .int .i64 0]) rfl rfl)
  clear LB0 LG0_0 LG1_0 LR0
  go_enter Tryz.func183, Tryz.ntmps183
  go_wp2
  refine bodyPost_ret (v := .agg #[.bool n1, .slice A1 m1 c1, .int .i64 e1]) (by simp [results, Tryz.results183, go_sem]) rfl ?_
  exact have b := (((below_alloc w _).alloc (by simp <;> omega) _).alloc (by simp <;> omega) _); ⟨A1, m1, c1, rfl, H1.out.below b, b⟩

set_option maxHeartbeats 6400000 in
theorem sum_keep (n1 : Bool) (A1 : Option Addr) (m1 c1 S1 : Nat) (e1 : Int) (n2 : Bool) (A2 : Option Addr) (m2 c2 S2 : Nat) (e2 : Int) (k : Nat) (w : World) (h1 : U32s w A1 m1 c1 (digs S1)) (h2 : U32s w A2 m2 c2 (digs S2)) (hS1 : 0 < S1) (hS2 : 0 < S2) (hle : e1 ≤ e2) (hk : e2 = e1 + k) (he1 : -1000000 ≤ e1 ∧ e1 ≤ 1000000) (he2 : -1000000 ≤ e2 ∧ e2 ≤ 1000000) (hb1 : blen S1 ≤ 500000) (hb2 : blen S2 + k ≤ 500000) :
    Calls Tryz.prog 183 #[.agg #[.bool n1, .slice A1 m1 c1, .int .i64 e1], .agg #[.bool n2, .slice A2 m2 c2, .int .i64 e2]] w (NewDy w (dsum n1 S1 n2 (S2 * 2^k)).1 (dsum n1 S1 n2 (S2 * 2^k)).2 e1) := by
  have hq1 : ((m1 : Int) == 0) = false := by
    have := digs_len_pos hS1 h1.len
    simp; omega
  have hq2 : ((m2 : Int) == 0) = false := by
    have := digs_len_pos hS2 h2.len
    simp; omega
  have hek : e2 - e1 = (k : Int) := by omega
  have hbq := blen_shl S2 k hS2
  obtain ⟨T, hT⟩ : ∃ T, S2 * 2^k = T := ⟨_, rfl⟩
  have HSH := Lib.hid fun W (hW : Below w.heap.size w W) => nshl_any A2 m2 c2 k (digs S2) W (h2.below hW) (wlen_digs_le (K := 16384) (by omega)) (by rw [num_digs]; omega)
  rw [num_digs, hT] at HSH
  rw [hT] at hbq ⊢
  have HP := Lib.hid h1
  have HBP := Lib.hid hb1
  have HBT := Lib.hid (show blen T ≤ 500000 by omega)
  have HADD := Lib.hid fun W (B : Option Addr) (mB cB : Nat) (hW : Below w.heap.size w W) (hB : U32s W B mB cB (digs T)) => nadd_any A1 B m1 c1 mB cB (digs S1) (digs T) W (h1.below hW) hB (wlen_digs_le (K := 16383) (by omega)) (wlen_digs_le (K := 16383) (by omega))
  have HCMP := Lib.hid fun W (B : Option Addr) (mB cB : Nat) (hW : Below w.heap.size w W) (hB : U32s W B mB cB (digs T)) => ncmp_any A1 B m1 c1 mB cB (digs S1) (digs T) W (h1.below hW) hB
  have HSB1 := Lib.hid fun (hle : T ≤ S1) W (B : Option Addr) (mB cB : Nat) (hW : Below w.heap.size w W) (hB : U32s W B mB cB (digs T)) => nsub_any A1 B m1 c1 mB cB (digs S1) (digs T) W (h1.below hW) hB (wlen_digs_le (K := 16384) (by omega)) (wlen_digs_le (K := 16384) (by omega)) (by rw [num_digs, num_digs]; exact hle)
  have HSB2 := Lib.hid fun (hle : S1 ≤ T) W (B : Option Addr) (mB cB : Nat) (hW : Below w.heap.size w W) (hB : U32s W B mB cB (digs T)) => nsub_any B A1 mB cB m1 c1 (digs T) (digs S1) W hB (h1.below hW) (wlen_digs_le (K := 16384) (by omega)) (wlen_digs_le (K := 16384) (by omega)) (by rw [num_digs, num_digs]; exact hle)
  rw [num_digs, num_digs] at HADD HCMP HSB1 HSB2
  have hee : e1 - e2 ≤ 2000000 ∧ -2000000 ≤ e1 - e2 := by omega
  obtain ⟨ng, hng⟩ : ∃ b, (dsum n1 S1 n2 T).1 = b := ⟨_, rfl⟩
  obtain ⟨Sg, hsg⟩ : ∃ b, (dsum n1 S1 n2 T).2 = b := ⟨_, rfl⟩
  rw [hng, hsg]
  have HDS := Lib.hid (show dsum n1 S1 n2 T = (ng, Sg) from by rw [← hng, ← hsg])
  clear hng hsg
  clear h1 h2 hS1 hS2 hT hbq hb1 hb2 hk
  have LB0 := Lib.hid (show Below w.heap.size w (((w.alloc (.cells #[.bool n1, .slice A1 m1 c1, .int .i64 e1] 156)).alloc (.cells #[.bool n2, .slice A2 m2 c2, .int .i64 e2] 156)).alloc (.cells #[.bool false, .slice none 0 0, .int .i64 0] 156)) from (((below_alloc w _).alloc (by simp <;> omega) _).alloc (by simp <;> omega) _))
  have LG0_0 := Lib.hid ((((Blk.at (W := w) (g := w.heap.size) (by simp <;> omega) 156 #[.bool n1, .slice A1 m1 c1, .int .i64 e1]).alloc (.cells #[.bool n2, .slice A2 m2 c2, .int .i64 e2] 156)).alloc (.cells #[.bool false, .slice none 0 0, .int .i64 0] 156)))
  have LG1_0 := Lib.hid (((Blk.at (W := (w.alloc (.cells #[.bool n1, .slice A1 m1 c1, .int .i64 e1] 156))) (g := (w.heap.size + 1)) (by simp <;> omega) 156 #[.bool n2, .slice A2 m2 c2, .int .i64 e2]).alloc (.cells #[.bool false, .slice none 0 0, .int .i64 0] 156)))
  have LR0 := Lib.hid (HasBlk.of (n := 3) (Blk.at (W := ((w.alloc (.cells #[.bool n1, .slice A1 m1 c1, .int .i64 e1] 156)).alloc (.cells #[.bool n2, .slice A2 m2 c2, .int .i64 e2] 156))) (g := (w.heap.size + 2)) (by simp <;> omega) 156 #[.bool false, .slice none 0 0, .int .i64 0]) rfl rfl)
  go_enter Tryz.func183, Tryz.ntmps183
  have q0_0 : _ = some (.bool n1 : Value) := LG0_0.out.cell 0
  have q0_1 : _ = some (.slice A1 m1 c1 : Value) := LG0_0.out.cell 1
  have q0_2 : _ = some (.int .i64 e1 : Value) := LG0_0.out.cell 2
  have q1_0 : _ = some (.bool n2 : Value) := LG1_0.out.cell 0
  have q1_1 : _ = some (.slice A2 m2 c2 : Value) := LG1_0.out.cell 1
  have q1_2 : _ = some (.int .i64 e2 : Value) := LG1_0.out.cell 2
  go_wp2_with fail
  refine (HSH.out _ LB0.out).mono ?_
  rintro e w2 ⟨A3, m3, c3, rfl, hu3, hbb2⟩
  have LB1 := Lib.hid (LB0.out.trans (hbb2.mono LB0.out.size))
  have LR1 := Lib.hid (LR0.out.keep hbb2)
  have LG0_1 := Lib.hid (LG0_0.out.keep hbb2)
  have LG1_1 := Lib.hid (LG1_0.out.keep hbb2)
  clear LB0 LR0 LG0_0 LG1_0
  clear hbb2 q0_0 q0_1 q0_2 q1_0 q1_1 q1_2
  have q1_0 : _ = some (.bool n2 : Value) := LG1_1.out.cell 0
  have q1_1 : _ = some (.slice A2 m2 c2 : Value) := LG1_1.out.cell 1
  have q1_2 : _ = some (.int .i64 e2 : Value) := LG1_1.out.cell 2
  have hf1 := LG1_1.out.frozen 1
  go_upto_region 8 with fail
  clear q1_0 q1_1 q1_2 hf1
  have hu3s := hu3.carry LG1_1.out rfl 1 (.slice A3 m3 c3)
  have LB2 := Lib.hid (LB1.out.setCell (p := ⟨(w.heap.size + 1), 1, none⟩) (show w.heap.size ≤ (w.heap.size + 1) by omega) (.slice A3 m3 c3))
  have LR2 := Lib.hid (show HasBlk (w2.setCell ⟨(w.heap.size + 1), 1, none⟩ (.slice A3 m3 c3)) (w.heap.size + 2) 156 3 from LR1.out.other (by omega) 1 [.slice A3 m3 c3])
  have LG0_2 := Lib.hid (show Blk (w2.setCell ⟨(w.heap.size + 1), 1, none⟩ (.slice A3 m3 c3)) w.heap.size 156 #[.bool n1, .slice A1 m1 c1, .int .i64 e1] from LG0_1.out.other (by omega) 1 [.slice A3 m3 c3])
  have LG1_2 := Lib.hid (LG1_1.out.set 1 (.slice A3 m3 c3))
  clear LB1 LR1 LG0_1 LG1_1
  obtain ⟨V3, hV3⟩ : ∃ X, (w2.setCell ⟨(w.heap.size + 1), 1, none⟩ (.slice A3 m3 c3)) = X := ⟨_, rfl⟩
  rw [hV3] at hu3s LB2 LR2 LG0_2 LG1_2 ⊢
  have HU3 := Lib.hid hu3s
  clear hV3 hu3 hu3s HSH
  by_cases hs : n1 = n2
  · subst hs
    have HN := Lib.hid (show ng = n1 ∧ Sg = S1 + T from by have h := HDS.out; unfold dsum at h; rw [if_pos rfl] at h; cases h; exact ⟨rfl, rfl⟩)
    clear HDS
    have q0_0 : _ = some (.bool n1 : Value) := LG0_2.out.cell 0
    have q0_1 : _ = some (.slice A1 m1 c1 : Value) := LG0_2.out.cell 1
    have q0_2 : _ = some (.int .i64 e1 : Value) := LG0_2.out.cell 2
    have q1_0 : _ = some (.bool n1 : Value) := LG1_2.out.cell 0
    have q1_1 : _ = some (.slice A3 m3 c3 : Value) := LG1_2.out.cell 1
    have q1_2 : _ = some (.int .i64 e2 : Value) := LG1_2.out.cell 2
    go_wp2_with fail
    refine (HADD.out _ _ _ _ LB2.out HU3.out).mono ?_
    rintro e w4 ⟨A4, m4, c4, rfl, hu4, hbb4⟩
    have LB3 := Lib.hid (LB2.out.trans (hbb4.mono LB2.out.size))
    have LR3 := Lib.hid (LR2.out.keep hbb4)
    have LG0_3 := Lib.hid (LG0_2.out.keep hbb4)
    have LG1_3 := Lib.hid (LG1_2.out.keep hbb4)
    clear LB2 LR2 LG0_2 LG1_2
    clear hbb4 q0_0 q0_1 q0_2 q1_0 q1_1 q1_2
    have q0_0 : _ = some (.bool n1 : Value) := LG0_3.out.cell 0
    have q0_1 : _ = some (.slice A1 m1 c1 : Value) := LG0_3.out.cell 1
    have q0_2 : _ = some (.int .i64 e1 : Value) := LG0_3.out.cell 2
    have hf1 := LG0_3.out.frozen 1
    have hu4s := hu4.carry LG0_3.out rfl 1 (.slice A4 m4 c4)
    go_upto_region 10 with fail
    clear q0_0 q0_1 q0_2 hf1
    have LB4 := Lib.hid (LB3.out.setCell (p := ⟨w.heap.size, 1, none⟩) (show w.heap.size ≤ w.heap.size by omega) (.slice A4 m4 c4))
    have LR4 := Lib.hid (show HasBlk (w4.setCell ⟨w.heap.size, 1, none⟩ (.slice A4 m4 c4)) (w.heap.size + 2) 156 3 from LR3.out.other (by omega) 1 [.slice A4 m4 c4])
    have LG0_4 := Lib.hid (LG0_3.out.set 1 (.slice A4 m4 c4))
    have LG1_4 := Lib.hid (show Blk (w4.setCell ⟨w.heap.size, 1, none⟩ (.slice A4 m4 c4)) (w.heap.size + 1) 156 #[.bool n1, .slice A3 m3 c3, .int .i64 e2] from LG1_3.out.other (by omega) 1 [.slice A4 m4 c4])
    clear LB3 LR3 LG0_3 LG1_3
    obtain ⟨V4, hV4⟩ : ∃ X, (w4.setCell ⟨w.heap.size, 1, none⟩ (.slice A4 m4 c4)) = X := ⟨_, rfl⟩
    rw [hV4] at hu4s LB4 LR4 LG0_4 LG1_4 ⊢
    clear hV4 hu4
    have q0_0 : _ = some (.bool n1 : Value) := LG0_4.out.cell 0
    have q0_1 : _ = some (.slice A4 m4 c4 : Value) := LG0_4.out.cell 1
    have q0_2 : _ = some (.int .i64 e1 : Value) := LG0_4.out.cell 2
    have ha0 := LR4.out.someCell 0 (by decide)
    have hf0 := LR4.out.frozen 0
    have ha1 := LR4.out.someCell 1 (by decide)
    have hf1 := LR4.out.frozen 1
    have ha2 := LR4.out.someCell 2 (by decide)
    have hf2 := LR4.out.frozen 2
    have hk0 := LR4.out.setCell [.bool n1, .slice A4 m4 c4, .int .i64 e1] rfl 0 (by decide)
    have hk1 := LR4.out.setCell [.bool n1, .slice A4 m4 c4, .int .i64 e1] rfl 1 (by decide)
    have hk2 := LR4.out.setCell [.bool n1, .slice A4 m4 c4, .int .i64 e1] rfl 2 (by decide)
    have F := Lib.hid (below_sets (w0 := w) (r := (w.heap.size + 2)) (by omega) [.bool n1, .slice A4 m4 c4, .int .i64 e1] 0 _ LB4.out)
    simp [sets] at hk0 hk1 hk2
    have FU := Lib.hid (LR4.out.u32s hu4s [.bool n1, .slice A4 m4 c4, .int .i64 e1])
    clear hu4s
    go_wp2
    refine bodyPost_ret (v := .agg #[.bool n1, .slice A4 m4 c4, .int .i64 e1]) (by simp [results, Tryz.results183, go_sem, hk0, hk1, hk2]) rfl ?_
    exact ⟨A4, m4, c4, by rw [HN.out.1], by rw [HN.out.2]; exact FU.out, F.out⟩
  · have hs2 : (n1 == n2) = false := by simp [hs]
    have q0_0 : _ = some (.bool n1 : Value) := LG0_2.out.cell 0
    have q0_1 : _ = some (.slice A1 m1 c1 : Value) := LG0_2.out.cell 1
    have q0_2 : _ = some (.int .i64 e1 : Value) := LG0_2.out.cell 2
    have q1_0 : _ = some (.bool n2 : Value) := LG1_2.out.cell 0
    have q1_1 : _ = some (.slice A3 m3 c3 : Value) := LG1_2.out.cell 1
    have q1_2 : _ = some (.int .i64 e2 : Value) := LG1_2.out.cell 2
    go_wp2_with fail
    refine (HCMP.out _ _ _ _ LB2.out HU3.out).mono ?_
    rintro e w3 ⟨rfl, z, hz⟩
    have hbb3 : Below V3.heap.size V3 w3 := by rw [hz]; exact below_drewN (Below.refl _ _) z
    have LB3 := Lib.hid (LB2.out.trans (hbb3.mono LB2.out.size))
    have LR3 := Lib.hid (LR2.out.keep hbb3)
    have LG0_3 := Lib.hid (LG0_2.out.keep hbb3)
    have LG1_3 := Lib.hid (LG1_2.out.keep hbb3)
    clear LB2 LR2 LG0_2 LG1_2
    have HU3b := Lib.hid (HU3.out.below hbb3)
    clear hz hbb3 HU3 q0_0 q0_1 q0_2 q1_0 q1_1 q1_2
    by_cases hlt : S1 < T
    · have HN := Lib.hid (show ng = n2 ∧ Sg = T - S1 from by have h := HDS.out; unfold dsum at h; rw [if_neg hs, if_pos hlt] at h; cases h; exact ⟨rfl, rfl⟩)
      rw [cmp3_lt hlt]
      clear HDS hs
      have q0_0 : _ = some (.bool n1 : Value) := LG0_3.out.cell 0
      have q0_1 : _ = some (.slice A1 m1 c1 : Value) := LG0_3.out.cell 1
      have q0_2 : _ = some (.int .i64 e1 : Value) := LG0_3.out.cell 2
      have q1_0 : _ = some (.bool n2 : Value) := LG1_3.out.cell 0
      have q1_1 : _ = some (.slice A3 m3 c3 : Value) := LG1_3.out.cell 1
      have q1_2 : _ = some (.int .i64 e2 : Value) := LG1_3.out.cell 2
      have hf0 := LG0_3.out.frozen 0
      go_upto_region 13 with fail
      clear q0_0 q0_1 q0_2 q1_0 q1_1 q1_2 hf0
      have hu5 := HU3b.out.carry LG0_3.out rfl 0 (.bool n2)
      have LB4 := Lib.hid (LB3.out.setCell (p := ⟨w.heap.size, 0, none⟩) (show w.heap.size ≤ w.heap.size by omega) (.bool n2))
      have LR4 := Lib.hid (show HasBlk (w3.setCell ⟨w.heap.size, 0, none⟩ (.bool n2)) (w.heap.size + 2) 156 3 from LR3.out.other (by omega) 0 [.bool n2])
      have LG0_4 := Lib.hid (LG0_3.out.set 0 (.bool n2))
      have LG1_4 := Lib.hid (show Blk (w3.setCell ⟨w.heap.size, 0, none⟩ (.bool n2)) (w.heap.size + 1) 156 #[.bool n2, .slice A3 m3 c3, .int .i64 e2] from LG1_3.out.other (by omega) 0 [.bool n2])
      clear LB3 LR3 LG0_3 LG1_3
      obtain ⟨V5, hV5⟩ : ∃ X, (w3.setCell ⟨w.heap.size, 0, none⟩ (.bool n2)) = X := ⟨_, rfl⟩
      rw [hV5] at hu5 LB4 LR4 LG0_4 LG1_4 ⊢
      clear hV5
      have q0_0 : _ = some (.bool n2 : Value) := LG0_4.out.cell 0
      have q0_1 : _ = some (.slice A1 m1 c1 : Value) := LG0_4.out.cell 1
      have q0_2 : _ = some (.int .i64 e1 : Value) := LG0_4.out.cell 2
      have q1_0 : _ = some (.bool n2 : Value) := LG1_4.out.cell 0
      have q1_1 : _ = some (.slice A3 m3 c3 : Value) := LG1_4.out.cell 1
      have q1_2 : _ = some (.int .i64 e2 : Value) := LG1_4.out.cell 2
      have hf01 := LG0_4.out.frozen 1
      have hf11 := LG1_4.out.frozen 1
      go_upto_region 14 with fail
      clear q0_0 q0_1 q0_2 q1_0 q1_1 q1_2 hf01 hf11
      have hu6 := hu5.carry LG0_4.out rfl 1 (.slice A3 m3 c3)
      have LB5 := Lib.hid (LB4.out.setCell (p := ⟨w.heap.size, 1, none⟩) (show w.heap.size ≤ w.heap.size by omega) (.slice A3 m3 c3))
      have LR5 := Lib.hid (show HasBlk (V5.setCell ⟨w.heap.size, 1, none⟩ (.slice A3 m3 c3)) (w.heap.size + 2) 156 3 from LR4.out.other (by omega) 1 [.slice A3 m3 c3])
      have LG0_5 := Lib.hid (LG0_4.out.set 1 (.slice A3 m3 c3))
      have LG1_5 := Lib.hid (show Blk (V5.setCell ⟨w.heap.size, 1, none⟩ (.slice A3 m3 c3)) (w.heap.size + 1) 156 #[.bool n2, .slice A3 m3 c3, .int .i64 e2] from LG1_4.out.other (by omega) 1 [.slice A3 m3 c3])
      clear LB4 LR4 LG0_4 LG1_4
      obtain ⟨V6, hV6⟩ : ∃ X, (V5.setCell ⟨w.heap.size, 1, none⟩ (.slice A3 m3 c3)) = X := ⟨_, rfl⟩
      rw [hV6] at hu6 LB5 LR5 LG0_5 LG1_5 ⊢
      clear hV6
      have hu7 := hu6.carry LG1_5.out rfl 1 (.slice A1 m1 c1)
      have LB6 := Lib.hid (LB5.out.setCell (p := ⟨(w.heap.size + 1), 1, none⟩) (show w.heap.size ≤ (w.heap.size + 1) by omega) (.slice A1 m1 c1))
      have LR6 := Lib.hid (show HasBlk (V6.setCell ⟨(w.heap.size + 1), 1, none⟩ (.slice A1 m1 c1)) (w.heap.size + 2) 156 3 from LR5.out.other (by omega) 1 [.slice A1 m1 c1])
      have LG0_6 := Lib.hid (show Blk (V6.setCell ⟨(w.heap.size + 1), 1, none⟩ (.slice A1 m1 c1)) w.heap.size 156 #[.bool n2, .slice A3 m3 c3, .int .i64 e1] from LG0_5.out.other (by omega) 1 [.slice A1 m1 c1])
      have LG1_6 := Lib.hid (LG1_5.out.set 1 (.slice A1 m1 c1))
      clear LB5 LR5 LG0_5 LG1_5
      obtain ⟨V7, hV7⟩ : ∃ X, (V6.setCell ⟨(w.heap.size + 1), 1, none⟩ (.slice A1 m1 c1)) = X := ⟨_, rfl⟩
      rw [hV7] at hu7 LB6 LR6 LG0_6 LG1_6 ⊢
      clear hV7 hu5 hu6
      have HU7 := Lib.hid hu7
      clear hu7
      have q0_0 : _ = some (.bool n2 : Value) := LG0_6.out.cell 0
      have q0_1 : _ = some (.slice A3 m3 c3 : Value) := LG0_6.out.cell 1
      have q0_2 : _ = some (.int .i64 e1 : Value) := LG0_6.out.cell 2
      have q1_0 : _ = some (.bool n2 : Value) := LG1_6.out.cell 0
      have q1_1 : _ = some (.slice A1 m1 c1 : Value) := LG1_6.out.cell 1
      have q1_2 : _ = some (.int .i64 e2 : Value) := LG1_6.out.cell 2
      go_wp2_with fail
      refine (HSB2.out (Nat.le_of_lt hlt) _ _ _ _ LB6.out HU7.out).mono ?_
      rintro e w4 ⟨A4, m4, c4, rfl, hu4, hbb4⟩
      have LB7 := Lib.hid (LB6.out.trans (hbb4.mono LB6.out.size))
      have LR7 := Lib.hid (LR6.out.keep hbb4)
      have LG0_7 := Lib.hid (LG0_6.out.keep hbb4)
      have LG1_7 := Lib.hid (LG1_6.out.keep hbb4)
      clear LB6 LR6 LG0_6 LG1_6
      clear hbb4 q0_0 q0_1 q0_2 q1_0 q1_1 q1_2
      have q0_0 : _ = some (.bool n2 : Value) := LG0_7.out.cell 0
      have q0_1 : _ = some (.slice A3 m3 c3 : Value) := LG0_7.out.cell 1
      have q0_2 : _ = some (.int .i64 e1 : Value) := LG0_7.out.cell 2
      have hf1 := LG0_7.out.frozen 1
      have hu4s := hu4.carry LG0_7.out rfl 1 (.slice A4 m4 c4)
      go_upto_region 15 with fail
      clear q0_0 q0_1 q0_2 hf1
      have LB8 := Lib.hid (LB7.out.setCell (p := ⟨w.heap.size, 1, none⟩) (show w.heap.size ≤ w.heap.size by omega) (.slice A4 m4 c4))
      have LR8 := Lib.hid (show HasBlk (w4.setCell ⟨w.heap.size, 1, none⟩ (.slice A4 m4 c4)) (w.heap.size + 2) 156 3 from LR7.out.other (by omega) 1 [.slice A4 m4 c4])
      have LG0_8 := Lib.hid (LG0_7.out.set 1 (.slice A4 m4 c4))
      have LG1_8 := Lib.hid (show Blk (w4.setCell ⟨w.heap.size, 1, none⟩ (.slice A4 m4 c4)) (w.heap.size + 1) 156 #[.bool n2, .slice A1 m1 c1, .int .i64 e2] from LG1_7.out.other (by omega) 1 [.slice A4 m4 c4])
      clear LB7 LR7 LG0_7 LG1_7
      obtain ⟨V4, hV4⟩ : ∃ X, (w4.setCell ⟨w.heap.size, 1, none⟩ (.slice A4 m4 c4)) = X := ⟨_, rfl⟩
      rw [hV4] at hu4s LB8 LR8 LG0_8 LG1_8 ⊢
      clear hV4 hu4
      have q0_0 : _ = some (.bool n2 : Value) := LG0_8.out.cell 0
      have q0_1 : _ = some (.slice A4 m4 c4 : Value) := LG0_8.out.cell 1
      have q0_2 : _ = some (.int .i64 e1 : Value) := LG0_8.out.cell 2
      have ha0 := LR8.out.someCell 0 (by decide)
      have hf0 := LR8.out.frozen 0
      have ha1 := LR8.out.someCell 1 (by decide)
      have hf1 := LR8.out.frozen 1
      have ha2 := LR8.out.someCell 2 (by decide)
      have hf2 := LR8.out.frozen 2
      have hk0 := LR8.out.setCell [.bool n2, .slice A4 m4 c4, .int .i64 e1] rfl 0 (by decide)
      have hk1 := LR8.out.setCell [.bool n2, .slice A4 m4 c4, .int .i64 e1] rfl 1 (by decide)
      have hk2 := LR8.out.setCell [.bool n2, .slice A4 m4 c4, .int .i64 e1] rfl 2 (by decide)
      have F := Lib.hid (below_sets (w0 := w) (r := (w.heap.size + 2)) (by omega) [.bool n2, .slice A4 m4 c4, .int .i64 e1] 0 _ LB8.out)
      simp [sets] at hk0 hk1 hk2
      have FU := Lib.hid (LR8.out.u32s hu4s [.bool n2, .slice A4 m4 c4, .int .i64 e1])
      clear hu4s
      go_wp2
      refine bodyPost_ret (v := .agg #[.bool n2, .slice A4 m4 c4, .int .i64 e1]) (by simp [results, Tryz.results183, go_sem, hk0, hk1, hk2]) rfl ?_
      exact ⟨A4, m4, c4, by rw [HN.out.1], by rw [HN.out.2]; exact FU.out, F.out⟩
    · have HN := Lib.hid (show ng = n1 ∧ Sg = S1 - T from by have h := HDS.out; unfold dsum at h; rw [if_neg hs, if_neg hlt] at h; cases h; exact ⟨rfl, rfl⟩)
      clear HDS hs
      have hc3 : ¬ cmp3 S1 T < 0 := fun h => hlt (cmp3_neg.1 h)
      obtain ⟨r, hr⟩ : ∃ r, cmp3 S1 T = r := ⟨_, rfl⟩
      rw [hr] at hc3 ⊢
      clear hr
      have q0_0 : _ = some (.bool n1 : Value) := LG0_3.out.cell 0
      have q0_1 : _ = some (.slice A1 m1 c1 : Value) := LG0_3.out.cell 1
      have q0_2 : _ = some (.int .i64 e1 : Value) := LG0_3.out.cell 2
      have q1_0 : _ = some (.bool n2 : Value) := LG1_3.out.cell 0
      have q1_1 : _ = some (.slice A3 m3 c3 : Value) := LG1_3.out.cell 1
      have q1_2 : _ = some (.int .i64 e2 : Value) := LG1_3.out.cell 2
      go_wp2_with fail
      refine (HSB1.out (Nat.le_of_not_lt hlt) _ _ _ _ LB3.out HU3b.out).mono ?_
      rintro e w4 ⟨A4, m4, c4, rfl, hu4, hbb4⟩
      have LB4 := Lib.hid (LB3.out.trans (hbb4.mono LB3.out.size))
      have LR4 := Lib.hid (LR3.out.keep hbb4)
      have LG0_4 := Lib.hid (LG0_3.out.keep hbb4)
      have LG1_4 := Lib.hid (LG1_3.out.keep hbb4)
      clear LB3 LR3 LG0_3 LG1_3
      clear hbb4 q0_0 q0_1 q0_2 q1_0 q1_1 q1_2
      have q0_0 : _ = some (.bool n1 : Value) := LG0_4.out.cell 0
      have q0_1 : _ = some (.slice A1 m1 c1 : Value) := LG0_4.out.cell 1
      have q0_2 : _ = some (.int .i64 e1 : Value) := LG0_4.out.cell 2
      have hf1 := LG0_4.out.frozen 1
      have hu4s := hu4.carry LG0_4.out rfl 1 (.slice A4 m4 c4)
      go_upto_region 15 with fail
      clear q0_0 q0_1 q0_2 hf1
      have LB5 := Lib.hid (LB4.out.setCell (p := ⟨w.heap.size, 1, none⟩) (show w.heap.size ≤ w.heap.size by omega) (.slice A4 m4 c4))
      have LR5 := Lib.hid (show HasBlk (w4.setCell ⟨w.heap.size, 1, none⟩ (.slice A4 m4 c4)) (w.heap.size + 2) 156 3 from LR4.out.other (by omega) 1 [.slice A4 m4 c4])
      have LG0_5 := Lib.hid (LG0_4.out.set 1 (.slice A4 m4 c4))
      have LG1_5 := Lib.hid (show Blk (w4.setCell ⟨w.heap.size, 1, none⟩ (.slice A4 m4 c4)) (w.heap.size + 1) 156 #[.bool n2, .slice A3 m3 c3, .int .i64 e2] from LG1_4.out.other (by omega) 1 [.slice A4 m4 c4])
      clear LB4 LR4 LG0_4 LG1_4
      obtain ⟨V4, hV4⟩ : ∃ X, (w4.setCell ⟨w.heap.size, 1, none⟩ (.slice A4 m4 c4)) = X := ⟨_, rfl⟩
      rw [hV4] at hu4s LB5 LR5 LG0_5 LG1_5 ⊢
      clear hV4 hu4
      have q0_0 : _ = some (.bool n1 : Value) := LG0_5.out.cell 0
      have q0_1 : _ = some (.slice A4 m4 c4 : Value) := LG0_5.out.cell 1
      have q0_2 : _ = some (.int .i64 e1 : Value) := LG0_5.out.cell 2
      have ha0 := LR5.out.someCell 0 (by decide)
      have hf0 := LR5.out.frozen 0
      have ha1 := LR5.out.someCell 1 (by decide)
      have hf1 := LR5.out.frozen 1
      have ha2 := LR5.out.someCell 2 (by decide)
      have hf2 := LR5.out.frozen 2
      have hk0 := LR5.out.setCell [.bool n1, .slice A4 m4 c4, .int .i64 e1] rfl 0 (by decide)
      have hk1 := LR5.out.setCell [.bool n1, .slice A4 m4 c4, .int .i64 e1] rfl 1 (by decide)
      have hk2 := LR5.out.setCell [.bool n1, .slice A4 m4 c4, .int .i64 e1] rfl 2 (by decide)
      have F := Lib.hid (below_sets (w0 := w) (r := (w.heap.size + 2)) (by omega) [.bool n1, .slice A4 m4 c4, .int .i64 e1] 0 _ LB5.out)
      simp [sets] at hk0 hk1 hk2
      have FU := Lib.hid (LR5.out.u32s hu4s [.bool n1, .slice A4 m4 c4, .int .i64 e1])
      clear hu4s
      go_wp2
      refine bodyPost_ret (v := .agg #[.bool n1, .slice A4 m4 c4, .int .i64 e1]) (by simp [results, Tryz.results183, go_sem, hk0, hk1, hk2]) rfl ?_
      exact ⟨A4, m4, c4, by rw [HN.out.1], by rw [HN.out.2]; exact FU.out, F.out⟩

set_option maxHeartbeats 6400000 in
theorem sum_swap (n1 : Bool) (A1 : Option Addr) (m1 c1 S1 : Nat) (e1 : Int) (n2 : Bool) (A2 : Option Addr) (m2 c2 S2 : Nat) (e2 : Int) (k : Nat) (w : World) (h1 : U32s w A1 m1 c1 (digs S1)) (h2 : U32s w A2 m2 c2 (digs S2)) (hS1 : 0 < S1) (hS2 : 0 < S2) (hle : e2 < e1) (hk : e1 = e2 + k) (he1 : -1000000 ≤ e1 ∧ e1 ≤ 1000000) (he2 : -1000000 ≤ e2 ∧ e2 ≤ 1000000) (hb1 : blen S2 ≤ 500000) (hb2 : blen S1 + k ≤ 500000) :
    Calls Tryz.prog 183 #[.agg #[.bool n1, .slice A1 m1 c1, .int .i64 e1], .agg #[.bool n2, .slice A2 m2 c2, .int .i64 e2]] w (NewDy w (dsum n2 S2 n1 (S1 * 2^k)).1 (dsum n2 S2 n1 (S1 * 2^k)).2 e2) := by
  have hq1 : ((m1 : Int) == 0) = false := by
    have := digs_len_pos hS1 h1.len
    simp; omega
  have hq2 : ((m2 : Int) == 0) = false := by
    have := digs_len_pos hS2 h2.len
    simp; omega
  have hek : e1 - e2 = (k : Int) := by omega
  have hbq := blen_shl S1 k hS1
  obtain ⟨T, hT⟩ : ∃ T, S1 * 2^k = T := ⟨_, rfl⟩
  have HSH := Lib.hid fun W (hW : Below w.heap.size w W) => nshl_any A1 m1 c1 k (digs S1) W (h1.below hW) (wlen_digs_le (K := 16384) (by omega)) (by rw [num_digs]; omega)
  rw [num_digs, hT] at HSH
  rw [hT] at hbq ⊢
  have HP := Lib.hid h2
  have HBP := Lib.hid hb1
  have HBT := Lib.hid (show blen T ≤ 500000 by omega)
  have HADD := Lib.hid fun W (B : Option Addr) (mB cB : Nat) (hW : Below w.heap.size w W) (hB : U32s W B mB cB (digs T)) => nadd_any A2 B m2 c2 mB cB (digs S2) (digs T) W (h2.below hW) hB (wlen_digs_le (K := 16383) (by omega)) (wlen_digs_le (K := 16383) (by omega))
  have HCMP := Lib.hid fun W (B : Option Addr) (mB cB : Nat) (hW : Below w.heap.size w W) (hB : U32s W B mB cB (digs T)) => ncmp_any A2 B m2 c2 mB cB (digs S2) (digs T) W (h2.below hW) hB
  have HSB1 := Lib.hid fun (hle : T ≤ S2) W (B : Option Addr) (mB cB : Nat) (hW : Below w.heap.size w W) (hB : U32s W B mB cB (digs T)) => nsub_any A2 B m2 c2 mB cB (digs S2) (digs T) W (h2.below hW) hB (wlen_digs_le (K := 16384) (by omega)) (wlen_digs_le (K := 16384) (by omega)) (by rw [num_digs, num_digs]; exact hle)
  have HSB2 := Lib.hid fun (hle : S2 ≤ T) W (B : Option Addr) (mB cB : Nat) (hW : Below w.heap.size w W) (hB : U32s W B mB cB (digs T)) => nsub_any B A2 mB cB m2 c2 (digs T) (digs S2) W hB (h2.below hW) (wlen_digs_le (K := 16384) (by omega)) (wlen_digs_le (K := 16384) (by omega)) (by rw [num_digs, num_digs]; exact hle)
  rw [num_digs, num_digs] at HADD HCMP HSB1 HSB2
  have hee : e1 - e2 ≤ 2000000 ∧ -2000000 ≤ e1 - e2 := by omega
  obtain ⟨ng, hng⟩ : ∃ b, (dsum n2 S2 n1 T).1 = b := ⟨_, rfl⟩
  obtain ⟨Sg, hsg⟩ : ∃ b, (dsum n2 S2 n1 T).2 = b := ⟨_, rfl⟩
  rw [hng, hsg]
  have HDS := Lib.hid (show dsum n2 S2 n1 T = (ng, Sg) from by rw [← hng, ← hsg])
  clear hng hsg
  clear h1 h2 hS1 hS2 hT hbq hb1 hb2 hk
  have LB0 := Lib.hid (show Below w.heap.size w (((w.alloc (.cells #[.bool n1, .slice A1 m1 c1, .int .i64 e1] 156)).alloc (.cells #[.bool n2, .slice A2 m2 c2, .int .i64 e2] 156)).alloc (.cells #[.bool false, .slice none 0 0, .int .i64 0] 156)) from (((below_alloc w _).alloc (by simp <;> omega) _).alloc (by simp <;> omega) _))
  have LG0_0 := Lib.hid ((((Blk.at (W := w) (g := w.heap.size) (by simp <;> omega) 156 #[.bool n1, .slice A1 m1 c1, .int .i64 e1]).alloc (.cells #[.bool n2, .slice A2 m2 c2, .int .i64 e2] 156)).alloc (.cells #[.bool false, .slice none 0 0, .int .i64 0] 156)))
  have LG1_0 := Lib.hid (((Blk.at (W := (w.alloc (.cells #[.bool n1, .slice A1 m1 c1, .int .i64 e1] 156))) (g := (w.heap.size + 1)) (by simp <;> omega) 156 #[.bool n2, .slice A2 m2 c2, .int .i64 e2]).alloc (.cells #[.bool false, .slice none 0 0, .int .i64 0] 156)))
  have LR0 := Lib.hid (HasBlk.of (n := 3) (Blk.at (W := ((w.alloc (.cells #[.bool n1, .slice A1 m1 c1, .int .i64 e1] 156)).alloc (.cells #[.bool n2, .slice A2 m2 c2, .int .i64 e2] 156))) (g := (w.heap.size + 2)) (by simp <;> omega) 156 #[.bool false, .slice none 0 0, .int .i64 0]) rfl rfl)
  go_enter Tryz.func183, Tryz.ntmps183
  have q0_0 : _ = some (.bool n1 : Value) := LG0_0.out.cell 0
  have q0_1 : _ = some (.slice A1 m1 c1 : Value) := LG0_0.out.cell 1
  have q0_2 : _ = some (.int .i64 e1 : Value) := LG0_0.out.cell 2
  have q1_0 : _ = some (.bool n2 : Value) := LG1_0.out.cell 0
  have q1_1 : _ = some (.slice A2 m2 c2 : Value) := LG1_0.out.cell 1
  have q1_2 : _ = some (.int .i64 e2 : Value) := LG1_0.out.cell 2
  have hf00 := LG0_0.out.frozen 0
  have hf01 := LG0_0.out.frozen 1
  have hf02 := LG0_0.out.frozen 2
  have hf10 := LG1_0.out.frozen 0
  have hf11 := LG1_0.out.frozen 1
  have hf12 := LG1_0.out.frozen 2
  go_upto_region 7 with fail
  clear q0_0 q0_1 q0_2 q1_0 q1_1 q1_2 hf00 hf01 hf02 hf10 hf11 hf12
  clear LB0 LR0 LG0_0 LG1_0
  have LB0 := Lib.hid (show Below w.heap.size w (((w.alloc (.cells #[.bool n2, .slice A2 m2 c2, .int .i64 e2] 156)).alloc (.cells #[.bool n1, .slice A1 m1 c1, .int .i64 e1] 156)).alloc (.cells #[.bool false, .slice none 0 0, .int .i64 0] 156)) from (((below_alloc w _).alloc (by simp <;> omega) _).alloc (by simp <;> omega) _))
  have LG0_0 := Lib.hid ((((Blk.at (W := w) (g := w.heap.size) (by simp <;> omega) 156 #[.bool n2, .slice A2 m2 c2, .int .i64 e2]).alloc (.cells #[.bool n1, .slice A1 m1 c1, .int .i64 e1] 156)).alloc (.cells #[.bool false, .slice none 0 0, .int .i64 0] 156)))
  have LG1_0 := Lib.hid (((Blk.at (W := (w.alloc (.cells #[.bool n2, .slice A2 m2 c2, .int .i64 e2] 156))) (g := (w.heap.size + 1)) (by simp <;> omega) 156 #[.bool n1, .slice A1 m1 c1, .int .i64 e1]).alloc (.cells #[.bool false, .slice none 0 0, .int .i64 0] 156)))
  have LR0 := Lib.hid (HasBlk.of (n := 3) (Blk.at (W := ((w.alloc (.cells #[.bool n2, .slice A2 m2 c2, .int .i64 e2] 156)).alloc (.cells #[.bool n1, .slice A1 m1 c1, .int .i64 e1] 156))) (g := (w.heap.size + 2)) (by simp <;> omega) 156 #[.bool false, .slice none 0 0, .int .i64 0]) rfl rfl)
  have q0_0 : _ = some (.bool n2 : Value) := LG0_0.out.cell 0
  have q0_1 : _ = some (.slice A2 m2 c2 : Value) := LG0_0.out.cell 1
  have q0_2 : _ = some (.int .i64 e2 : Value) := LG0_0.out.cell 2
  have q1_0 : _ = some (.bool n1 : Value) := LG1_0.out.cell 0
  have q1_1 : _ = some (.slice A1 m1 c1 : Value) := LG1_0.out.cell 1
  have q1_2 : _ = some (.int .i64 e1 : Value) := LG1_0.out.cell 2
  go_wp2_with fail
  refine (HSH.out _ LB0.out).mono ?_
  rintro e w2 ⟨A3, m3, c3, rfl, hu3, hbb2⟩
  have LB1 := Lib.hid (LB0.out.trans (hbb2.mono LB0.out.size))
  have LR1 := Lib.hid (LR0.out.keep hbb2)
  have LG0_1 := Lib.hid (LG0_0.out.keep hbb2)
  have LG1_1 := Lib.hid (LG1_0.out.keep hbb2)
  clear LB0 LR0 LG0_0 LG1_0
  clear hbb2 q0_0 q0_1 q0_2 q1_0 q1_1 q1_2
  have q1_0 : _ = some (.bool n1 : Value) := LG1_1.out.cell 0
  have q1_1 : _ = some (.slice A1 m1 c1 : Value) := LG1_1.out.cell 1
  have q1_2 : _ = some (.int .i64 e1 : Value) := LG1_1.out.cell 2
  have hf1 := LG1_1.out.frozen 1
  go_upto_region 8 with fail
  clear q1_0 q1_1 q1_2 hf1
  have hu3s := hu3.carry LG1_1.out rfl 1 (.slice A3 m3 c3)
  have LB2 := Lib.hid (LB1.out.setCell (p := ⟨(w.heap.size + 1), 1, none⟩) (show w.heap.size ≤ (w.heap.size + 1) by omega) (.slice A3 m3 c3))
  have LR2 := Lib.hid (show HasBlk (w2.setCell ⟨(w.heap.size + 1), 1, none⟩ (.slice A3 m3 c3)) (w.heap.size + 2) 156 3 from LR1.out.other (by omega) 1 [.slice A3 m3 c3])
  have LG0_2 := Lib.hid (show Blk (w2.setCell ⟨(w.heap.size + 1), 1, none⟩ (.slice A3 m3 c3)) w.heap.size 156 #[.bool n2, .slice A2 m2 c2, .int .i64 e2] from LG0_1.out.other (by omega) 1 [.slice A3 m3 c3])
  have LG1_2 := Lib.hid (LG1_1.out.set 1 (.slice A3 m3 c3))
  clear LB1 LR1 LG0_1 LG1_1
  obtain ⟨V3, hV3⟩ : ∃ X, (w2.setCell ⟨(w.heap.size + 1), 1, none⟩ (.slice A3 m3 c3)) = X := ⟨_, rfl⟩
  rw [hV3] at hu3s LB2 LR2 LG0_2 LG1_2 ⊢
  have HU3 := Lib.hid hu3s
  clear hV3 hu3 hu3s HSH
  by_cases hs : n2 = n1
  · subst hs
    have HN := Lib.hid (show ng = n2 ∧ Sg = S2 + T from by have h := HDS.out; unfold dsum at h; rw [if_pos rfl] at h; cases h; exact ⟨rfl, rfl⟩)
    clear HDS
    have q0_0 : _ = some (.bool n2 : Value) := LG0_2.out.cell 0
    have q0_1 : _ = some (.slice A2 m2 c2 : Value) := LG0_2.out.cell 1
    have q0_2 : _ = some (.int .i64 e2 : Value) := LG0_2.out.cell 2
    have q1_0 : _ = some (.bool n2 : Value) := LG1_2.out.cell 0
    have q1_1 : _ = some (.slice A3 m3 c3 : Value) := LG1_2.out.cell 1
    have q1_2 : _ = some (.int .i64 e1 : Value) := LG1_2.out.cell 2
    go_wp2_with fail
    refine (HADD.out _ _ _ _ LB2.out HU3.out).mono ?_
    rintro e w4 ⟨A4, m4, c4, rfl, hu4, hbb4⟩
    have LB3 := Lib.hid (LB2.out.trans (hbb4.mono LB2.out.size))
    have LR3 := Lib.hid (LR2.out.keep hbb4)
    have LG0_3 := Lib.hid (LG0_2.out.keep hbb4)
    have LG1_3 := Lib.hid (LG1_2.out.keep hbb4)
    clear LB2 LR2 LG0_2 LG1_2
    clear hbb4 q0_0 q0_1 q0_2 q1_0 q1_1 q1_2
    have q0_0 : _ = some (.bool n2 : Value) := LG0_3.out.cell 0
    have q0_1 : _ = some (.slice A2 m2 c2 : Value) := LG0_3.out.cell 1
    have q0_2 : _ = some (.int .i64 e2 : Value) := LG0_3.out.cell 2
    have hf1 := LG0_3.out.frozen 1
    have hu4s := hu4.carry LG0_3.out rfl 1 (.slice A4 m4 c4)
    go_upto_region 10 with fail
    clear q0_0 q0_1 q0_2 hf1
    have LB4 := Lib.hid (LB3.out.setCell (p := ⟨w.heap.size, 1, none⟩) (show w.heap.size ≤ w.heap.size by omega) (.slice A4 m4 c4))
    have LR4 := Lib.hid (show HasBlk (w4.setCell ⟨w.heap.size, 1, none⟩ (.slice A4 m4 c4)) (w.heap.size + 2) 156 3 from LR3.out.other (by omega) 1 [.slice A4 m4 c4])
    have LG0_4 := Lib.hid (LG0_3.out.set 1 (.slice A4 m4 c4))
    have LG1_4 := Lib.hid (show Blk (w4.setCell ⟨w.heap.size, 1, none⟩ (.slice A4 m4 c4)) (w.heap.size + 1) 156 #[.bool n2, .slice A3 m3 c3, .int .i64 e1] from LG1_3.out.other (by omega) 1 [.slice A4 m4 c4])
    clear LB3 LR3 LG0_3 LG1_3
    obtain ⟨V4, hV4⟩ : ∃ X, (w4.setCell ⟨w.heap.size, 1, none⟩ (.slice A4 m4 c4)) = X := ⟨_, rfl⟩
    rw [hV4] at hu4s LB4 LR4 LG0_4 LG1_4 ⊢
    clear hV4 hu4
    have q0_0 : _ = some (.bool n2 : Value) := LG0_4.out.cell 0
    have q0_1 : _ = some (.slice A4 m4 c4 : Value) := LG0_4.out.cell 1
    have q0_2 : _ = some (.int .i64 e2 : Value) := LG0_4.out.cell 2
    have ha0 := LR4.out.someCell 0 (by decide)
    have hf0 := LR4.out.frozen 0
    have ha1 := LR4.out.someCell 1 (by decide)
    have hf1 := LR4.out.frozen 1
    have ha2 := LR4.out.someCell 2 (by decide)
    have hf2 := LR4.out.frozen 2
    have hk0 := LR4.out.setCell [.bool n2, .slice A4 m4 c4, .int .i64 e2] rfl 0 (by decide)
    have hk1 := LR4.out.setCell [.bool n2, .slice A4 m4 c4, .int .i64 e2] rfl 1 (by decide)
    have hk2 := LR4.out.setCell [.bool n2, .slice A4 m4 c4, .int .i64 e2] rfl 2 (by decide)
    have F := Lib.hid (below_sets (w0 := w) (r := (w.heap.size + 2)) (by omega) [.bool n2, .slice A4 m4 c4, .int .i64 e2] 0 _ LB4.out)
    simp [sets] at hk0 hk1 hk2
    have FU := Lib.hid (LR4.out.u32s hu4s [.bool n2, .slice A4 m4 c4, .int .i64 e2])
    clear hu4s
    go_wp2
    refine bodyPost_ret (v := .agg #[.bool n2, .slice A4 m4 c4, .int .i64 e2]) (by simp [results, Tryz.results183, go_sem, hk0, hk1, hk2]) rfl ?_
    exact ⟨A4, m4, c4, by rw [HN.out.1], by rw [HN.out.2]; exact FU.out, F.out⟩
  · have hs2 : (n2 == n1) = false := by simp [hs]
    have q0_0 : _ = some (.bool n2 : Value) := LG0_2.out.cell 0
    have q0_1 : _ = some (.slice A2 m2 c2 : Value) := LG0_2.out.cell 1
    have q0_2 : _ = some (.int .i64 e2 : Value) := LG0_2.out.cell 2
    have q1_0 : _ = some (.bool n1 : Value) := LG1_2.out.cell 0
    have q1_1 : _ = some (.slice A3 m3 c3 : Value) := LG1_2.out.cell 1
    have q1_2 : _ = some (.int .i64 e1 : Value) := LG1_2.out.cell 2
    go_wp2_with fail
    refine (HCMP.out _ _ _ _ LB2.out HU3.out).mono ?_
    rintro e w3 ⟨rfl, z, hz⟩
    have hbb3 : Below V3.heap.size V3 w3 := by rw [hz]; exact below_drewN (Below.refl _ _) z
    have LB3 := Lib.hid (LB2.out.trans (hbb3.mono LB2.out.size))
    have LR3 := Lib.hid (LR2.out.keep hbb3)
    have LG0_3 := Lib.hid (LG0_2.out.keep hbb3)
    have LG1_3 := Lib.hid (LG1_2.out.keep hbb3)
    clear LB2 LR2 LG0_2 LG1_2
    have HU3b := Lib.hid (HU3.out.below hbb3)
    clear hz hbb3 HU3 q0_0 q0_1 q0_2 q1_0 q1_1 q1_2
    by_cases hlt : S2 < T
    · have HN := Lib.hid (show ng = n1 ∧ Sg = T - S2 from by have h := HDS.out; unfold dsum at h; rw [if_neg hs, if_pos hlt] at h; cases h; exact ⟨rfl, rfl⟩)
      rw [cmp3_lt hlt]
      clear HDS hs
      have q0_0 : _ = some (.bool n2 : Value) := LG0_3.out.cell 0
      have q0_1 : _ = some (.slice A2 m2 c2 : Value) := LG0_3.out.cell 1
      have q0_2 : _ = some (.int .i64 e2 : Value) := LG0_3.out.cell 2
      have q1_0 : _ = some (.bool n1 : Value) := LG1_3.out.cell 0
      have q1_1 : _ = some (.slice A3 m3 c3 : Value) := LG1_3.out.cell 1
      have q1_2 : _ = some (.int .i64 e1 : Value) := LG1_3.out.cell 2
      have hf0 := LG0_3.out.frozen 0
      go_upto_region 13 with fail
      clear q0_0 q0_1 q0_2 q1_0 q1_1 q1_2 hf0
      have hu5 := HU3b.out.carry LG0_3.out rfl 0 (.bool n1)
      have LB4 := Lib.hid (LB3.out.setCell (p := ⟨w.heap.size, 0, none⟩) (show w.heap.size ≤ w.heap.size by omega) (.bool n1))
      have LR4 := Lib.hid (show HasBlk (w3.setCell ⟨w.heap.size, 0, none⟩ (.bool n1)) (w.heap.size + 2) 156 3 from LR3.out.other (by omega) 0 [.bool n1])
      have LG0_4 := Lib.hid (LG0_3.out.set 0 (.bool n1))
      have LG1_4 := Lib.hid (show Blk (w3.setCell ⟨w.heap.size, 0, none⟩ (.bool n1)) (w.heap.size + 1) 156 #[.bool n1, .slice A3 m3 c3, .int .i64 e1] from LG1_3.out.other (by omega) 0 [.bool n1])
      clear LB3 LR3 LG0_3 LG1_3
      obtain ⟨V5, hV5⟩ : ∃ X, (w3.setCell ⟨w.heap.size, 0, none⟩ (.bool n1)) = X := ⟨_, rfl⟩
      rw [hV5] at hu5 LB4 LR4 LG0_4 LG1_4 ⊢
      clear hV5
      have q0_0 : _ = some (.bool n1 : Value) := LG0_4.out.cell 0
      have q0_1 : _ = some (.slice A2 m2 c2 : Value) := LG0_4.out.cell 1
      have q0_2 : _ = some (.int .i64 e2 : Value) := LG0_4.out.cell 2
      have q1_0 : _ = some (.bool n1 : Value) := LG1_4.out.cell 0
      have q1_1 : _ = some (.slice A3 m3 c3 : Value) := LG1_4.out.cell 1
      have q1_2 : _ = some (.int .i64 e1 : Value) := LG1_4.out.cell 2
      have hf01 := LG0_4.out.frozen 1
      have hf11 := LG1_4.out.frozen 1
      go_upto_region 14 with fail
      clear q0_0 q0_1 q0_2 q1_0 q1_1 q1_2 hf01 hf11
      have hu6 := hu5.carry LG0_4.out rfl 1 (.slice A3 m3 c3)
      have LB5 := Lib.hid (LB4.out.setCell (p := ⟨w.heap.size, 1, none⟩) (show w.heap.size ≤ w.heap.size by omega) (.slice A3 m3 c3))
      have LR5 := Lib.hid (show HasBlk (V5.setCell ⟨w.heap.size, 1, none⟩ (.slice A3 m3 c3)) (w.heap.size + 2) 156 3 from LR4.out.other (by omega) 1 [.slice A3 m3 c3])
      have LG0_5 := Lib.hid (LG0_4.out.set 1 (.slice A3 m3 c3))
      have LG1_5 := Lib.hid (show Blk (V5.setCell ⟨w.heap.size, 1, none⟩ (.slice A3 m3 c3)) (w.heap.size + 1) 156 #[.bool n1, .slice A3 m3 c3, .int .i64 e1] from LG1_4.out.other (by omega) 1 [.slice A3 m3 c3])
      clear LB4 LR4 LG0_4 LG1_4
      obtain ⟨V6, hV6⟩ : ∃ X, (V5.setCell ⟨w.heap.size, 1, none⟩ (.slice A3 m3 c3)) = X := ⟨_, rfl⟩
      rw [hV6] at hu6 LB5 LR5 LG0_5 LG1_5 ⊢
      clear hV6
      have hu7 := hu6.carry LG1_5.out rfl 1 (.slice A2 m2 c2)
      have LB6 := Lib.hid (LB5.out.setCell (p := ⟨(w.heap.size + 1), 1, none⟩) (show w.heap.size ≤ (w.heap.size + 1) by omega) (.slice A2 m2 c2))
      have LR6 := Lib.hid (show HasBlk (V6.setCell ⟨(w.heap.size + 1), 1, none⟩ (.slice A2 m2 c2)) (w.heap.size + 2) 156 3 from LR5.out.other (by omega) 1 [.slice A2 m2 c2])
      have LG0_6 := Lib.hid (show Blk (V6.setCell ⟨(w.heap.size + 1), 1, none⟩ (.slice A2 m2 c2)) w.heap.size 156 #[.bool n1, .slice A3 m3 c3, .int .i64 e2] from LG0_5.out.other (by omega) 1 [.slice A2 m2 c2])
      have LG1_6 := Lib.hid (LG1_5.out.set 1 (.slice A2 m2 c2))
      clear LB5 LR5 LG0_5 LG1_5
      obtain ⟨V7, hV7⟩ : ∃ X, (V6.setCell ⟨(w.heap.size + 1), 1, none⟩ (.slice A2 m2 c2)) = X := ⟨_, rfl⟩
      rw [hV7] at hu7 LB6 LR6 LG0_6 LG1_6 ⊢
      clear hV7 hu5 hu6
      have HU7 := Lib.hid hu7
      clear hu7
      have q0_0 : _ = some (.bool n1 : Value) := LG0_6.out.cell 0
      have q0_1 : _ = some (.slice A3 m3 c3 : Value) := LG0_6.out.cell 1
      have q0_2 : _ = some (.int .i64 e2 : Value) := LG0_6.out.cell 2
      have q1_0 : _ = some (.bool n1 : Value) := LG1_6.out.cell 0
      have q1_1 : _ = some (.slice A2 m2 c2 : Value) := LG1_6.out.cell 1
      have q1_2 : _ = some (.int .i64 e1 : Value) := LG1_6.out.cell 2
      go_wp2_with fail
      refine (HSB2.out (Nat.le_of_lt hlt) _ _ _ _ LB6.out HU7.out).mono ?_
      rintro e w4 ⟨A4, m4, c4, rfl, hu4, hbb4⟩
      have LB7 := Lib.hid (LB6.out.trans (hbb4.mono LB6.out.size))
      have LR7 := Lib.hid (LR6.out.keep hbb4)
      have LG0_7 := Lib.hid (LG0_6.out.keep hbb4)
      have LG1_7 := Lib.hid (LG1_6.out.keep hbb4)
      clear LB6 LR6 LG0_6 LG1_6
      clear hbb4 q0_0 q0_1 q0_2 q1_0 q1_1 q1_2
      have q0_0 : _ = some (.bool n1 : Value) := LG0_7.out.cell 0
      have q0_1 : _ = some (.slice A3 m3 c3 : Value) := LG0_7.out.cell 1
      have q0_2 : _ = some (.int .i64 e2 : Value) := LG0_7.out.cell 2
      have hf1 := LG0_7.out.frozen 1
      have hu4s := hu4.carry LG0_7.out rfl 1 (.slice A4 m4 c4)
      go_upto_region 15 with fail
      clear q0_0 q0_1 q0_2 hf1
      have LB8 := Lib.hid (LB7.out.setCell (p := ⟨w.heap.size, 1, none⟩) (show w.heap.size ≤ w.heap.size by omega) (.slice A4 m4 c4))
      have LR8 := Lib.hid (show HasBlk (w4.setCell ⟨w.heap.size, 1, none⟩ (.slice A4 m4 c4)) (w.heap.size + 2) 156 3 from LR7.out.other (by omega) 1 [.slice A4 m4 c4])
      have LG0_8 := Lib.hid (LG0_7.out.set 1 (.slice A4 m4 c4))
      have LG1_8 := Lib.hid (show Blk (w4.setCell ⟨w.heap.size, 1, none⟩ (.slice A4 m4 c4)) (w.heap.size + 1) 156 #[.bool n1, .slice A2 m2 c2, .int .i64 e1] from LG1_7.out.other (by omega) 1 [.slice A4 m4 c4])
      clear LB7 LR7 LG0_7 LG1_7
      obtain ⟨V4, hV4⟩ : ∃ X, (w4.setCell ⟨w.heap.size, 1, none⟩ (.slice A4 m4 c4)) = X := ⟨_, rfl⟩
      rw [hV4] at hu4s LB8 LR8 LG0_8 LG1_8 ⊢
      clear hV4 hu4
      have q0_0 : _ = some (.bool n1 : Value) := LG0_8.out.cell 0
      have q0_1 : _ = some (.slice A4 m4 c4 : Value) := LG0_8.out.cell 1
      have q0_2 : _ = some (.int .i64 e2 : Value) := LG0_8.out.cell 2
      have ha0 := LR8.out.someCell 0 (by decide)
      have hf0 := LR8.out.frozen 0
      have ha1 := LR8.out.someCell 1 (by decide)
      have hf1 := LR8.out.frozen 1
      have ha2 := LR8.out.someCell 2 (by decide)
      have hf2 := LR8.out.frozen 2
      have hk0 := LR8.out.setCell [.bool n1, .slice A4 m4 c4, .int .i64 e2] rfl 0 (by decide)
      have hk1 := LR8.out.setCell [.bool n1, .slice A4 m4 c4, .int .i64 e2] rfl 1 (by decide)
      have hk2 := LR8.out.setCell [.bool n1, .slice A4 m4 c4, .int .i64 e2] rfl 2 (by decide)
      have F := Lib.hid (below_sets (w0 := w) (r := (w.heap.size + 2)) (by omega) [.bool n1, .slice A4 m4 c4, .int .i64 e2] 0 _ LB8.out)
      simp [sets] at hk0 hk1 hk2
      have FU := Lib.hid (LR8.out.u32s hu4s [.bool n1, .slice A4 m4 c4, .int .i64 e2])
      clear hu4s
      go_wp2
      refine bodyPost_ret (v := .agg #[.bool n1, .slice A4 m4 c4, .int .i64 e2]) (by simp [results, Tryz.results183, go_sem, hk0, hk1, hk2]) rfl ?_
      exact ⟨A4, m4, c4, by rw [HN.out.1], by rw [HN.out.2]; exact FU.out, F.out⟩
    · have HN := Lib.hid (show ng = n2 ∧ Sg = S2 - T from by have h := HDS.out; unfold dsum at h; rw [if_neg hs, if_neg hlt] at h; cases h; exact ⟨rfl, rfl⟩)
      clear HDS hs
      have hc3 : ¬ cmp3 S2 T < 0 := fun h => hlt (cmp3_neg.1 h)
      obtain ⟨r, hr⟩ : ∃ r, cmp3 S2 T = r := ⟨_, rfl⟩
      rw [hr] at hc3 ⊢
      clear hr
      have q0_0 : _ = some (.bool n2 : Value) := LG0_3.out.cell 0
      have q0_1 : _ = some (.slice A2 m2 c2 : Value) := LG0_3.out.cell 1
      have q0_2 : _ = some (.int .i64 e2 : Value) := LG0_3.out.cell 2
      have q1_0 : _ = some (.bool n1 : Value) := LG1_3.out.cell 0
      have q1_1 : _ = some (.slice A3 m3 c3 : Value) := LG1_3.out.cell 1
      have q1_2 : _ = some (.int .i64 e1 : Value) := LG1_3.out.cell 2
      go_wp2_with fail
      refine (HSB1.out (Nat.le_of_not_lt hlt) _ _ _ _ LB3.out HU3b.out).mono ?_
      rintro e w4 ⟨A4, m4, c4, rfl, hu4, hbb4⟩
      have LB4 := Lib.hid (LB3.out.trans (hbb4.mono LB3.out.size))
      have LR4 := Lib.hid (LR3.out.keep hbb4)
      have LG0_4 := Lib.hid (LG0_3.out.keep hbb4)
      have LG1_4 := Lib.hid (LG1_3.out.keep hbb4)
      clear LB3 LR3 LG0_3 LG1_3
      clear hbb4 q0_0 q0_1 q0_2 q1_0 q1_1 q1_2
      have q0_0 : _ = some (.bool n2 : Value) := LG0_4.out.cell 0
      have q0_1 : _ = some (.slice A2 m2 c2 : Value) := LG0_4.out.cell 1
      have q0_2 : _ = some (.int .i64 e2 : Value) := LG0_4.out.cell 2
      have hf1 := LG0_4.out.frozen 1
      have hu4s := hu4.carry LG0_4.out rfl 1 (.slice A4 m4 c4)
      go_upto_region 15 with fail
      clear q0_0 q0_1 q0_2 hf1
      have LB5 := Lib.hid (LB4.out.setCell (p := ⟨w.heap.size, 1, none⟩) (show w.heap.size ≤ w.heap.size by omega) (.slice A4 m4 c4))
      have LR5 := Lib.hid (show HasBlk (w4.setCell ⟨w.heap.size, 1, none⟩ (.slice A4 m4 c4)) (w.heap.size + 2) 156 3 from LR4.out.other (by omega) 1 [.slice A4 m4 c4])
      have LG0_5 := Lib.hid (LG0_4.out.set 1 (.slice A4 m4 c4))
      have LG1_5 := Lib.hid (show Blk (w4.setCell ⟨w.heap.size, 1, none⟩ (.slice A4 m4 c4)) (w.heap.size + 1) 156 #[.bool n1, .slice A3 m3 c3, .int .i64 e1] from LG1_4.out.other (by omega) 1 [.slice A4 m4 c4])
      clear LB4 LR4 LG0_4 LG1_4
      obtain ⟨V4, hV4⟩ : ∃ X, (w4.setCell ⟨w.heap.size, 1, none⟩ (.slice A4 m4 c4)) = X := ⟨_, rfl⟩
      rw [hV4] at hu4s LB5 LR5 LG0_5 LG1_5 ⊢
      clear hV4 hu4
      have q0_0 : _ = some (.bool n2 : Value) := LG0_5.out.cell 0
      have q0_1 : _ = some (.slice A4 m4 c4 : Value) := LG0_5.out.cell 1
      have q0_2 : _ = some (.int .i64 e2 : Value) := LG0_5.out.cell 2
      have ha0 := LR5.out.someCell 0 (by decide)
      have hf0 := LR5.out.frozen 0
      have ha1 := LR5.out.someCell 1 (by decide)
      have hf1 := LR5.out.frozen 1
      have ha2 := LR5.out.someCell 2 (by decide)
      have hf2 := LR5.out.frozen 2
      have hk0 := LR5.out.setCell [.bool n2, .slice A4 m4 c4, .int .i64 e2] rfl 0 (by decide)
      have hk1 := LR5.out.setCell [.bool n2, .slice A4 m4 c4, .int .i64 e2] rfl 1 (by decide)
      have hk2 := LR5.out.setCell [.bool n2, .slice A4 m4 c4, .int .i64 e2] rfl 2 (by decide)
      have F := Lib.hid (below_sets (w0 := w) (r := (w.heap.size + 2)) (by omega) [.bool n2, .slice A4 m4 c4, .int .i64 e2] 0 _ LB5.out)
      simp [sets] at hk0 hk1 hk2
      have FU := Lib.hid (LR5.out.u32s hu4s [.bool n2, .slice A4 m4 c4, .int .i64 e2])
      clear hu4s
      go_wp2
      refine bodyPost_ret (v := .agg #[.bool n2, .slice A4 m4 c4, .int .i64 e2]) (by simp [results, Tryz.results183, go_sem, hk0, hk1, hk2]) rfl ?_
      exact ⟨A4, m4, c4, by rw [HN.out.1], by rw [HN.out.2]; exact FU.out, F.out⟩

end Go.Proofs.YtmjkmoahkanblaaGreat
