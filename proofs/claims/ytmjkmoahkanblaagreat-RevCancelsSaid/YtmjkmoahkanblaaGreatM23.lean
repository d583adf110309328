/-
Walks: package vergelaw10, in and out; package rev, mirror.
Walks: package fbit, Split of a finite float; what stands below it.
Walks: package rev, point, aligned, less of finite ends.
-/
import Derived.Test.YtmjkmoahkanblaaGreatPGoA
import Derived.Test.YtmjkmoahkanblaaGreatPMathT
import Derived.Test.YtmjkmoahkanblaaGreatM03
import Derived.Test.YtmjkmoahkanblaaGreatM04
import Derived.Laws.FloatArith
import Derived.Test.YtmjkmoahkanblaaGreatM18
import Derived.Deep.DeepCutAuto
set_option linter.unusedSimpArgs false
set_option linter.unusedVariables false

namespace Go.Proofs.YtmjkmoahkanblaaGreat
open Go.RowKit
attribute [local go_sem] run_store_float run_frombits run_bitsof

set_option maxHeartbeats 3200000 in
theorem law_in (x y : Nat) (w : World) : Calls Tryz.prog 11 #[.agg #[.int .u64 (x : Int), .int .u64 (y : Int)]] w fun e w' => e = .returned (.agg #[.float .f64 x, .float .f64 y]) ∧ Below w.heap.size w w' := by
  have LB0 := Lib.hid (show Below w.heap.size w ((w.alloc (.cells #[.int .u64 (x : Int), .int .u64 (y : Int)] 24)).alloc (.cells #[.float .f64 0, .float .f64 0] 29)) from ((below_alloc w _).alloc (by simp <;> omega) _))
  have LG0_0 := Lib.hid (((Blk.at (W := w) (g := w.heap.size) (by simp <;> omega) 24 #[.int .u64 (x : Int), .int .u64 (y : Int)]).alloc (.cells #[.float .f64 0, .float .f64 0] 29)))
  have LR0 := Lib.hid (HasBlk.of (n := 2) (Blk.at (W := (w.alloc (.cells #[.int .u64 (x : Int), .int .u64 (y : Int)] 24))) (g := (w.heap.size + 1)) (by simp <;> omega) 29 #[.float .f64 0, .float .f64 0]) rfl rfl)
  go_enter Tryz.func11, Tryz.ntmps11
  go_wp2_with fail
  clear LB0 LG0_0 LR0
  go_region
  all_goals go_wp2
  all_goals (refine bodyPost_ret (v := .agg #[.float .f64 x, .float .f64 y]) (by simp [results, Tryz.results11, go_sem]) rfl ?_; exact ⟨rfl, ((below_alloc w _).alloc (by simp) _).drew⟩)

set_option maxHeartbeats 3200000 in
theorem law_out (x y : Nat) (w : World) : Calls Tryz.prog 12 #[.agg #[.float .f64 x, .float .f64 y]] w fun e w' => e = .returned (.agg #[.int .u64 (x : Int), .int .u64 (y : Int)]) ∧ Below w.heap.size w w' := by
  have LB0 := Lib.hid (show Below w.heap.size w ((w.alloc (.cells #[.float .f64 x, .float .f64 y] 29)).alloc (.cells #[.int .u64 0, .int .u64 0] 24)) from ((below_alloc w _).alloc (by simp <;> omega) _))
  have LG0_0 := Lib.hid (((Blk.at (W := w) (g := w.heap.size) (by simp <;> omega) 29 #[.float .f64 x, .float .f64 y]).alloc (.cells #[.int .u64 0, .int .u64 0] 24)))
  have LR0 := Lib.hid (HasBlk.of (n := 2) (Blk.at (W := (w.alloc (.cells #[.float .f64 x, .float .f64 y] 29))) (g := (w.heap.size + 1)) (by simp <;> omega) 24 #[.int .u64 0, .int .u64 0]) rfl rfl)
  go_enter Tryz.func12, Tryz.ntmps12
  go_wp2_with fail
  clear LB0 LG0_0 LR0
  go_region
  all_goals go_wp2
  all_goals (refine bodyPost_ret (v := .agg #[.int .u64 (x : Int), .int .u64 (y : Int)]) (by simp [results, Tryz.results12, go_sem]) rfl ?_; exact ⟨rfl, ((below_alloc w _).alloc (by simp) _).drew⟩)

set_option maxHeartbeats 3200000 in
theorem mirrorf (x y : Nat) (w : World) (hx : x < 18446744073709551616) (hy : y < 18446744073709551616) : Calls Tryz.prog 59 #[.agg #[.float .f64 x, .float .f64 y]] w fun e w' => e = .returned (.agg #[.float .f64 (pat (-(rd x y).2)), .float .f64 (pat (-(rd x y).1))]) ∧ Below w.heap.size w w' := by
  have HN := Lib.hid fun W => negf x y W hx hy
  obtain ⟨p, hp⟩ : ∃ p, pat (-(rd x y).2) = p := ⟨_, rfl⟩
  obtain ⟨q, hq⟩ : ∃ p, pat (-(rd x y).1) = p := ⟨_, rfl⟩
  rw [hp, hq] at HN
  rw [hp, hq]
  clear hp hq
  have LB0 := Lib.hid (show Below w.heap.size w ((w.alloc (.cells #[.float .f64 x, .float .f64 y] 29)).alloc (.cells #[.float .f64 0, .float .f64 0] 29)) from ((below_alloc w _).alloc (by simp <;> omega) _))
  have LG0_0 := Lib.hid (((Blk.at (W := w) (g := w.heap.size) (by simp <;> omega) 29 #[.float .f64 x, .float .f64 y]).alloc (.cells #[.float .f64 0, .float .f64 0] 29)))
  have LR0 := Lib.hid (HasBlk.of (n := 2) (Blk.at (W := (w.alloc (.cells #[.float .f64 x, .float .f64 y] 29))) (g := (w.heap.size + 1)) (by simp <;> omega) 29 #[.float .f64 0, .float .f64 0]) rfl rfl)
  go_enter Tryz.func59, Tryz.ntmps59
  go_wp2_with fail
  refine (HN.out _).mono ?_
  rintro e w1 ⟨rfl, hb1⟩
  have LB1 := Lib.hid (LB0.out.trans (hb1.mono LB0.out.size))
  have LR1 := Lib.hid (LR0.out.keep hb1)
  have LG0_1 := Lib.hid (LG0_0.out.keep hb1)
  clear LB0 LR0 LG0_0
  clear hb1
  have ha0 := LR1.out.someCell 0 (by decide)
  have hf0 := LR1.out.frozen 0
  have ha1 := LR1.out.someCell 1 (by decide)
  have hf1 := LR1.out.frozen 1
  have hk0 := LR1.out.setCell [.float .f64 p, .float .f64 q] rfl 0 (by decide)
  have hk1 := LR1.out.setCell [.float .f64 p, .float .f64 q] rfl 1 (by decide)
  have F := Lib.hid (below_sets (w0 := w) (r := (w.heap.size + 1)) (by omega) [.float .f64 p, .float .f64 q] 0 _ LB1.out)
  simp [sets] at hk0 hk1
  go_wp2
  refine bodyPost_ret (v := .agg #[.float .f64 p, .float .f64 q]) (by simp [results, Tryz.results59, go_sem, hk0, hk1]) rfl ?_
  exact ⟨rfl, F.out⟩

end Go.Proofs.YtmjkmoahkanblaaGreat

namespace Go.Proofs.YtmjkmoahkanblaaGreat
open Go.RowKit Ieee
attribute [local go_sem] run_store_float run_frombits run_bitsof run_negf

theorem fsmall (w : World) : Calls Tryz.prog 234 #[] w fun e w' => e = .returned (.bool false) ∧ w = w' := by
  have h1 : floatOfInt .f64 16777216 = 4715268809856909312 := by kernel_rfl
  have h2 := fun W => run_float_arith (P := Tryz.prog) W .add 27 .f64 4715268809856909312 4607182418800017408 4715268810125344768 (by kernel_rfl)
  have h3 : FloatKind.f64.format.order 4715268810125344768 4715268809856909312 = some .gt := by kernel_rfl
  go_enter Tryz.func234, Tryz.ntmps234
  go_wp2
  go_ret
  exact ⟨rfl, rfl⟩
theorem pattern_any (b : Nat) (w : World) : Calls Tryz.prog 211 #[.float .f64 b] w fun e w' => e = .returned (.int .u64 (b : Int)) ∧ w = w' := by
  have HS := Lib.hid fsmall
  have ff := fun W => run_bitsof b W
  go_enter Tryz.func211, Tryz.ntmps211
  go_wp2_with fail
  refine (HS.out _).mono ?_
  rintro e w' ⟨rfl, rfl⟩
  go_wp2
  go_ret
  exact ⟨rfl, rfl⟩
theorem format_any (w : World) : Calls Tryz.prog 210 #[] w fun e w' => e = .returned (.agg #[.int .i64 52, .int .i64 (-1074), .int .i64 971, .int .u64 9218868437227405312, .int .u64 9223372036854775808]) ∧ Below w.heap.size w w' := by
  have HS := Lib.hid fsmall
  have HB := Lib.hid (below_alloc w (.cells #[.int .i64 52, .int .i64 (-1074), .int .i64 971, .int .u64 9218868437227405312, .int .u64 9223372036854775808] 176))
  go_enter Tryz.func210, Tryz.ntmps210
  go_wp2_with fail
  refine (HS.out _).mono ?_
  rintro e w' ⟨rfl, rfl⟩
  go_wp2
  refine bodyPost_ret (v := .agg #[.int .i64 52, .int .i64 (-1074), .int .i64 971, .int .u64 9218868437227405312, .int .u64 9223372036854775808]) (by simp [results, Tryz.results210, go_sem]) rfl ?_
  exact ⟨rfl, HB.out⟩

/-- What Split answers. -/
def SplitTo (w : World) (neg : Bool) (S : Nat) (x : Int) (e : Ending) (w' : World) : Prop :=
  e = .returned (.tuple #[.bool neg, .int .u64 (S : Int), .int .i64 x, .bool true]) ∧ Below w.heap.size w w'

set_option maxRecDepth 100000 in
set_option maxHeartbeats 1600000 in
theorem split_walk (b m e f S : Nat) (neg : Bool) (w : World) (hb : b < 18446744073709551616) (hm : rungOf b = m) (hm2 : m < 9218868437227405312) (he : m / 4503599627370496 = e) (hff : m % 4503599627370496 = f) (hn : (FloatKind.f64.format.order b 0 == some Ordering.lt) = neg) (hS : S = if e = 0 then f else f + 4503599627370496) :
    Calls Tryz.prog 153 #[.float .f64 b] w (SplitTo w neg S (if e = 0 then -1074 else -1074 + ((e : Int) - 1))) := by
  have hsz := size_i hb
  rw [hm] at hsz
  have m1 := mask52_u64 (x := m) (by omega)
  rw [hff] at m1
  have m2 : (m : Int) / 4503599627370496 = (e : Int) := by omega
  have hf2 : f < 4503599627370496 := by omega
  have he2 : e < 2047 := by omega
  have hge : ¬ (9218868437227405312 : Int) ≤ (m : Int) := by omega
  have hor := or_join' (i := 52) (x := 1) (y := f) (by omega) (by omega) (by omega)
  rw [show ((1 * 2^52 : Nat) : Int) = 4503599627370496 from rfl, show (f + 1 * 2^52 : Nat) = f + 4503599627370496 from rfl] at hor
  have HF0 := format_any
  obtain ⟨I, hI⟩ : ∃ I : Int, I = 9218868437227405312 := ⟨_, rfl⟩
  rw [← hI] at HF0 hge
  have HF := Lib.hid HF0
  clear hI HF0
  have HP := Lib.hid fun W => (pattern_any b W).mono (R' := fun e w' => e = .returned (.int .u64 (b : Int)) ∧ w' = W) fun _ _ h => ⟨h.1, h.2.symm⟩
  obtain ⟨bi, hbi⟩ : ∃ z : Int, z = (b : Int) := ⟨_, rfl⟩
  rw [← hbi] at hsz HP
  clear hff he hb hm hbi hm2
  by_cases h0 : e = 0
  · subst h0
    rw [if_pos rfl] at hS ⊢
    subst hS
    rw [show ((0 : Nat) : Int) = 0 from rfl] at m2
    clear hor he2
    go_enter Tryz.func153, Tryz.ntmps153
    go_wp2_with fail
    refine (HF.out _).mono ?_
    rintro e' w1 ⟨rfl, hb1⟩
    have LB1 := Lib.hid (hb1.alloc hb1.size (.cells #[.int .i64 52, .int .i64 (-1074), .int .i64 971, .int .u64 I, .int .u64 9223372036854775808] 176))
    clear hb1 HF
    go_wp2_with fail
    go_quiet ((first | (go_at_call 211; exact Calls.quiet_of_same (HP.out _))))
    have LB2 := Lib.hid (below_drewN LB1.out nq)
    have BK2 := Lib.hid ((Blk.new w1 176 #[.int .i64 52, .int .i64 (-1074), .int .i64 971, .int .u64 I, .int .u64 9223372036854775808]).drewN nq)
    obtain ⟨g, hg⟩ : ∃ g, w1.heap.size = g := ⟨_, rfl⟩
    rw [hg] at BK2
    obtain ⟨W2, hW2⟩ : ∃ W, (w1.alloc (.cells #[.int .i64 52, .int .i64 (-1074), .int .i64 971, .int .u64 I, .int .u64 9223372036854775808] 176)).drewN nq = W := ⟨_, rfl⟩
    rw [hW2] at LB2 BK2
    rw [hg, hW2]
    clear hg hW2 LB1 HP hsz
    have q0 := BK2.out.cell 0
    have q1 := BK2.out.cell 1
    have q3 := BK2.out.cell 3
    simp at q0 q1 q3
    go_wp2_with fail
    go_quiet (fail)
    obtain ⟨nr, hnr⟩ : ∃ n, nq = n := ⟨_, rfl⟩
    clear q0 q1 q3 m1
    have LB3 := Lib.hid (below_drewN LB2.out nq)
    have BK3 := Lib.hid (BK2.out.drewN nq)
    obtain ⟨W3, hW3⟩ : ∃ W, W2.drewN nq = W := ⟨_, rfl⟩
    rw [hW3] at LB3 BK3
    rw [hW3]
    clear hW3 LB2 BK2 hnr
    have q0 := BK3.out.cell 0
    simp at q0
    go_wp2
    refine bodyPost_ret (v := .tuple #[.bool neg, .int .u64 (S : Int), .int .i64 (-1074), .bool true]) (by simp [results, Tryz.results153, go_sem]) rfl ?_
    exact ⟨rfl, LB3.out⟩
  · rw [if_neg h0] at hS ⊢
    obtain ⟨S', hS'⟩ : ∃ z, f + 4503599627370496 = z := ⟨_, rfl⟩
    rw [hS'] at hS hor
    subst hS
    have hei : (0 : Int) < (e : Int) := by omega
    clear h0 hS'
    go_enter Tryz.func153, Tryz.ntmps153
    go_wp2_with fail
    refine (HF.out _).mono ?_
    rintro e' w1 ⟨rfl, hb1⟩
    have LB1 := Lib.hid (hb1.alloc hb1.size (.cells #[.int .i64 52, .int .i64 (-1074), .int .i64 971, .int .u64 I, .int .u64 9223372036854775808] 176))
    clear hb1 HF
    go_wp2_with fail
    go_quiet ((first | (go_at_call 211; exact Calls.quiet_of_same (HP.out _))))
    have LB2 := Lib.hid (below_drewN LB1.out nq)
    have BK2 := Lib.hid ((Blk.new w1 176 #[.int .i64 52, .int .i64 (-1074), .int .i64 971, .int .u64 I, .int .u64 9223372036854775808]).drewN nq)
    obtain ⟨g, hg⟩ : ∃ g, w1.heap.size = g := ⟨_, rfl⟩
    rw [hg] at BK2
    obtain ⟨W2, hW2⟩ : ∃ W, (w1.alloc (.cells #[.int .i64 52, .int .i64 (-1074), .int .i64 971, .int .u64 I, .int .u64 9223372036854775808] 176)).drewN nq = W := ⟨_, rfl⟩
    rw [hW2] at LB2 BK2
    rw [hg, hW2]
    clear hg hW2 LB1 HP hsz
    have q0 := BK2.out.cell 0
    have q1 := BK2.out.cell 1
    have q3 := BK2.out.cell 3
    simp at q0 q1 q3
    go_wp2_with fail
    go_quiet (fail)
    obtain ⟨nr, hnr⟩ : ∃ n, nq = n := ⟨_, rfl⟩
    clear q0 q1 q3 m1
    have LB3 := Lib.hid (below_drewN LB2.out nq)
    have BK3 := Lib.hid (BK2.out.drewN nq)
    obtain ⟨W3, hW3⟩ : ∃ W, W2.drewN nq = W := ⟨_, rfl⟩
    rw [hW3] at LB3 BK3
    rw [hW3]
    clear hW3 LB2 BK2 hnr
    have q0 := BK3.out.cell 0
    simp at q0
    go_wp2
    refine bodyPost_ret (v := .tuple #[.bool neg, .int .u64 (S : Int), .int .i64 (-1074 + ((e : Int) - 1)), .bool true]) (by simp [results, Tryz.results153, go_sem]) rfl ?_
    exact ⟨rfl, LB3.out⟩

theorem split_any (b : Nat) (hb : b < 18446744073709551616) (hf : fin b) : ∃ (S : Nat) (x : Int), S < 9007199254740992 ∧ -1074 ≤ x ∧ x ≤ 971 ∧ fl (idx b) = rv (decide (idx b < 0)) S 1 * 2^x ∧ ∀ w, Calls Tryz.prog 153 #[.float .f64 b] w (SplitTo w (decide (idx b < 0)) S x) := by
  have hr : rungOf b ≤ M := Nat.le_of_lt hf
  have hM : M = 9218868437227405312 := rfl
  have hm2 : rungOf b < 9218868437227405312 := hf
  have hp := fl_parts (b := b) hf rfl rfl rfl
  have hc := pat_cases hb
  have e1 : rungOf b / 4503599627370496 = b / 4503599627370496 % 2048 := by omega
  have e2 : rungOf b % 4503599627370496 = b % 4503599627370496 := by omega
  have hn : (FloatKind.f64.format.order b 0 == some Ordering.lt) = decide (idx b < 0) := by
    rcases Int.lt_trichotomy (idx b) 0 with h | h | h
    · rw [ord_lt hr real_zero (by rw [idx_zero]; exact h), decide_eq_true h]; rfl
    · rw [ord_eq hr real_zero (by rw [idx_zero]; exact h), decide_eq_false (by omega)]; rfl
    · rw [ord_gt hr real_zero (by rw [idx_zero]; exact h), decide_eq_false (by omega)]; rfl
  refine ⟨_, _, ?_, ?_, ?_, ?_, fun w => split_walk b _ _ _ _ _ w hb rfl hm2 e1 e2 hn rfl⟩
  · split <;> omega
  · split <;> omega
  · split <;> omega
  · have hs : ∀ (S : Nat) (x : Int), (S = 0 ∨ sgn b = decide (idx b < 0)) → rv (sgn b) S 1 * 2^x = rv (decide (idx b < 0)) S 1 * 2^x := by
      rintro S x (rfl | h)
      · rw [rv_zero, rv_zero]
      · rw [h]
    have hsd : rungOf b = 0 ∨ sgn b = decide (idx b < 0) := by
      rcases hc with ⟨a, h1, h2, h3⟩ | ⟨a, h1, h2, h3⟩
      · right; rw [h2, decide_eq_false (by omega)]
      · by_cases h0 : rungOf b = 0
        · exact .inl h0
        · right; rw [h2, decide_eq_true (by omega)]
    by_cases h0 : b / 4503599627370496 % 2048 = 0
    · rw [if_pos h0, if_pos h0, ← hs _ _ (hsd.imp (fun h => by omega) id)]
      have := hp.2.2.2 h0
      rw [this, h0]; rfl
    · rw [if_neg h0, if_neg h0, ← hs _ _ (hsd.imp (fun h => by omega) id)]
      rw [hp.2.2.1 (by omega)]
      congr 2; omega

end Go.Proofs.YtmjkmoahkanblaaGreat

namespace Go.Proofs.YtmjkmoahkanblaaGreat
open Go.RowKit
attribute [local go_sem] run_store_float run_negf

/-- An exact number that a call answers. -/
def NewEx (w : World) (x : Rat) (e : Ending) (w' : World) : Prop :=
  ∃ (neg : Bool) (A : Option Addr) (n c S : Nat) (E : Int), e = .returned (.agg #[.int .i64 0, .bool neg, .slice A n c, .int .i64 E]) ∧ U32s w' A n c (digs S) ∧ Below w.heap.size w w' ∧ blen S ≤ 5000 ∧ -1074 ≤ E ∧ E ≤ 971 ∧ x = rv neg S 1 * 2^E
/-- The same of known parts. -/
def NewExP (w : World) (neg : Bool) (S : Nat) (E : Int) (e : Ending) (w' : World) : Prop :=
  ∃ (A : Option Addr) (n c : Nat), e = .returned (.agg #[.int .i64 0, .bool neg, .slice A n c, .int .i64 E]) ∧ U32s w' A n c (digs S) ∧ Below w.heap.size w w'
/-- Two naturals and an exponent. -/
def NewAl (w : World) (X Y : Nat) (E : Int) (e : Ending) (w' : World) : Prop :=
  ∃ (A : Option Addr) (n c : Nat) (B : Option Addr) (m d : Nat), e = .returned (.tuple #[.slice A n c, .slice B m d, .int .i64 E]) ∧ U32s w' A n c (digs X) ∧ U32s w' B m d (digs Y) ∧ Below w.heap.size w w'
theorem run_min_int {a b E : Int} (h : min a b = E) (W : World) (ts : Array TypeId) (t : TypeId) : (Builtin.min_ ts t #[.int .i64 a, .int .i64 b]).run Tryz.prog W = .ok (.int .i64 E) W := by
  have e : (Builtin.min_ ts t #[.int .i64 a, .int .i64 b]) = Builtin.min2 (.int .i64 a) (.int .i64 b) := by simp [Builtin.min_]
  rw [e]
  unfold Builtin.min2
  subst h
  simp [Int.min_def]
  by_cases h : a ≤ b
  · rw [if_neg (by omega), if_pos h]
  · rw [if_pos (by omega), if_neg h]

set_option maxHeartbeats 1600000 in
theorem point_walk (b S : Nat) (x : Int) (neg : Bool) (w : World) (hb : b < 18446744073709551616) (hf : rungOf b < M) (hS : S < 9007199254740992) (hs : ∀ w, Calls Tryz.prog 153 #[.float .f64 b] w (SplitTo w neg S x)) :
    Calls Tryz.prog 83 #[.float .f64 b] w (NewExP w neg S x) := by
  have HI0 := fun W => isinff b W hb (Nat.le_of_lt hf)
  rw [decide_eq_false (show ¬ rungOf b = M by omega)] at HI0
  have HI := Lib.hid HI0
  have HS := Lib.hid hs
  have HN := Lib.hid fun W => nsmall_any S W (by omega)
  clear HI0 hs hb hf hS
  have LB0 := Lib.hid (show Below w.heap.size w (w.alloc (.cells #[.int .i64 0, .bool false, .slice none 0 0, .int .i64 0] 79)) from (below_alloc w _))
  have LR0 := Lib.hid (HasBlk.of (n := 4) (Blk.at (W := w) (g := w.heap.size) (by simp <;> omega) 79 #[.int .i64 0, .bool false, .slice none 0 0, .int .i64 0]) rfl rfl)
  go_enter Tryz.func83, Tryz.ntmps83
  go_wp2_with fail
  refine (HI.out _).mono ?_
  rintro e w' ⟨rfl, rfl⟩
  go_wp2_with fail
  refine (HS.out _).mono ?_
  rintro e w1 ⟨rfl, hb1⟩
  have LB1 := Lib.hid (LB0.out.trans (hb1.mono LB0.out.size))
  have LR1 := Lib.hid (LR0.out.keep hb1)
  clear LB0 LR0
  clear hb1 HI HS
  go_wp2_with fail
  refine (HN.out _).mono ?_
  rintro e w2 ⟨A, n, c, rfl, hu, hb2⟩
  have LB2 := Lib.hid (LB1.out.trans (hb2.mono LB1.out.size))
  have LR2 := Lib.hid (LR1.out.keep hb2)
  clear LB1 LR1
  have FU := Lib.hid (LR2.out.u32s hu [.int .i64 0, .bool neg, .slice A n c, .int .i64 x])
  clear hu hb2 HN
  have ha0 := LR2.out.someCell 0 (by decide)
  have hf0 := LR2.out.frozen 0
  have ha1 := LR2.out.someCell 1 (by decide)
  have hf1 := LR2.out.frozen 1
  have ha2 := LR2.out.someCell 2 (by decide)
  have hf2 := LR2.out.frozen 2
  have ha3 := LR2.out.someCell 3 (by decide)
  have hf3 := LR2.out.frozen 3
  have hk0 := LR2.out.setCell [.int .i64 0, .bool neg, .slice A n c, .int .i64 x] rfl 0 (by decide)
  have hk1 := LR2.out.setCell [.int .i64 0, .bool neg, .slice A n c, .int .i64 x] rfl 1 (by decide)
  have hk2 := LR2.out.setCell [.int .i64 0, .bool neg, .slice A n c, .int .i64 x] rfl 2 (by decide)
  have hk3 := LR2.out.setCell [.int .i64 0, .bool neg, .slice A n c, .int .i64 x] rfl 3 (by decide)
  have F := Lib.hid (below_sets (w0 := w) (r := w.heap.size) (by omega) [.int .i64 0, .bool neg, .slice A n c, .int .i64 x] 0 _ LB2.out)
  simp [sets] at hk0 hk1 hk2 hk3
  go_wp2
  refine bodyPost_ret (v := .agg #[.int .i64 0, .bool neg, .slice A n c, .int .i64 x]) (by simp [results, Tryz.results83, go_sem, hk0, hk1, hk2, hk3]) rfl ?_
  exact ⟨A, n, c, rfl, FU.out, F.out⟩

theorem point_any (b : Nat) (hb : b < 18446744073709551616) (hf : fin b) : ∃ (neg : Bool) (S : Nat) (x : Int), S < 9007199254740992 ∧ -1074 ≤ x ∧ x ≤ 971 ∧ fl (idx b) = rv neg S 1 * 2^x ∧ ∀ w, Calls Tryz.prog 83 #[.float .f64 b] w (NewExP w neg S x) := by
  obtain ⟨S, x, h1, h2, h3, h4, h5⟩ := split_any b hb hf
  exact ⟨_, S, x, h1, h2, h3, h4, fun w => point_walk b S x _ w hb hf h1 h5⟩

set_option maxHeartbeats 3200000 in
theorem aligned_any (n1 : Bool) (A1 : Option Addr) (m1 c1 S1 : Nat) (e1 : Int) (n2 : Bool) (A2 : Option Addr) (m2 c2 S2 : Nat) (e2 E : Int) (k1 k2 : Nat) (w : World) (h1 : U32s w A1 m1 c1 (digs S1)) (h2 : U32s w A2 m2 c2 (digs S2)) (hE : min e1 e2 = E) (hk1 : e1 - E = (k1 : Int)) (hk2 : e2 - E = (k2 : Int))
    (he1 : -1000000 ≤ e1 ∧ e1 ≤ 1000000) (he2 : -1000000 ≤ e2 ∧ e2 ≤ 1000000) (hb1 : blen S1 + k1 ≤ 500000) (hb2 : blen S2 + k2 ≤ 500000) :
    Calls Tryz.prog 62 #[.agg #[.int .i64 0, .bool n1, .slice A1 m1 c1, .int .i64 e1], .agg #[.int .i64 0, .bool n2, .slice A2 m2 c2, .int .i64 e2]] w (NewAl w (S1 * 2^k1) (S2 * 2^k2) E) := by
  have hm := fun W ts t => run_min_int hE W ts t
  have T1 := Lib.hid fun W (hW : Below w.heap.size w W) => (by
    have h := nshl_any A1 m1 c1 k1 (digs S1) W (h1.below hW) (wlen_digs_le (K := 16384) (by omega)) (by rw [num_digs]; omega)
    rw [num_digs] at h; exact h : Calls Tryz.prog 131 #[.slice A1 m1 c1, .int .i64 (k1 : Int)] W (NewU32E W (digs (S1 * 2^k1))))
  have T2 := Lib.hid fun W (hW : Below w.heap.size w W) => (by
    have h := nshl_any A2 m2 c2 k2 (digs S2) W (h2.below hW) (wlen_digs_le (K := 16384) (by omega)) (by rw [num_digs]; omega)
    rw [num_digs] at h; exact h : Calls Tryz.prog 131 #[.slice A2 m2 c2, .int .i64 (k2 : Int)] W (NewU32E W (digs (S2 * 2^k2))))
  have hw1 : IntKind.i64.wrap (e1 - E) = (k1 : Int) := by rw [IntKind.wrap_i64]; omega
  have hw2 : IntKind.i64.wrap (e2 - E) = (k2 : Int) := by rw [IntKind.wrap_i64]; omega
  obtain ⟨X, hX⟩ : ∃ z, S1 * 2^k1 = z := ⟨_, rfl⟩
  obtain ⟨Y, hY⟩ : ∃ z, S2 * 2^k2 = z := ⟨_, rfl⟩
  rw [hX] at T1 ⊢
  rw [hY] at T2 ⊢
  clear h1 h2 hE hb1 hb2 hX hY hk1 hk2 he1 he2
  have LB0 := Lib.hid (show Below w.heap.size w ((w.alloc (.cells #[.int .i64 0, .bool n1, .slice A1 m1 c1, .int .i64 e1] 79)).alloc (.cells #[.int .i64 0, .bool n2, .slice A2 m2 c2, .int .i64 e2] 79)) from ((below_alloc w _).alloc (by simp <;> omega) _))
  have LG0_0 := Lib.hid (((Blk.at (W := w) (g := w.heap.size) (by simp <;> omega) 79 #[.int .i64 0, .bool n1, .slice A1 m1 c1, .int .i64 e1]).alloc (.cells #[.int .i64 0, .bool n2, .slice A2 m2 c2, .int .i64 e2] 79)))
  have LG1_0 := Lib.hid ((Blk.at (W := (w.alloc (.cells #[.int .i64 0, .bool n1, .slice A1 m1 c1, .int .i64 e1] 79))) (g := (w.heap.size + 1)) (by simp <;> omega) 79 #[.int .i64 0, .bool n2, .slice A2 m2 c2, .int .i64 e2]))
  go_enter Tryz.func62, Tryz.ntmps62
  go_wp2_with fail
  refine (T1.out _ LB0.out).mono ?_
  rintro e w1 ⟨B1, n3, d1, rfl, hu1, hb1⟩
  have LB1 := Lib.hid (LB0.out.trans (hb1.mono LB0.out.size))
  have LG0_1 := Lib.hid (LG0_0.out.keep hb1)
  have LG1_1 := Lib.hid (LG1_0.out.keep hb1)
  clear LB0 LG0_0 LG1_0
  have U1 := Lib.hid hu1
  clear hu1 hb1 T1
  have q1_0 : _ = some (.int .i64 0 : Value) := LG1_1.out.cell 0
  have q1_1 : _ = some (.bool n2 : Value) := LG1_1.out.cell 1
  have q1_2 : _ = some (.slice A2 m2 c2 : Value) := LG1_1.out.cell 2
  have q1_3 : _ = some (.int .i64 e2 : Value) := LG1_1.out.cell 3
  go_wp2_with fail
  refine (T2.out _ LB1.out).mono ?_
  rintro e w2 ⟨B2, n4, d2, rfl, hu2, hb2⟩
  have LB2 := Lib.hid (LB1.out.trans (hb2.mono LB1.out.size))
  have LG0_2 := Lib.hid (LG0_1.out.keep hb2)
  have LG1_2 := Lib.hid (LG1_1.out.keep hb2)
  clear LB1 LG0_1 LG1_1
  have U2 := Lib.hid (U1.out.below hb2)
  have V2 := Lib.hid hu2
  clear hu2 hb2 T2 U1 q1_0 q1_1 q1_2 q1_3
  go_wp2
  go_ret3
  exact ⟨_, _, _, _, _, _, rfl, U2.out, V2.out, LB2.out⟩

end Go.Proofs.YtmjkmoahkanblaaGreat
