/-
Walks: patterns as floats.
Walks: math.Inf, package ival.
Walks: package ival, intervals of floats.
Walks: package ival, negatives; package rel.
The model's sums and products of words, as the nearest index.
Rounding whole numbers of units to 53 binary digits: representable numbers, the nearest one, sums that lose nothing.
Plain: a sum of floats rounded in a direction: from the nearest float and its error; from the exact digits.
-/
import Derived.Test.YthlmlmfebpjgdaaGreatDoorM06
import Derived.Laws.Externs
import Derived.Test.YthlmlmfebpjgdaaGreatDoorM04
import Derived.Test.YthlmlmfebpjgdaaGreatDoorM03
import Derived.Deep.DeepCutAuto
import Derived.Test.YthlmlmfebpjgdaaGreatDoorM11
set_option linter.unusedSimpArgs false
set_option linter.unusedVariables false
set_option maxHeartbeats 12800000

namespace Go.Proofs.YthlmlmfebpjgdaaGreatDoor
open Go.RowKit
theorem run_frombits (b : Nat) (w : World) : (callFunc 74 #[.int .u64 (b : Int)]).run Tryz.prog w = .ok (.value (.float .f64 b)) w := by
  rw [run_callFunc_extern (e := Extern.MathFloatBits.float64frombits) Tryz.func74 (by kernel_rfl) (by kernel_rfl) (by kernel_rfl) (by kernel_rfl)]
  rfl
theorem run_bitsof (b : Nat) (w : World) : (callFunc 73 #[.float .f64 b]).run Tryz.prog w = .ok (.value (.int .u64 (b : Int))) w := by
  rw [run_callFunc_extern (e := Extern.MathFloatBits.float64bits) Tryz.func73 (by kernel_rfl) (by kernel_rfl) (by kernel_rfl) (by kernel_rfl)]
  rfl
end Go.Proofs.YthlmlmfebpjgdaaGreatDoor

namespace Go.Proofs.YthlmlmfebpjgdaaGreatDoor
open Go.RowKit
theorem inf_pos (w : World) : Calls Tryz.prog 19 #[.int .i64 1] w fun e w' => e = .returned (.float .f64 9218868437227405312) ∧ w = w' := by
  have hf : ∀ W : World, (callFunc 74 #[.int .u64 9218868437227405312]).run Tryz.prog W = .ok (.value (.float .f64 9218868437227405312)) W := fun W => run_frombits 9218868437227405312 W
  go_enter Tryz.func19, Tryz.ntmps19
  go_wp2
  go_ret
  exact ⟨rfl, rfl⟩
theorem inf_neg (w : World) : Calls Tryz.prog 19 #[.int .i64 (-1)] w fun e w' => e = .returned (.float .f64 18442240474082181120) ∧ w = w' := by
  have hf : ∀ W : World, (callFunc 74 #[.int .u64 18442240474082181120]).run Tryz.prog W = .ok (.value (.float .f64 18442240474082181120)) W := fun W => run_frombits 18442240474082181120 W
  go_enter Tryz.func19, Tryz.ntmps19
  go_wp2
  go_ret
  exact ⟨rfl, rfl⟩
theorem plainf (b : Nat) (w : World) (hb : b < 18446744073709551616) (hr : rungOf b ≤ M) : Calls Tryz.prog 171 #[.float .f64 b] w fun e w' => e = .returned (.float .f64 (pat (idx b))) ∧ w = w' := by
  have ho : FloatKind.f64.format.order b 0 = some (compare (idx b) (idx 0)) := order_real hr (by show rungOf 0 ≤ M; decide)
  rw [show idx 0 = 0 from by decide] at ho
  have hp := pl_real hb hr
  by_cases h : idx b = 0
  · have hq : (FloatKind.f64.format.order b 0 == some Ordering.eq) = true := by rw [ho, h]; rfl
    rw [h, pat_zero]
    clear ho hp h hr
    go_enter Tryz.func171, Tryz.ntmps171
    go_wp2
    go_ret
    exact ⟨rfl, rfl⟩
  · have hq : (FloatKind.f64.format.order b 0 == some Ordering.eq) = false := by
      rw [ho]
      rcases Int.lt_trichotomy (idx b) 0 with h1 | h1 | h1
      · rw [show compare (idx b) 0 = .lt from Int.compare_eq_lt.2 h1]; rfl
      · exact absurd h1 h
      · rw [show compare (idx b) 0 = .gt from Int.compare_eq_gt.2 h1]; rfl
    have e : pat (idx b) = b := by
      rw [← hp]; unfold pl
      have := pat_cases hb
      rw [if_neg (by omega), if_neg (by omega)]
    rw [e]
    clear ho hp h hr e
    go_enter Tryz.func171, Tryz.ntmps171
    go_wp2
    go_ret
    exact ⟨rfl, rfl⟩
theorem soundf (x y : Nat) (w : World) (hx : x < 18446744073709551616) (hy : y < 18446744073709551616) : Calls Tryz.prog 170 #[.float .f64 x, .float .f64 y] w fun e w' => e = .returned (.bool (snd x y)) ∧ w = w' := by
  have H1 := Lib.hid inf_pos
  have H2 := Lib.hid inf_neg
  have hM : M = 9218868437227405312 := rfl
  have n1 : idx 9218868437227405312 = M := by decide
  have n2 : idx 18442240474082181120 = -(M : Int) := by decide
  have r1 : real 9218868437227405312 := by show rungOf _ ≤ M; decide
  have r2 : real 18442240474082181120 := by show rungOf _ ≤ M; decide
  by_cases hx' : rungOf x ≤ M
  · by_cases hy' : rungOf y ≤ M
    · have ho : FloatKind.f64.format.order x y = some (compare (idx x) (idx y)) := order_real hx' hy'
      have h2 : FloatKind.f64.format.order x 9218868437227405312 = some (compare (idx x) (idx 9218868437227405312)) := order_real hx' r1
      have h3 : FloatKind.f64.format.order y 18442240474082181120 = some (compare (idx y) (idx 18442240474082181120)) := order_real hy' r2
      rw [n1] at h2
      rw [n2] at h3
      have bx := idx_bounds hx'
      have bY := idx_bounds hy'
      by_cases h : idx y < idx x
      · rw [show compare (idx x) (idx y) = .gt from Int.compare_eq_gt.2 h] at ho
        have hs : snd x y = false := decide_eq_false (by omega)
        rw [hs]
        clear h2 h3 n1 n2 r1 r2 bx bY h hs hx' hy' hM
        go_enter Tryz.func170, Tryz.ntmps170
        go_wp2
        go_ret
        exact ⟨rfl, rfl⟩
      · have hle : compare (idx x) (idx y) = .lt ∨ compare (idx x) (idx y) = .eq := by
          rcases Int.lt_trichotomy (idx x) (idx y) with h1 | h1 | h1
          · exact .inl (Int.compare_eq_lt.2 h1)
          · exact .inr (by rw [h1]; exact Int.compare_eq_eq.2 rfl)
          · exact absurd h1 h
        by_cases hm : idx x = M
        · rw [show compare (idx x) (M : Int) = .eq from by rw [hm]; exact Int.compare_eq_eq.2 rfl] at h2
          have hs : snd x y = false := decide_eq_false (by omega)
          rw [hs]
          clear h3 n1 n2 r1 r2 bx bY h hs hx' hy' hM hm
          rcases hle with e | e <;> rw [e] at ho <;> clear e
          all_goals
            go_enter Tryz.func170, Tryz.ntmps170
            go_wp2_with fail
            refine (H1.out _).mono ?_
            rintro e w1 ⟨rfl, rfl⟩
            go_wp2
            go_ret
            exact ⟨rfl, rfl⟩
        · rw [show compare (idx x) (M : Int) = .lt from Int.compare_eq_lt.2 (by omega)] at h2
          by_cases hn : idx y = -(M : Int)
          · rw [show compare (idx y) (-(M : Int)) = .eq from by rw [hn]; exact Int.compare_eq_eq.2 rfl] at h3
            have hs : snd x y = false := decide_eq_false (by omega)
            rw [hs]
            clear n1 n2 r1 r2 bx bY h hs hx' hy' hM hm hn
            rcases hle with e | e <;> rw [e] at ho <;> clear e
            all_goals
              go_enter Tryz.func170, Tryz.ntmps170
              go_wp2_with fail
              refine (H1.out _).mono ?_
              rintro e w1 ⟨rfl, rfl⟩
              go_wp2_with fail
              refine (H2.out _).mono ?_
              rintro e w1 ⟨rfl, rfl⟩
              go_wp2
              go_ret
              exact ⟨rfl, rfl⟩
          · rw [show compare (idx y) (-(M : Int)) = .gt from Int.compare_eq_gt.2 (by omega)] at h3
            have hs : snd x y = true := decide_eq_true (by omega)
            rw [hs]
            clear n1 n2 r1 r2 bx bY h hs hx' hy' hM hm hn
            rcases hle with e | e <;> rw [e] at ho <;> clear e
            all_goals
              go_enter Tryz.func170, Tryz.ntmps170
              go_wp2_with fail
              refine (H1.out _).mono ?_
              rintro e w1 ⟨rfl, rfl⟩
              go_wp2_with fail
              refine (H2.out _).mono ?_
              rintro e w1 ⟨rfl, rfl⟩
              go_wp2
              go_ret
              exact ⟨rfl, rfl⟩
    · have ho : FloatKind.f64.format.order x y = none := order_nan_right x (by omega)
      have hs : snd x y = false := decide_eq_false (by omega)
      rw [hs]
      clear n1 n2 r1 r2 hs hx' hy' hM
      go_enter Tryz.func170, Tryz.ntmps170
      go_wp2
      go_ret
      exact ⟨rfl, rfl⟩
  · have ho : FloatKind.f64.format.order x y = none := order_nan_left y (by omega)
    have hs : snd x y = false := decide_eq_false (by omega)
    rw [hs]
    clear n1 n2 r1 r2 hs hx' hM
    go_enter Tryz.func170, Tryz.ntmps170
    go_wp2
    go_ret
    exact ⟨rfl, rfl⟩
end Go.Proofs.YthlmlmfebpjgdaaGreatDoor

namespace Go.Proofs.YthlmlmfebpjgdaaGreatDoor
open Go.RowKit
theorem run_store_float (P : Program) (w : World) (a : Addr) (m : Mode) (k : FloatKind) (b : Nat) : (store a (.float k b) m).run P w = stored P w a (.float k b) m := run_store P w a _ m rfl
attribute [local go_sem] run_store_float
theorem emptyf (w : World) : Calls Tryz.prog 76 #[] w fun e w' => e = .returned (.agg #[.float .f64 9218868437227405312, .float .f64 18442240474082181120]) ∧ Below w.heap.size w w' := by
  have H1 := Lib.hid inf_pos
  have H2 := Lib.hid inf_neg
  obtain ⟨LB0, LR⟩ := bx1 w #[.float .f64 0, .float .f64 0] 28
  have LR0 := Lib.hid (HasBlk.of (n := 2) LR.out rfl rfl)
  clear LR
  have ba := LB0.out
  clear LB0 LR0 ba
  go_enter Tryz.func76, Tryz.ntmps76
  go_wp2_with fail
  refine (H1.out _).mono ?_
  rintro e w1 ⟨rfl, rfl⟩
  go_wp2_with fail
  refine (H2.out _).mono ?_
  rintro e w1 ⟨rfl, rfl⟩
  go_wp2
  refine bodyPost_ret (v := .agg #[.float .f64 9218868437227405312, .float .f64 18442240474082181120]) (by simp [results, Tryz.results76, go_sem]) rfl ?_
  exact have b := (below_alloc w _); ⟨rfl, b⟩
theorem readf (x y : Nat) (w : World) (hx : x < 18446744073709551616) (hy : y < 18446744073709551616) : Calls Tryz.prog 102 #[.agg #[.float .f64 x, .float .f64 y]] w fun e w' => e = .returned (.agg #[.float .f64 (pat (rd x y).1), .float .f64 (pat (rd x y).2)]) ∧ Below w.heap.size w w' := by
  have HS := Lib.hid fun W => soundf x y W hx hy
  obtain ⟨s, hs⟩ : ∃ s, snd x y = s := ⟨_, rfl⟩
  rw [hs] at HS
  unfold rd
  rw [hs]
  cases s
  · simp only [Bool.false_eq_true, if_false]
    rw [pat_max, pat_min]
    clear hs
    have HE := Lib.hid emptyf
    obtain ⟨LB0, LG0_0, LR⟩ := bx2 w #[.float .f64 x, .float .f64 y] 28 #[.float .f64 0, .float .f64 0] 28
    have LR0 := Lib.hid (HasBlk.of (n := 2) LR.out rfl rfl)
    clear LR
    go_enter Tryz.func102, Tryz.ntmps102
    go_wp2_with fail
    refine (HS.out _).mono ?_
    rintro e w1 ⟨rfl, rfl⟩
    go_wp2_with fail
    refine (HE.out _).mono ?_
    rintro e w2 ⟨rfl, hb2⟩
    have LB1 := stB LB0 hb2 LB0.out.size
    have LR1 := stR LR0 hb2
    have LG0_1 := stG LG0_0 hb2
    clear LB0 LR0 LG0_0
    clear hb2
    obtain ⟨ha0, hf0, ha1, hf1⟩ := LR1.out.sf2
    obtain ⟨hk0, hk1⟩ := LR1.out.sc2 (.float .f64 9218868437227405312) (.float .f64 18442240474082181120)
    have F := Lib.hid (below_sets (w0 := w) (r := (w.heap.size + 1)) (by omega) [.float .f64 9218868437227405312, .float .f64 18442240474082181120] 0 _ LB1.out)
    simp [sets] at hk0 hk1
    go_wp2
    refine bodyPost_ret (v := .agg #[.float .f64 9218868437227405312, .float .f64 18442240474082181120]) (by simp [results, Tryz.results102, go_sem, hk0, hk1]) rfl ?_
    exact ⟨rfl, F.out⟩
  · simp only [if_true]
    have hd := of_decide_eq_true hs
    have P1 := Lib.hid fun W => (plainf x W hx hd.1).mono (R' := fun e w' => e = .returned (.float .f64 (pat (idx x))) ∧ Below W.heap.size W w') (by rintro e w' ⟨h, rfl⟩; exact ⟨h, Below.refl _ _⟩)
    have P2 := Lib.hid fun W => (plainf y W hy hd.2.1).mono (R' := fun e w' => e = .returned (.float .f64 (pat (idx y))) ∧ Below W.heap.size W w') (by rintro e w' ⟨h, rfl⟩; exact ⟨h, Below.refl _ _⟩)
    obtain ⟨p, hp⟩ : ∃ p, pat (idx x) = p := ⟨_, rfl⟩
    obtain ⟨q, hq⟩ : ∃ p, pat (idx y) = p := ⟨_, rfl⟩
    rw [hp] at P1 ⊢
    rw [hq] at P2 ⊢
    clear hs hd hp hq
    obtain ⟨LB0, LG0_0, LR⟩ := bx2 w #[.float .f64 x, .float .f64 y] 28 #[.float .f64 0, .float .f64 0] 28
    have LR0 := Lib.hid (HasBlk.of (n := 2) LR.out rfl rfl)
    clear LR
    go_enter Tryz.func102, Tryz.ntmps102
    go_wp2_with fail
    refine (HS.out _).mono ?_
    rintro e w1 ⟨rfl, rfl⟩
    go_wp2_with fail
    refine wp_region_held_drew (S := fun W' => Blk W' w.heap.size 28 #[.float .f64 x, .float .f64 y] ∧ HasBlk W' (w.heap.size + 1) 28 2 ∧ Below w.heap.size w W') (by kernel_rfl) (by exact ⟨LG0_0.out.drew, LR0.out.drew, LB0.out.drew⟩) (fun hHeld => ?_)
    refine tk 0 ?_
    try simp only [Act.put, lay]
    refine tk 1 ?_ (hv := by intro W2 hSw; obtain ⟨q0, q1⟩ := hSw.1.c2; go_simp; (try with_reducible rfl))
    try simp only [Act.put, lay]
    refine tk 3 ?_
    try simp only [Act.put, lay]
    refine tk 4 ?_ (hv := by intro W2 hSw; obtain ⟨q0, q1⟩ := hSw.1.c2; go_simp; (try with_reducible rfl))
    try simp only [Act.put, lay]
    refine rdy 2 (fun KK hKK => ?_)
    go_simp
    refine (P1.out _).mono ?_
    rintro e w2 ⟨rfl, hb2⟩
    go_wp2_with fail
    refine hKK.out _ _ (⟨hHeld.1.keep hb2, hHeld.2.1.keep hb2, hHeld.2.2.trans (hb2.mono hHeld.2.2.size)⟩) (fun _ => ?_)
    clear hKK KK hHeld; rename_i hHeld
    try simp only [Act.put, lay]
    refine rdy 5 (fun KK hKK => ?_)
    go_simp
    refine (P2.out _).mono ?_
    rintro e w3 ⟨rfl, hb3⟩
    go_wp2_with fail
    refine hKK.out _ _ (⟨hHeld.1.keep hb3, hHeld.2.1.keep hb3, hHeld.2.2.trans (hb3.mono hHeld.2.2.size)⟩) (fun _ => ?_)
    clear hKK KK hHeld; rename_i hHeld
    try simp only [Act.put, lay]
    refine tk 6 ?_
    try simp only [Act.put, lay]
    refine rdy 7 (fun KK hKK => ?_)
    have ha0 := hHeld.2.1.someCell 0 (by decide); have hf0 := hHeld.2.1.frozen 0; have ha1 := hHeld.2.1.someCell 1 (by decide); have hf1 := hHeld.2.1.frozen 1; have HK := Lib.hid (hHeld.2.1.setCell [.float .f64 p, .float .f64 q] rfl); have F := Lib.hid (below_sets (w0 := w) (r := (w.heap.size + 1)) (by omega) [.float .f64 p, .float .f64 q] 0 _ hHeld.2.2)
    go_simp
    refine hKK.out _ _ (⟨hHeld.1.other (by omega) 0 [.float .f64 p, .float .f64 q], hHeld.2.1.sets [.float .f64 p, .float .f64 q] rfl rfl, below_sets (by omega) [.float .f64 p, .float .f64 q] 0 _ hHeld.2.2⟩) (fun _ => ?_)
    clear hKK KK hHeld; rename_i hHeld
    try simp only [Act.put, lay]
    refine wpAnyH_done (by kernel_rfl) ?_ _
    have hk0 := HK.out 0 (by decide)
    have hk1 := HK.out 1 (by decide)
    simp [sets] at hk0 hk1
    clear hHeld HK hb2 hb3
    clear LB0 LR0 LG0_0
    go_wp2
    refine bodyPost_ret (v := .agg #[.float .f64 p, .float .f64 q]) (by simp [results, Tryz.results102, go_sem, hk0, hk1]) rfl ?_
    exact ⟨rfl, F.out⟩
end Go.Proofs.YthlmlmfebpjgdaaGreatDoor

namespace Go.Proofs.YthlmlmfebpjgdaaGreatDoor
open Go.RowKit
attribute [local go_sem] run_store_float
theorem order_pat {i j : Int} (h1 : -(M : Int) ≤ i) (h2 : i ≤ M) (h3 : -(M : Int) ≤ j) (h4 : j ≤ M) : FloatKind.f64.format.order (pat i) (pat j) = some (compare i j) := by
  have h := order_real (x := pat i) (y := pat j) (by show rungOf _ ≤ M; rw [rung_pat h1 h2]; omega) (by show rungOf _ ≤ M; rw [rung_pat h3 h4]; omega)
  rw [idx_pat h1 h2, idx_pat h3 h4] at h
  exact h
theorem run_negf (P : Program) (b : Nat) (w : World) : (Op.unary .neg (.float .f64 b)).run P w = .ok (.float .f64 (Op.negFloat .f64 b)) w := rfl
attribute [local go_sem] run_negf
theorem negFloat_val {b : Nat} (hb : b < 18446744073709551616) : Op.negFloat .f64 b < 18446744073709551616 ∧ rungOf (Op.negFloat .f64 b) = rungOf b ∧ idx (Op.negFloat .f64 b) = -idx b := by
  have e : Op.negFloat .f64 b = b ^^^ 2^63 := rfl
  have h := pat_cases hb
  have hx : b ^^^ 2^63 = if b < 9223372036854775808 then b + 9223372036854775808 else b - 9223372036854775808 := by
    apply Nat.eq_of_testBit_eq
    intro k
    rw [Nat.testBit_xor, Nat.testBit_two_pow]
    split
    · rename_i hlt
      have hj := nat_join 63 (2^63) b (by decide) (by exact hlt)
      rw [show b + 9223372036854775808 = 2^63 + b from by omega, ← hj, Nat.testBit_or, Nat.testBit_two_pow]
      by_cases hk : 63 = k
      · subst hk
        have : b.testBit 63 = false := Nat.testBit_lt_two_pow (by exact hlt)
        simp [this]
      · simp [hk]
    · rename_i hge
      have hsub : b - 9223372036854775808 < 2^63 := by omega
      have hj := nat_join 63 (2^63) (b - 9223372036854775808) (by decide) hsub
      have hb2 : b = 2^63 ||| (b - 9223372036854775808) := by rw [hj]; omega
      have hbit : b.testBit k = (decide (63 = k) || (b - 9223372036854775808).testBit k) := by
        conv => lhs; rw [hb2]
        rw [Nat.testBit_or, Nat.testBit_two_pow]
      rw [hbit]
      by_cases hk : 63 = k
      · subst hk
        have : (b - 9223372036854775808).testBit 63 = false := Nat.testBit_lt_two_pow hsub
        simp [this]
      · simp [hk]
  rw [e, hx]
  split
  · have h2 := pat_cases (b := b + 9223372036854775808) (by omega)
    exact ⟨by omega, by omega, by omega⟩
  · have h2 := pat_cases (b := b - 9223372036854775808) (by omega)
    exact ⟨by omega, by omega, by omega⟩
end Go.Proofs.YthlmlmfebpjgdaaGreatDoor

namespace Go.Proofs.YthlmlmfebpjgdaaGreatDoor
open Ieee
def near (n : Int) (d : Nat) : Int := if n < 0 then -((min (nearRung n.natAbs d) M : Nat) : Int) else (min (nearRung n.natAbs d) M : Nat)
theorem near_natAbs (n : Int) (d : Nat) : (near n d).natAbs = min (nearRung n.natAbs d) M := by unfold near; split <;> omega
theorem near_neg (n : Int) (d : Nat) : near (-n) d = -near n d := by
  unfold near
  rw [Int.natAbs_neg]
  rcases Int.lt_trichotomy n 0 with h | h | h
  · rw [if_neg (by omega), if_pos h]; omega
  · subst h
    have : nearRung 0 d = 0 := Nat.le_zero.1 (nearRung_le (Nat.zero_le _))
    simp [this]
  · rw [if_pos (by omega), if_neg (by omega)]
theorem near_range (n : Int) (d : Nat) : -(M : Int) ≤ near n d ∧ near n d ≤ M := by
  have := near_natAbs n d; omega
theorem val_scale_nat (r d : Nat) : val (r : Int) * 2^d = ((mag r * 2^d : Nat) : Int) := by rw [val_nat]; simp
theorem le_near {i : Int} {n : Int} {d : Nat} (hi : i ≤ M) (h : val i * 2^d ≤ n) : i ≤ near n d := by
  have hp : (0 : Int) < 2^d := by exact_mod_cast Nat.two_pow_pos d
  rcases Int.lt_or_le i 0 with h0 | h0
  · -- below 0
    unfold near
    split
    · obtain ⟨r, rfl⟩ : ∃ r : Nat, i = -(r : Int) := ⟨i.natAbs, by omega⟩
      rw [val_neg, Int.neg_mul, val_scale_nat] at h
      have : nearRung n.natAbs d ≤ r := nearRung_le (by omega)
      omega
    · omega
  · obtain ⟨r, rfl⟩ : ∃ r : Nat, i = (r : Int) := ⟨i.natAbs, by omega⟩
    rw [val_scale_nat] at h
    have h2 : (0 : Int) ≤ n := by omega
    unfold near
    rw [if_neg (by omega)]
    have : r ≤ nearRung n.natAbs d := le_nearRung (by omega)
    omega
theorem near_le {i : Int} {n : Int} {d : Nat} (hi : -(M : Int) ≤ i) (h : n ≤ val i * 2^d) : near n d ≤ i := by
  have := @le_near (-i) (-n) d (by omega) (by rw [val_neg, Int.neg_mul]; omega)
  rw [near_neg] at this
  omega
theorem near_val {i : Int} (h1 : -(M : Int) ≤ i) (h2 : i ≤ M) (d : Nat) : near (val i * 2^d) d = i :=
  Int.le_antisymm (near_le h1 (Int.le_refl _)) (le_near h2 (Int.le_refl _))
theorem word_false (r : Nat) : double.word false r = r := rfl
theorem word_true (r : Nat) : double.word true r = 2^63 + r := by unfold Format.word; rw [signWeight_eq]; rfl
theorem word_lt64 (s : Bool) {r : Nat} (h : r < 2^63) : double.word s r < 2^64 := by
  cases s
  · rw [word_false]; omega
  · rw [word_true]; omega
theorem rungOf_word (s : Bool) {r : Nat} (h : r < 2^63) : rungOf (double.word s r) = r := by
  unfold rungOf
  cases s
  · rw [word_false]; omega
  · rw [word_true]; omega
theorem sgn_word (s : Bool) {r : Nat} (h : r < 2^63) : sgn (double.word s r) = s := by
  unfold sgn
  cases s
  · rw [word_false, show r / 2^63 = 0 from by omega]; rfl
  · rw [word_true, show (2^63 + r) / 2^63 = 1 from by omega]; rfl
theorem idx_word (s : Bool) {r : Nat} (h : r < 2^63) : idx (double.word s r) = if s then -(r : Int) else r := by
  unfold idx; rw [sgn_word s h, rungOf_word s h]
theorem M_lt : M < 2^63 := by decide
structure Is (b : Nat) (i : Int) : Prop where
  lt : b < 2^64
  real : real b
  idx : idx b = i
theorem Is.word (s : Bool) {r : Nat} (h : r ≤ M) : Is (double.word s r) (if s then -(r : Int) else r) := by
  have := M_lt
  have h' : r < 2^63 := by omega
  exact ⟨word_lt64 s h', by unfold Proofs.YthlmlmfebpjgdaaGreatDoor.real; rw [rungOf_word s h']; exact h, idx_word s h'⟩
theorem Is.near {s : Bool} {n : Int} {d : Nat} (h : n ≠ 0 → s = decide (n < 0)) : Is (double.word s (min (nearRung n.natAbs d) M)) (near n d) := by
  have h1 := Is.word s (r := min (nearRung n.natAbs d) M) (Nat.min_le_right _ _)
  have e : (if s = true then -((min (nearRung n.natAbs d) M : Nat) : Int) else ((min (nearRung n.natAbs d) M : Nat) : Int)) = Proofs.YthlmlmfebpjgdaaGreatDoor.near n d := by
    unfold Proofs.YthlmlmfebpjgdaaGreatDoor.near
    by_cases h0 : n = 0
    · subst h0
      have : nearRung (0 : Int).natAbs d = 0 := Nat.le_zero.1 (nearRung_le (Nat.zero_le _))
      rw [this]; cases s <;> simp
    · rw [h h0]
      by_cases h2 : n < 0
      · rw [if_pos h2, if_pos (by simpa using h2)]
      · rw [if_neg h2, if_neg (by simpa using h2)]
  rw [e] at h1; exact h1
theorem write_num (s : Bool) (m : Nat) (p : Int) : double.write (.number s m p) = double.nearest s m p := rfl
theorem sum_fin {x y : Nat} {sy : Bool} {m n k l : Nat} (hm : m * 2^k = mag (rungOf x)) (hn : n * 2^l = mag (rungOf y)) :
    ∃ z : Bool, ((Datum.number (sgn x) m (-1074 + (k : Int))).sum (.number sy n (-1074 + (l : Int)))).map double.write
      = some (double.word (if val (idx x) + signed sy (mag (rungOf y)) 0 = 0 then z else decide (val (idx x) + signed sy (mag (rungOf y)) 0 < 0)) (min (nearRung (val (idx x) + signed sy (mag (rungOf y)) 0).natAbs 0) M)) := by
  refine ⟨sgn x && sy, ?_⟩
  have key : ∀ b : Nat, b ≤ k → b ≤ l → double.nearest (if signed (sgn x) m (k - b) + signed sy n (l - b) = 0 then sgn x && sy else decide (signed (sgn x) m (k - b) + signed sy n (l - b) < 0)) (signed (sgn x) m (k - b) + signed sy n (l - b)).natAbs (-1074 + (b : Int)) = double.word (if val (idx x) + signed sy (mag (rungOf y)) 0 = 0 then sgn x && sy else decide (val (idx x) + signed sy (mag (rungOf y)) 0 < 0)) (min (nearRung (val (idx x) + signed sy (mag (rungOf y)) 0).natAbs 0) M) := by
    intro b hk hl
    rw [nearest_high]
    have hp : (0 : Int) < 2^b := by exact_mod_cast Nat.two_pow_pos b
    have e1 : signed (sgn x) m (k - b) * 2^b = val (idx x) := by rw [← signed_split, Nat.sub_add_cancel hk, read_val hm]
    have e2 : signed sy n (l - b) * 2^b = signed sy (mag (rungOf y)) 0 := by
      rw [← signed_split, Nat.sub_add_cancel hl, signed_eq, signed_eq, hn, Nat.pow_zero, Nat.mul_one]
    have e3 : val (idx x) + signed sy (mag (rungOf y)) 0 = (signed (sgn x) m (k - b) + signed sy n (l - b)) * 2^b := by rw [← e1, ← e2, Int.add_mul]
    rw [e3]
    generalize signed (sgn x) m (k - b) + signed sy n (l - b) = t
    have e4 : (t * 2^b).natAbs = t.natAbs * 2^b := by rw [Int.natAbs_mul, Int.natAbs_pow]; rfl
    have e5 : (t * 2^b = 0) ↔ t = 0 := by
      constructor
      · intro h
        rcases Int.mul_eq_zero.1 h with h | h
        · exact h
        · omega
      · rintro rfl; simp
    have e6 : (t * 2^b < 0) ↔ t < 0 := by
      constructor
      · intro h
        rcases Int.lt_or_le t 0 with h2 | h2
        · exact h2
        · have := Int.mul_nonneg h2 (Int.le_of_lt hp); omega
      · intro h; exact Int.mul_neg_of_neg_of_pos h hp
    rw [e4]
    congr 1
    by_cases h0 : t = 0
    · rw [if_pos h0, if_pos (e5.2 h0)]
    · rw [if_neg h0, if_neg (fun h => h0 (e5.1 h))]
      exact decide_eq_decide.2 e6.symm
  simp only [Datum.sum, Option.map_some, write_num]
  congr 1
  rcases Nat.le_total k l with h | h
  · have := key k (Nat.le_refl _) h
    rw [show min (-1074 + (k : Int)) (-1074 + (l : Int)) = -1074 + (k : Int) from by omega, show (-1074 + (k : Int) - (-1074 + (k : Int))).toNat = k - k from by omega, show (-1074 + (l : Int) - (-1074 + (k : Int))).toNat = l - k from by omega]
    rw [← this]
  · have := key l h (Nat.le_refl _)
    rw [show min (-1074 + (k : Int)) (-1074 + (l : Int)) = -1074 + (l : Int) from by omega, show (-1074 + (l : Int) - (-1074 + (l : Int))).toNat = l - l from by omega, show (-1074 + (k : Int) - (-1074 + (l : Int))).toNat = k - l from by omega]
    rw [← this]
theorem add_fin {x y : Nat} (hx : fin x) (hy : fin y) : ∃ r, double.add x y = some r ∧ Is r (near (val (idx x) + val (idx y)) 0) := by
  obtain ⟨m, k, e, hm, _⟩ := read_fin hx
  obtain ⟨n, l, e', hn, _⟩ := read_fin hy
  obtain ⟨z, h⟩ := sum_fin (sy := sgn y) hm hn
  rw [show signed (sgn y) (mag (rungOf y)) 0 = val (idx y) from by rw [signed_eq, val_idx, Nat.pow_zero, Nat.mul_one]] at h
  unfold Format.add
  rw [e, e']
  refine ⟨_, h, Is.near ?_⟩
  intro h0; rw [if_neg h0]
theorem sub_fin {x y : Nat} (hx : fin x) (hy : fin y) : ∃ r, double.sub x y = some r ∧ Is r (near (val (idx x) - val (idx y)) 0) := by
  obtain ⟨m, k, e, hm, _⟩ := read_fin hx
  obtain ⟨n, l, e', hn, _⟩ := read_fin hy
  obtain ⟨z, h⟩ := sum_fin (sy := !sgn y) hm hn
  have e2 : signed (!sgn y) (mag (rungOf y)) 0 = -val (idx y) := by
    rw [signed_eq, val_idx, Nat.pow_zero, Nat.mul_one]
    cases sgn y <;> simp
  rw [e2, ← Int.sub_eq_add_neg] at h
  unfold Format.sub
  rw [e, e']
  refine ⟨_, h, Is.near ?_⟩
  intro h0; rw [if_neg h0]
theorem mul_fin {x y : Nat} (hx : fin x) (hy : fin y) : ∃ r, double.mul x y = some r ∧ Is r (near (val (idx x) * val (idx y)) 1074) := by
  obtain ⟨m, k, e, hm, _⟩ := read_fin hx
  obtain ⟨n, l, e', hn, _⟩ := read_fin hy
  unfold Format.mul
  rw [e, e']
  simp only [Datum.product, Option.map_some, write_num]
  refine ⟨_, rfl, ?_⟩
  rw [show (-1074 + (k : Int) + (-1074 + (l : Int))) = -1074 - ((1074 : Nat) : Int) + ((k + l : Nat) : Int) from by omega, nearest_shift, nearest_low]
  have e1 : (val (idx x) * val (idx y)).natAbs = m * n * 2^(k + l) := by
    rw [Int.natAbs_mul, val_natAbs, val_natAbs, idx_natAbs, idx_natAbs, ← hm, ← hn, Nat.pow_add]
    rw [Nat.mul_assoc, Nat.mul_assoc, Nat.mul_left_comm (2^k)]
  rw [← e1]
  refine Is.near ?_
  intro h0
  rw [val_idx, val_idx] at h0 ⊢
  generalize mag (rungOf x) = a at h0 ⊢
  generalize mag (rungOf y) = b at h0 ⊢
  have hab : (0 : Int) ≤ (a : Int) * (b : Int) := Int.mul_nonneg (by omega) (by omega)
  cases sgn x <;> cases sgn y <;> simp [Int.neg_mul, Int.mul_neg] at h0 ⊢
  · exact hab
  · have : (0 : Int) < (a : Int) * (b : Int) := Int.mul_pos (by omega) (by omega)
    omega
  · have : (0 : Int) < (a : Int) * (b : Int) := Int.mul_pos (by omega) (by omega)
    omega
  · exact hab
end Go.Proofs.YthlmlmfebpjgdaaGreatDoor

namespace Go.Proofs.YthlmlmfebpjgdaaGreatDoor
open Ieee
def Rep (n : Int) : Prop := ∃ i : Int, val i = n
theorem Rep.val (i : Int) : Rep (val i) := ⟨i, rfl⟩
theorem Rep.zero : Rep 0 := ⟨0, rfl⟩
theorem Rep.neg {n : Int} (h : Rep n) : Rep (-n) := by obtain ⟨i, rfl⟩ := h; exact ⟨-i, val_neg i⟩
theorem mag_of_le (q k : Nat) (hq : q ≤ 2^53) : ∃ r, mag r = q * 2^k := by
  -- lower the power until the significand is full, or the power is spent
  induction k generalizing q with
  | zero =>
    exact ⟨0 * 2^52 + q, mag_form 0 q (.inl rfl) hq⟩
  | succ k ih =>
    rcases Nat.lt_or_ge q (2^52) with h | h
    · obtain ⟨r, hr⟩ := ih (q * 2) (by omega)
      exact ⟨r, by rw [hr, Nat.pow_succ, Nat.mul_assoc, Nat.mul_comm 2]⟩
    · exact ⟨(k + 1) * 2^52 + q, mag_form (k + 1) q (.inr h) hq⟩
theorem rep_iff {n : Int} : Rep n ↔ ∃ q k : Nat, q < 2^53 ∧ n.natAbs = q * 2^k := by
  constructor
  · rintro ⟨i, rfl⟩
    obtain ⟨k, q, e, h, hq⟩ := rung_form i.natAbs
    exact ⟨q, k, hq, by rw [val_natAbs, e, mag_form k q h (by omega)]⟩
  · rintro ⟨q, k, hq, h⟩
    obtain ⟨r, hr⟩ := mag_of_le q k (by omega)
    rcases Int.lt_or_le n 0 with h0 | h0
    · exact ⟨-(r : Int), by rw [val_neg, val_nat]; omega⟩
    · exact ⟨(r : Int), by rw [val_nat]; omega⟩
theorem rep_of_dvd {n : Int} (k : Nat) (hd : (2:Int)^k ∣ n) (hn : n.natAbs ≤ 2^53 * 2^k) : Rep n := by
  obtain ⟨m, rfl⟩ := hd
  have hp := Nat.two_pow_pos k
  have e : ((2:Int)^k * m).natAbs = m.natAbs * 2^k := by rw [Int.natAbs_mul, Int.natAbs_pow, Nat.mul_comm]; rfl
  rw [e] at hn
  have hm : m.natAbs ≤ 2^53 := Nat.le_of_mul_le_mul_right hn hp
  obtain ⟨r, hr⟩ := mag_of_le m.natAbs k hm
  rw [← e] at hr
  rcases Int.lt_or_le ((2:Int)^k * m) 0 with h0 | h0
  · exact ⟨-(r : Int), by rw [val_neg, val_nat]; omega⟩
  · exact ⟨(r : Int), by rw [val_nat]; omega⟩
theorem dvd_of_natAbs {n : Int} {k q : Nat} (h : n.natAbs = q * 2^k) : (2:Int)^k ∣ n := by
  have : ((2^k : Nat) : Int) ∣ n := Int.ofNat_dvd_left.2 ⟨q, by rw [h, Nat.mul_comm]⟩
  simpa using this
theorem pow_dvd_le {k l : Nat} (h : k ≤ l) : (2:Int)^k ∣ 2^l := ⟨2^(l - k), by rw [← Int.pow_add]; congr 1; omega⟩
def R (n : Int) : Int := if n < 0 then -(mag (nearRung n.natAbs 0) : Int) else mag (nearRung n.natAbs 0)
theorem nearRung_zero (d : Nat) : nearRung 0 d = 0 := Nat.le_zero.1 (nearRung_le (Nat.zero_le _))
theorem R_neg (n : Int) : R (-n) = -R n := by
  unfold R
  rw [Int.natAbs_neg]
  rcases Int.lt_trichotomy n 0 with h | h | h
  · rw [if_neg (by omega), if_pos h]; omega
  · subst h; simp [nearRung_zero, mag_zero]
  · rw [if_pos (by omega), if_neg (by omega)]
theorem R_rep (n : Int) : Rep (R n) := by
  unfold R
  split
  · exact ⟨-(nearRung n.natAbs 0 : Int), by rw [val_neg, val_nat]⟩
  · exact ⟨(nearRung n.natAbs 0 : Int), by rw [val_nat]⟩
theorem le_R {r n : Int} (hr : Rep r) (h : r ≤ n) : r ≤ R n := by
  obtain ⟨i, rfl⟩ := hr
  unfold R
  rcases Int.lt_or_le n 0 with h0 | h0
  · rw [if_pos h0]
    have hi : i < 0 := val_neg_iff.1 (by omega)
    obtain ⟨r, rfl⟩ : ∃ r : Nat, i = -(r : Int) := ⟨i.natAbs, by omega⟩
    rw [val_neg, val_nat] at h ⊢
    have : nearRung n.natAbs 0 ≤ r := nearRung_le (by simp; omega)
    have := mag_le_iff.2 this
    omega
  · rw [if_neg (by omega)]
    rcases Int.lt_or_le i 0 with hi | hi
    · have := val_neg_iff.2 hi; omega
    · obtain ⟨r, rfl⟩ : ∃ r : Nat, i = (r : Int) := ⟨i.natAbs, by omega⟩
      rw [val_nat] at h ⊢
      have : r ≤ nearRung n.natAbs 0 := le_nearRung (by simp; omega)
      have := mag_le_iff.2 this
      omega
theorem R_le {r n : Int} (hr : Rep r) (h : n ≤ r) : R n ≤ r := by
  have := @le_R (-r) (-n) hr.neg (by omega)
  rw [R_neg] at this; omega
theorem R_of_rep {n : Int} (h : Rep n) : R n = n := Int.le_antisymm (R_le h (Int.le_refl _)) (le_R h (Int.le_refl _))
theorem bump_cases (n : Nat) : (nearRung n 0 = floorRung n ∧ n - mag (floorRung n) ≤ mag (floorRung n + 1) - n) ∨
    (nearRung n 0 = floorRung n + 1 ∧ mag (floorRung n + 1) - n ≤ n - mag (floorRung n)) := by
  have hk := over_spec n
  have hc : mag (floorRung n + 1) = (n / 2^over n + 1) * 2^over n := by
    unfold floorRung; rw [Nat.add_assoc, mag_form _ _ (by omega) (by omega)]
  have hf := mag_floorRung n
  have hdm := Nat.div_add_mod n (2^over n)
  rw [Nat.mul_comm, ← hf] at hdm
  rw [Nat.add_mul, ← hf, Nat.one_mul] at hc
  have hb : nearRung n 0 = floorRung n + (bump n (over n)).toNat := by
    unfold nearRung
    rw [Nat.pow_zero, Nat.div_one, Nat.zero_add]
  rw [hb, hc]
  unfold bump
  clear hk hf hc hb
  generalize mag (floorRung n) = f at *
  generalize n % 2^over n = r at *
  generalize 2^over n = p at *
  generalize floorRung n = g
  by_cases h1 : p < 2 * r
  · right
    rw [decide_eq_true h1]
    exact ⟨rfl, by omega⟩
  · rw [decide_eq_false h1, Bool.false_or]
    cases h2 : (p == 2 * r && n / p % 2 == 1)
    · left; exact ⟨rfl, by omega⟩
    · right
      simp at h2
      exact ⟨rfl, by omega⟩
theorem R_nearest_nat (n i : Nat) : ((n : Int) - mag (nearRung n 0)).natAbs ≤ ((n : Int) - mag i).natAbs := by
  have f1 := mag_floorRung_le n
  have f2 := lt_mag_floorRung_succ n
  have h3 : mag i ≤ mag (floorRung n) ∨ mag (floorRung n + 1) ≤ mag i := by
    rw [mag_le_iff, mag_le_iff]; omega
  rcases bump_cases n with ⟨e, h⟩ | ⟨e, h⟩ <;> rw [e] <;> omega
theorem R_nearest {n r : Int} (hr : Rep r) : (n - R n).natAbs ≤ (n - r).natAbs := by
  obtain ⟨i, rfl⟩ := hr
  have h := R_nearest_nat n.natAbs i.natAbs
  rw [← val_natAbs i] at h
  unfold R
  split <;> omega
theorem bump_shift (n k a : Nat) : bump (n * 2^k) (k + a) = bump n a := by
  have hp := Nat.two_pow_pos k
  have e1 : n * 2^k / 2^(k + a) = n / 2^a := by rw [Nat.pow_add, Nat.mul_comm n, Nat.mul_div_mul_left _ _ hp]
  have e2 : n * 2^k % 2^(k + a) = 2^k * (n % 2^a) := by rw [Nat.pow_add, Nat.mul_comm n, Nat.mul_mod_mul_left]
  unfold bump
  rw [e1, e2, Nat.pow_add]
  generalize 2^a = x
  generalize n % x = y
  generalize 2^k = p at hp
  have c1 : decide (p * x < 2 * (p * y)) = decide (x < 2 * y) := by
    rw [show 2 * (p * y) = p * (2 * y) from by rw [Nat.mul_left_comm]]
    simp [Nat.mul_lt_mul_left hp]
  have c2 : (p * x == 2 * (p * y)) = (x == 2 * y) := by
    rw [show 2 * (p * y) = p * (2 * y) from by rw [Nat.mul_left_comm]]
    rw [Bool.eq_iff_iff]; simp [Nat.mul_right_inj (by omega : p ≠ 0)]
  rw [c1, c2]
theorem log2_mul_pow {n : Nat} (h0 : n ≠ 0) (k : Nat) : (n * 2^k).log2 = n.log2 + k := by
  rw [Nat.log2_eq_iff (Nat.mul_ne_zero h0 (by have := Nat.two_pow_pos k; omega))]
  have h1 := Nat.log2_self_le h0
  have h2 : n < 2^(n.log2 + 1) := Nat.lt_log2_self
  constructor
  · rw [Nat.pow_add]; exact Nat.mul_le_mul_right _ h1
  · rw [show n.log2 + k + 1 = n.log2 + 1 + k from by omega, Nat.pow_add 2 (n.log2 + 1)]; exact Nat.mul_lt_mul_of_pos_right h2 (Nat.two_pow_pos k)
theorem mag_nearRung (n : Nat) : mag (nearRung n 0) = (n / 2^over n + (bump n (over n)).toNat) * 2^over n := by
  have hk := over_spec n
  unfold nearRung floorRung
  rw [Nat.pow_zero, Nat.div_one, Nat.zero_add, Nat.add_assoc, mag_form]
  · omega
  · cases bump n (over n) <;> simp <;> omega
theorem mag_nearRung_shift (n k : Nat) : mag (nearRung (n * 2^k) 0) = mag (nearRung n 0) * 2^k := by
  by_cases h : n < 2^53
  · obtain ⟨r, hr⟩ := mag_of_le n k (by omega)
    obtain ⟨s, hs⟩ := mag_of_le n 0 (by omega)
    rw [Nat.pow_zero, Nat.mul_one] at hs
    have e1 := nearRung_mag r 0
    have e2 := nearRung_mag s 0
    rw [Nat.pow_zero, Nat.mul_one] at e1 e2
    rw [← hr, e1, hr, ← hs, e2]
  · have h0 : n ≠ 0 := by omega
    have hl : 53 ≤ n.log2 := (Nat.le_log2 h0).2 (by omega)
    have ho : over (n * 2^k) = k + over n := by unfold over; rw [log2_mul_pow h0]; omega
    rw [mag_nearRung, mag_nearRung, ho, bump_shift]
    have hp := Nat.two_pow_pos k
    rw [show n * 2^k / 2^(k + over n) = n / 2^over n from by rw [Nat.pow_add, Nat.mul_comm n, Nat.mul_div_mul_left _ _ hp]]
    rw [Nat.add_comm k, Nat.pow_add, Nat.mul_assoc]
theorem R_shift (n : Int) (k : Nat) : R (n * 2^k) = R n * 2^k := by
  have hp : (0 : Int) < 2^k := by exact_mod_cast Nat.two_pow_pos k
  have e : (n * 2^k).natAbs = n.natAbs * 2^k := by rw [Int.natAbs_mul, Int.natAbs_pow]; rfl
  unfold R
  rw [e, mag_nearRung_shift]
  rcases Int.lt_or_le n 0 with h | h
  · rw [if_pos h, if_pos (Int.mul_neg_of_neg_of_pos h hp), Int.natCast_mul, Int.neg_mul]; simp
  · rw [if_neg (Int.not_lt.2 h), if_neg (by have := Int.mul_nonneg h (Int.le_of_lt hp); omega), Int.natCast_mul]; simp
end Go.Proofs.YthlmlmfebpjgdaaGreatDoor

namespace Go.Proofs.YthlmlmfebpjgdaaGreatDoor
open Go.RowKit
theorem mul_le_pos {a b c : Rat} (h : 0 < c) : a * c ≤ b * c ↔ a ≤ b := by
  constructor
  · intro h1; exact Rat.le_of_mul_le_mul_right h1 h
  · intro h1; exact Rat.mul_le_mul_of_nonneg_right h1 (by grind)
theorem fl_le_units {j n : Int} : fl j ≤ (n : Rat) * 2^(-1074 : Int) ↔ val j ≤ n := by
  unfold fl
  rw [mul_le_pos (zpow_pos _), Rat.intCast_le_intCast]
theorem units_le_fl {j n : Int} : (n : Rat) * 2^(-1074 : Int) ≤ fl j ↔ n ≤ val j := by
  unfold fl
  rw [mul_le_pos (zpow_pos _), Rat.intCast_le_intCast]
theorem near_down {n k : Int} (hk : val k = R n) (h1 : -(M : Int) < k) (h2 : k < M) : rndI (-1) ((n : Rat) * 2^(-1074 : Int)) = if n < R n then k - 1 else k := by
  refine (Rnd.eq (.inl ⟨rfl, by split <;> omega, by split <;> omega, fun j hj hj' => ?_⟩)).symm
  rw [fl_le_units]
  by_cases hc : n < R n
  · rw [if_pos hc]
    constructor
    · intro h
      by_cases h3 : val j ≤ n
      · exact h3
      · have h4 : R n ≤ val j := R_le (Rep.val j) (by omega)
        rw [← hk, val_le_iff] at h4; omega
    · intro h
      have h4 : val j < val k := by omega
      rw [val_lt_iff] at h4; omega
  · rw [if_neg hc]
    constructor
    · intro h
      have := val_le_iff.2 h; omega
    · intro h
      have h4 : val j ≤ R n := le_R (Rep.val j) h
      rw [← hk, val_le_iff] at h4; omega
theorem near_up {n k : Int} (hk : val k = R n) (h1 : -(M : Int) < k) (h2 : k < M) : rndI 1 ((n : Rat) * 2^(-1074 : Int)) = if R n < n then k + 1 else k := by
  refine (Rnd.eq (.inr ⟨rfl, by split <;> omega, by split <;> omega, fun j hj hj' => ?_⟩)).symm
  rw [units_le_fl]
  by_cases hc : R n < n
  · rw [if_pos hc]
    constructor
    · intro h
      by_cases h3 : n ≤ val j
      · exact h3
      · have h4 : val j ≤ R n := le_R (Rep.val j) (by omega)
        rw [← hk, val_le_iff] at h4; omega
    · intro h
      have h4 : val k < val j := by omega
      rw [val_lt_iff] at h4; omega
  · rw [if_neg hc]
    constructor
    · intro h
      have := val_le_iff.2 h; omega
    · intro h
      have h4 : R n ≤ val j := R_le (Rep.val j) h
      rw [← hk, val_le_iff] at h4; omega
theorem mag_two_pow (t : Nat) : mag ((t + 1) * 2^52) = 2^52 * 2^t := by
  have := mag_form t (2^52) (.inr (Nat.le_refl _)) (by omega)
  rw [show (t + 1) * 2^52 = t * 2^52 + 2^52 from by rw [Nat.add_mul, Nat.one_mul]]; exact this
theorem rep_two_pow (t : Nat) : Rep ((2 : Int)^t) := rep_of_dvd t (Int.dvd_refl _) (by rw [Int.natAbs_pow]; exact Nat.le_mul_of_pos_left _ (by decide))
theorem R_bound {n : Int} {t : Nat} (h : n.natAbs ≤ 2^t) : (R n).natAbs ≤ 2^t := by
  have h0 : ((2^t : Nat) : Int) = (2 : Int)^t := by rw [Int.natCast_pow]; rfl
  have h1 : R n ≤ (2 : Int)^t := R_le (rep_two_pow t) (by omega)
  have h2 : -(2 : Int)^t ≤ R n := le_R (rep_two_pow t).neg (by omega)
  omega
theorem near_R {n : Int} {Q : Nat} (hQ : Q ≤ 2000) (h : n.natAbs ≤ 2^Q) : val (near n 0) = R n ∧ -(M : Int) < near n 0 ∧ near n 0 < M := by
  have hM : M = 2047 * 2^52 := rfl
  obtain ⟨r, hr⟩ : ∃ r, mag r = 2^Q * 2^0 ∧ r < M := by
    by_cases hq : Q < 52
    · have h1 : 2^Q < 2^52 := Nat.pow_lt_pow_right (by omega) hq
      exact ⟨2^Q, by rw [mag_small h1, Nat.pow_zero, Nat.mul_one], by omega⟩
    · obtain ⟨t, rfl⟩ : ∃ t, Q = 52 + t := ⟨Q - 52, by omega⟩
      refine ⟨(t + 1) * 2^52, by rw [mag_two_pow, Nat.pow_zero, Nat.mul_one, Nat.pow_add], ?_⟩
      have : (t + 1) * 2^52 ≤ 2000 * 2^52 := Nat.mul_le_mul_right _ (by omega)
      omega
  have h1 : nearRung n.natAbs 0 ≤ r := nearRung_le (by rw [Nat.pow_zero, Nat.mul_one]; rw [Nat.pow_zero, Nat.mul_one] at hr; rw [hr.1]; exact h)
  have h2 : min (nearRung n.natAbs 0) M = nearRung n.natAbs 0 := by omega
  unfold near R
  rw [h2]
  refine ⟨?_, by split <;> omega, by split <;> omega⟩
  split
  · rw [val_neg, val_nat]
  · rw [val_nat]
structure Fl (b : Nat) (n : Int) : Prop where
  lt : b < 18446744073709551616
  fin : fin b
  val : val (idx b) = n
theorem Fl.of_is {b : Nat} {n : Int} {Q : Nat} (hQ : Q ≤ 2000) (h : Is b (near n 0)) (hn : n.natAbs ≤ 2^Q) : Fl b (R n) := by
  obtain ⟨h1, h2, h3⟩ := near_R hQ hn
  refine ⟨h.lt, ?_, by rw [h.idx, h1]⟩
  have := idx_natAbs b
  rw [h.idx] at this
  show rungOf b < M
  omega
theorem Fl.add {x y : Nat} {m n : Int} {Q : Nat} (hQ : Q ≤ 2000) (hx : Fl x m) (hy : Fl y n) (h : (m + n).natAbs ≤ 2^Q) : ∃ r, FloatKind.f64.format.add x y = some r ∧ Fl r (R (m + n)) := by
  obtain ⟨r, h1, h2⟩ := add_fin hx.fin hy.fin
  rw [hx.val, hy.val] at h2
  exact ⟨r, h1, Fl.of_is hQ h2 h⟩
theorem Fl.sub {x y : Nat} {m n : Int} {Q : Nat} (hQ : Q ≤ 2000) (hx : Fl x m) (hy : Fl y n) (h : (m - n).natAbs ≤ 2^Q) : ∃ r, FloatKind.f64.format.sub x y = some r ∧ Fl r (R (m - n)) := by
  obtain ⟨r, h1, h2⟩ := sub_fin hx.fin hy.fin
  rw [hx.val, hy.val] at h2
  exact ⟨r, h1, Fl.of_is hQ h2 h⟩
theorem or_one (v : Nat) : v ||| 1 = 2 * (v / 2) + 1 := by
  have h1 : v = 2 * (v / 2) + v % 2 := by omega
  apply Nat.eq_of_testBit_eq
  intro i
  rw [Nat.testBit_or]
  cases i with
  | zero => simp
  | succ i => rw [Nat.testBit_succ, Nat.testBit_succ, Nat.testBit_succ, show (2 * (v / 2) + 1) / 2 = v / 2 from by omega]; simp
def marked (w : Nat) (lost : Bool) : Nat := if lost then 2 * (w / 2) + 1 else w
theorem marked_div (w : Nat) (lost : Bool) : marked w lost / 4 = w / 4 := by unfold marked; split <;> omega
theorem marked_mod (w : Nat) (lost : Bool) : marked w lost % 4 = 0 ↔ w % 4 = 0 ∧ lost = false := by unfold marked; split <;> simp_all; omega
def Dg (S p q : Nat) (exp : Int) (more : Bool) : Prop :=
  ∃ U : Nat, 0 ≤ exp + U ∧ 3000 ≤ U ∧ S * 2^(exp + U).toNat * q ≤ p * 2^U ∧ p * 2^U < (S + 1) * 2^(exp + U).toNat * q ∧ (more = false ↔ p * 2^U = S * 2^(exp + U).toNat * q)
theorem Dg.exact (S : Nat) (exp : Int) : Dg S (S * 2^exp.toNat) (2^(-exp).toNat) exp false := by
  refine ⟨3000 + exp.natAbs, by omega, by omega, ?_⟩
  have e : S * 2^exp.toNat * 2^(3000 + exp.natAbs) = S * 2^(exp + (3000 + exp.natAbs : Nat)).toNat * 2^(-exp).toNat := by
    rw [Nat.mul_assoc, Nat.mul_assoc, ← Nat.pow_add, ← Nat.pow_add]; congr 2; omega
  refine ⟨by omega, ?_, by simp [e]⟩
  rw [e, Nat.add_mul, Nat.add_mul, Nat.one_mul]
  have : 0 < 2^(exp + (3000 + exp.natAbs : Nat)).toNat * 2^(-exp).toNat := Nat.mul_pos (Nat.two_pow_pos _) (Nat.two_pow_pos _)
  omega
theorem Dg.sc {S p q : Nat} {exp : Int} {more : Bool} (h : Dg S p q exp more) (hS : 0 < S) : Sc p q ((blen S : Int) - 1 + exp) := by
  obtain ⟨U, h0, -, h1, h2, -⟩ := h
  obtain ⟨L, e, b1, b2⟩ := blen_bounds hS
  rw [e]
  have c1 : 2^(L + (exp + U).toNat) * q ≤ p * 2^U := Nat.le_trans (by rw [Nat.pow_add]; exact Nat.mul_le_mul_right _ (Nat.mul_le_mul_right _ b1)) h1
  have c2 : p * 2^U < 2^(L + 1 + (exp + U).toNat) * q := Nat.lt_of_lt_of_le h2 (by rw [Nat.pow_add]; exact Nat.mul_le_mul_right _ (Nat.mul_le_mul_right _ (by omega)))
  have eg : ((L + 1 : Nat) : Int) - 1 + exp = (L : Int) + exp := by omega
  rw [eg]
  constructor
  · intro hf
    have a1 : L + (exp + U).toNat = ((L : Int) + exp).toNat + U := by omega
    have a2 : L + 1 + (exp + U).toNat = ((L : Int) + exp).toNat + 1 + U := by omega
    rw [a1, Nat.pow_add] at c1
    rw [a2, Nat.pow_add] at c2
    constructor
    · refine Nat.le_of_mul_le_mul_right (c := 2^U) ?_ (Nat.two_pow_pos U)
      calc q * 2^((L : Int) + exp).toNat * 2^U = 2^((L : Int) + exp).toNat * 2^U * q := by ac_rfl
        _ ≤ _ := c1
    · refine Nat.lt_of_mul_lt_mul_right (a := 2^U) ?_
      calc p * 2^U < _ := c2
        _ = q * 2^(((L : Int) + exp).toNat + 1) * 2^U := by ac_rfl
  · intro hf
    have a1 : U = L + (exp + U).toNat + (-((L : Int) + exp)).toNat := by omega
    have c3 : 2^(L + (exp + U).toNat) * q ≤ 2^(L + (exp + U).toNat) * (p * 2^(-((L : Int) + exp)).toNat) := by
      calc _ ≤ _ := c1
        _ = p * (2^(L + (exp + U).toNat) * 2^(-((L : Int) + exp)).toNat) := by rw [← Nat.pow_add, ← a1]
        _ = _ := by ac_rfl
    have c4 : 2^(L + (exp + U).toNat) * (p * 2^(-((L : Int) + exp)).toNat) < 2^(L + (exp + U).toNat) * (2 * q) := by
      calc _ = p * (2^(L + (exp + U).toNat) * 2^(-((L : Int) + exp)).toNat) := by ac_rfl
        _ = p * 2^U := by rw [← Nat.pow_add, ← a1]
        _ < _ := c2
        _ = _ := by rw [show L + 1 + (exp + U).toNat = L + (exp + U).toNat + 1 from by omega, Nat.pow_succ]; ac_rfl
    exact ⟨Nat.le_of_mul_le_mul_left c3 (Nat.two_pow_pos _), Nat.lt_of_mul_lt_mul_left c4⟩
theorem or_false_split {a b : Bool} (h : (a || b) = false) : a = false ∧ b = false := by revert h; cases a <;> cases b <;> simp
theorem bracket {P C W W' : Nat} (h1 : W * C ≤ P) (h2 : P < (W + 1) * C) (h3 : W' * C ≤ P) (h4 : P < (W' + 1) * C) : W = W' := by
  have a : W < W' + 1 := Nat.lt_of_mul_lt_mul_right (Nat.lt_of_le_of_lt h1 h4)
  have b : W' < W + 1 := Nat.lt_of_mul_lt_mul_right (Nat.lt_of_le_of_lt h3 h2)
  omega
theorem digits_at {S p q w : Nat} {exp e : Int} {more lost : Bool} (h : Dg S p q exp more) (hq : 0 < q) (he : -1074 ≤ e)
    (hdn : 0 ≤ e - 2 - exp → w = S / 2^(e - 2 - exp).toNat ∧ (lost = true ↔ S % 2^(e - 2 - exp).toNat ≠ 0)) (hup : e - 2 - exp < 0 → w = S * 2^(-(e - 2 - exp)).toNat ∧ lost = false ∧ more = false) :
    marked w (lost || more) / 4 = upN p e / upM q e ∧ (marked w (lost || more) % 4 = 0 ↔ upN p e % upM q e = 0) := by
  obtain ⟨U, h0, hU, h1, h2, h3⟩ := h
  obtain ⟨u1, u2, u3, u4⟩ := units (n := p) (m := q) (U := U) (e := e) hq (by omega)
  rw [marked_div, marked_mod]
  obtain ⟨P, hP⟩ : ∃ P, p * 2^U = P := ⟨_, rfl⟩
  obtain ⟨W, hW⟩ : ∃ W, upN p e / upM q e = W := ⟨_, rfl⟩
  rw [hP] at h1 h2 h3 u1 u2 u3 u4
  rw [hW] at u1 u2 u3 u4 ⊢
  obtain ⟨C, hC⟩ : ∃ C, 2^(e + U).toNat * q = C := ⟨_, rfl⟩
  rw [Nat.mul_assoc, hC] at u1 u2 u3 u4
  have hC0 : 0 < C := by rw [← hC]; exact Nat.mul_pos (Nat.two_pow_pos _) hq
  -- the bracket of w / 4, and when P is it
  have key : w / 4 * C ≤ P ∧ P < (w / 4 + 1) * C ∧ (P = w / 4 * C ↔ w % 4 = 0 ∧ (lost || more) = false) := by
    rcases Int.lt_or_le (e - 2 - exp) 0 with hc | hc
    · obtain ⟨ew, rfl, rfl⟩ := hup hc
      have eq := h3.1 rfl
      obtain ⟨k, hk⟩ : ∃ k, (-(e - 2 - exp)).toNat = k := ⟨_, rfl⟩
      obtain ⟨B, hB⟩ : ∃ B, 2^(e - 2 + U).toNat * q = B := ⟨_, rfl⟩
      have hB0 : 0 < B := by rw [← hB]; exact Nat.mul_pos (Nat.two_pow_pos _) hq
      have e4 : C = 4 * B := by
        rw [← hC, ← hB, show (e + U).toNat = (e - 2 + U).toNat + 2 from by omega, Nat.pow_add]
        have : 2^2 = 4 := rfl
        rw [this]; ac_rfl
      have eP : P = w * B := by
        rw [eq, ew, hk, ← hB, show (exp + U).toNat = k + (e - 2 + U).toNat from by omega, Nat.pow_add]; ac_rfl
      have ew4 : w = 4 * (w / 4) + w % 4 := by omega
      have lt4 : w % 4 < 4 := Nat.mod_lt _ (by omega)
      generalize w / 4 = a at *
      generalize w % 4 = b at *
      have eP2 : P = a * C + b * B := by rw [eP, ew4, e4, Nat.add_mul]; congr 1; ac_rfl
      refine ⟨by omega, ?_, ?_⟩
      · rw [Nat.add_mul, Nat.one_mul, eP2]
        have : b * B < 4 * B := Nat.mul_lt_mul_of_pos_right lt4 hB0
        omega
      · constructor
        · intro h
          have : b * B = 0 := by omega
          rcases Nat.mul_eq_zero.1 this with h | h
          · exact ⟨h, rfl⟩
          · omega
        · rintro ⟨h, -⟩
          rw [h] at eP2; omega
    · obtain ⟨ew, hl⟩ := hdn hc
      obtain ⟨k, hk⟩ : ∃ k, (e - 2 - exp).toNat = k := ⟨_, rfl⟩
      rw [hk] at ew hl
      obtain ⟨A, hA⟩ : ∃ A, 2^(exp + U).toNat * q = A := ⟨_, rfl⟩
      have hA0 : 0 < A := by rw [← hA]; exact Nat.mul_pos (Nat.two_pow_pos _) hq
      rw [Nat.mul_assoc, hA] at h1 h2 h3
      have e4 : C = 4 * 2^k * A := by
        rw [← hC, ← hA, show (e + U).toNat = (exp + U).toNat + k + 2 from by omega, Nat.pow_add, Nat.pow_add]
        have : 2^2 = 4 := rfl
        rw [this]; ac_rfl
      have eS : S = 2^k * w + S % 2^k := by rw [ew]; exact (Nat.div_add_mod S (2^k)).symm
      have lS : S % 2^k < 2^k := Nat.mod_lt _ (Nat.two_pow_pos k)
      have ew4 : w = 4 * (w / 4) + w % 4 := by omega
      have lt4 : w % 4 < 4 := Nat.mod_lt _ (by omega)
      generalize S % 2^k = l at *
      generalize w / 4 = a at *
      generalize w % 4 = b at *
      generalize 2^k = K at *
      have eS2 : S = a * (4 * K) + (K * b + l) := by
        rw [eS, ew4, Nat.mul_add]
        have : K * (4 * a) = a * (4 * K) := by ac_rfl
        omega
      have hr : K * b + l < 4 * K := by
        have : K * b ≤ K * 3 := Nat.mul_le_mul_left _ (by omega)
        omega
      generalize hR : K * b + l = r at *
      have c1 : S * A = a * C + r * A := by rw [eS2, e4, Nat.add_mul]; congr 1; ac_rfl
      have c2 : (S + 1) * A = a * C + (r + 1) * A := by rw [Nat.add_mul, c1, Nat.add_mul]; omega
      have c3 : (r + 1) * A ≤ C := by rw [e4]; exact Nat.mul_le_mul_right _ (by omega)
      refine ⟨by omega, ?_, ?_⟩
      · rw [Nat.add_mul, Nat.one_mul]; omega
      · constructor
        · intro h
          have h5 : r * A = 0 := by omega
          have h6 : r = 0 := by rcases Nat.mul_eq_zero.1 h5 with h | h <;> omega
          have h7 : l = 0 := by omega
          have h8 : K * b = 0 := by omega
          have h9 : b = 0 := by rcases Nat.mul_eq_zero.1 h8 with h | h <;> omega
          have h10 : lost = false := by
            cases lost with
            | false => rfl
            | true => exact absurd h7 (hl.1 rfl)
          have h11 : more = false := h3.2 (by omega)
          exact ⟨h9, by rw [h10, h11]; rfl⟩
        · rintro ⟨h5, h6⟩
          obtain ⟨h7, h8⟩ := or_false_split h6
          have h9 : l = 0 := by
            by_cases hl0 : l = 0
            · exact hl0
            · have := hl.2 hl0; rw [h7] at this; cases this
          have h10 : r = 0 := by rw [← hR, h5, h9]; simp
          have := h3.1 h8
          rw [this, c1, h10]; omega
  obtain ⟨k1, k2, k3⟩ := key
  have hWW : w / 4 = W := bracket k1 k2 u1 u2
  refine ⟨hWW, ?_⟩
  rw [← k3, hWW]
  constructor
  · intro h
    by_cases h0 : upN p e % upM q e = 0
    · exact h0
    · have := u4 h0; omega
  · intro h; exact u3 h
end Go.Proofs.YthlmlmfebpjgdaaGreatDoor
