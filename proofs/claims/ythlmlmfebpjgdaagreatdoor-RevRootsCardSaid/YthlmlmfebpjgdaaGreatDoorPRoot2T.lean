/-
round.Root by indexes.
rev.PownRev above 0, SqrRev by indexes.
Plain: the quick product: a number of 53 bits cut into two of 26; what the nearest to a product lacks of it, exactly.
Plain: a sum of floats of which one is infinite; the quick road's answer.
Plain: the quick product of floats: the nearest, and what it lacks, by the words that the program reckons.
Plain: a product of floats, rounded in a direction; the quick road's answer; a product of which one is infinite.
Walks: package round: sum, to.
Walks: package round: sum of any two, to; what they are worth.
-/
import Derived.Test.YthlmlmfebpjgdaaGreatDoorPPartT
import Derived.Test.YthlmlmfebpjgdaaGreatDoorPMathT
import Derived.Test.YthlmlmfebpjgdaaGreatDoorPCut2T
import Derived.Test.YthlmlmfebpjgdaaGreatDoorPAbT
import Derived.Test.YthlmlmfebpjgdaaGreatDoorPGoA
import Derived.Test.YthlmlmfebpjgdaaGreatDoorM17
import Derived.Test.YthlmlmfebpjgdaaGreatDoorM04
set_option linter.unusedSimpArgs false
set_option linter.unusedVariables false
set_option maxHeartbeats 12800000

namespace Go.Proofs.YthlmlmfebpjgdaaGreatDoor
open Go.RowKit
theorem sgn_pat2 {i : Int} (h : -(M : Int) ≤ i ∧ i ≤ M) (h0 : i ≠ 0) : sgn (pat i) = decide (i < 0) := by
  have c := pat_cases (pat_lt h.1 h.2)
  rw [idx_pat h.1 h.2] at c
  rcases c with ⟨c1, c2, c3, c4⟩ | ⟨c1, c2, c3, c4⟩
  · rw [c3, decide_eq_false (by omega)]
  · rw [c3, decide_eq_true (by omega)]
theorem rv_rq {s n R : Nat} (neg : Bool) (E : Int) : (if R ^ n = s then rv neg R 1 * 2 ^ E else rv neg (2 * R + 1) 2 * 2 ^ E) = if neg = true then - rq s n R (2 ^ E) else rq s n R (2 ^ E) := by
  unfold rq rv
  by_cases h : R ^ n = s
  · rw [if_pos h, if_pos h]
    cases neg <;> simp <;> grind
  · rw [if_neg h, if_neg h]
    cases neg
    · simp only [Bool.false_eq_true, if_false]; push_cast; grind
    · simp only [if_true]; push_cast; grind
theorem root_q (S n : Nat) (e : Int) (hS : 0 < S) (hS2 : S < 9007199254740992) (he : -1074 ≤ e ∧ e ≤ 971) (hn : 1 ≤ n) (hn2 : n ≤ 1024) : ∃ q : Rat, (∀ i : Int, fl i = (S : Rat) * 2 ^ e → RtOk i n q) ∧
    ∀ (d : Int) (neg : Bool) (A : Option Addr) (m c : Nat) (w : World), d = -1 ∨ d = 1 → U32s w A m c (digs S) →
      Calls Tryz.prog 223 #[.int .i64 d, .agg #[.bool neg, .slice A m c, .int .i64 e], .int .i64 (n : Int)] w fun e' w' => e' = .returned (.float .f64 (pat (rndI d (if neg = true then -q else q)))) ∧ Below w.heap.size w w' := by
  have hb : blen S ≤ 53 := blen_le_iff.2 (by omega)
  have hb0 : 0 < blen S := by
    rcases Nat.eq_zero_or_pos (blen S) with h | h
    · have := blen_eq_zero.1 h; omega
    · exact h
  obtain ⟨k0, hk0⟩ : ∃ k : Nat, max 0 (58 * (n : Int) - (blen S : Int)) = (k : Int) := ⟨58 * n - blen S, by omega⟩
  have hn0 : (0 : Int) < (n : Int) := by omega
  have hm1 := Int.emod_nonneg (e - (k0 : Int)) (show (n : Int) ≠ 0 by omega)
  have hm2 := Int.emod_lt_of_pos (e - (k0 : Int)) hn0
  have hdm := Int.mul_ediv_add_emod (e - (k0 : Int)) (n : Int)
  obtain ⟨J, hJ⟩ : ∃ J : Nat, (e - (k0 : Int)) % (n : Int) = (J : Int) := ⟨((e - (k0 : Int)) % (n : Int)).toNat, by omega⟩
  obtain ⟨E, hE⟩ : ∃ E : Int, (e - (k0 : Int)) / (n : Int) = E := ⟨_, rfl⟩
  rw [hJ, hE] at hdm
  rw [hJ] at hm2
  have hek : e - ((k0 + J : Nat) : Int) = (n : Int) * E := by omega
  have hEb : -100000 ≤ E ∧ E ≤ 100000 := by
    rw [← hE]
    constructor
    · rw [Int.le_ediv_iff_mul_le hn0]; omega
    · exact Int.le_of_lt (Int.ediv_lt_of_lt_mul hn0 (by omega))
  obtain ⟨s, hs⟩ : ∃ s, S * 2 ^ (k0 + J) = s := ⟨_, rfl⟩
  have hs0 : 0 < s := by rw [← hs]; exact Nat.mul_pos hS (Nat.two_pow_pos _)
  obtain ⟨r, hr⟩ := exists_root n (by omega) s
  have h58 : 2 ^ (58 * n - 1) ≤ s := by
    rw [← hs]
    have h1 : 2 ^ (blen S - 1) ≤ S := by
      rcases Nat.lt_or_ge S (2 ^ (blen S - 1)) with q | q
      · have := blen_le_iff.2 q; omega
      · exact q
    calc 2 ^ (58 * n - 1) ≤ 2 ^ (blen S - 1 + (k0 + J)) := Nat.pow_le_pow_right (by omega) (by omega)
      _ = 2 ^ (blen S - 1) * 2 ^ (k0 + J) := Nat.pow_add ..
      _ ≤ S * 2 ^ (k0 + J) := Nat.mul_le_mul_right _ h1
  have hR : 144115188075855872 ≤ r := by
    rcases Nat.lt_or_ge r 144115188075855872 with q | q
    · exfalso
      have h2 := Nat.pow_le_pow_left (show r + 1 ≤ 2 ^ 57 by omega) n
      rw [← Nat.pow_mul] at h2
      have h3 : (2 : Nat) ^ (57 * n) ≤ 2 ^ (58 * n - 1) := Nat.pow_le_pow_right (by omega) (by omega)
      have := hr.2
      omega
    · exact q
  refine ⟨rq s n r (2 ^ E), fun i hi => ?_, fun d neg A m c w hd hu => ?_⟩
  · refine rq_ok (by omega) hr hR ?_
    rw [hi, ← hek, ← hs, show e = ((k0 + J : Nat) : Int) + (e - ((k0 + J : Nat) : Int)) from by omega, zpow_add, zpow_nat]
    push_cast
    rw [show ((k0 : Int) + (J : Int) + (e - ((k0 : Int) + (J : Int))) - ((k0 : Int) + (J : Int))) = e - ((k0 : Int) + (J : Int)) from by omega]
    grind
  · have hrb : blen r ≤ 70000 := by
      have h1 : r ≤ s := by
        refine Nat.le_trans ?_ hr.1
        calc r = r ^ 1 := (Nat.pow_one r).symm
          _ ≤ r ^ n := Nat.pow_le_pow_right (by omega) hn
      refine Nat.le_trans (blen_mono h1) ?_
      rw [← hs]
      have := blen_mul S (2 ^ (k0 + J))
      have : blen (2 ^ (k0 + J)) ≤ k0 + J + 1 := blen_le_iff.2 (Nat.pow_lt_pow_right (by omega) (by omega))
      omega
    have hb58 : 58 ≤ blen r := by
      rcases Nat.lt_or_ge (blen r) 58 with q | q
      · have := blen_le_iff.1 (show blen r ≤ 57 by omega); omega
      · exact q
    obtain ⟨more, hmo⟩ : ∃ b, (!(cmp3 (r ^ n) s == 0)) = b := ⟨_, rfl⟩
    refine root_walk d neg more S n k0 J r s _ e E _ A m c w hu (by omega) hn hn2 (by omega) hk0 (by omega) (fun i hi => ?_) ?_ ?_ hEb hs hs0 hr rfl hmo (fun W B m' c' hB => ?_)
    · rw [← Int.dvd_iff_tmod_eq_zero]
      rintro ⟨t, ht⟩
      have h1 : (e - ((k0 + i : Nat) : Int)) = (n : Int) * E + ((J : Int) - (i : Int)) := by omega
      have h2 : (n : Int) * (t - E) = (J : Int) - (i : Int) := by rw [Int.mul_sub]; omega
      have h3 : 0 < t - E := by
        rcases Int.lt_or_le 0 (t - E) with q | q
        · exact q
        · have := Int.mul_nonneg (show 0 ≤ (n : Int) by omega) (show 0 ≤ -(t - E) by omega)
          rw [Int.mul_neg] at this; omega
      have h4 : (n : Int) * 1 ≤ (n : Int) * (t - E) := Int.mul_le_mul_of_nonneg_left (by omega) (by omega)
      omega
    · rw [hek, Int.mul_tmod_right]
    · rw [hek, Int.mul_tdiv_cancel_left _ (by omega)]
    · rw [← rv_rq]
      by_cases h : r ^ n = s
      · rw [if_pos h]
        have e1 : more = false := by rw [← hmo, cmp3_eq h]; rfl
        rw [e1]
        have ho := of_quo d neg B m' c' r 1 0 E W (by omega) (by omega) (by omega) (by omega) (by have : blen 1 ≤ 1 := blen_le_iff.2 (by omega); omega) (by rw [Nat.pow_zero, Nat.mul_one, Nat.div_one]; exact hB) hd (by omega) (by omega)
        rw [Nat.pow_zero, Nat.mul_one, Nat.mod_one, show (E - ((0 : Nat) : Int)) = E from by omega] at ho
        exact ho
      · rw [if_neg h]
        have e1 : more = true := by
          rw [← hmo]
          have : cmp3 (r ^ n) s ≠ 0 := fun k => h (cmp3_zero.1 k)
          simpa using this
        rw [e1]
        have b2 : blen (2 * r + 1) ≤ blen r + 1 := by
          have := blen_le_iff.1 (Nat.le_refl (blen r))
          exact blen_le_iff.2 (by rw [Nat.pow_succ]; omega)
        have b3 : blen r + 1 ≤ blen (2 * r + 1) := by
          have := blen_half (n := 2 * r + 1) (by omega)
          rw [show (2 * r + 1) / 2 = r by omega] at this; omega
        have ho := of_quo d neg B m' c' (2 * r + 1) 2 0 E W (by omega) (by omega) (by omega) (by omega) (by have : blen 2 ≤ 2 := blen_le_iff.2 (by omega); omega) (by rw [Nat.pow_zero, Nat.mul_one, show (2 * r + 1) / 2 = r by omega]; exact hB) hd (by omega) (by omega)
        rw [Nat.pow_zero, Nat.mul_one, show (2 * r + 1) % 2 = 1 by omega, show (E - ((0 : Nat) : Int)) = E from by omega] at ho
        exact ho
theorem root_nought (d : Int) (n : Nat) (w : World) (hn : 1 ≤ n) (hn2 : n ≤ 1024) :
    Calls Tryz.prog 174 #[.int .i64 d, .float .f64 0, .int .i64 (n : Int)] w fun e w' => e = .returned (.float .f64 0) ∧ Below w.heap.size w w' := by
  have hM : (M : Int) = 9218868437227405312 := rfl
  have HN := Lib.hid fun W => isnanf (pat 0) W (by rw [rung_pat (by omega) (by omega)]; omega)
  have o := ord0_eq (i := 0) rfl
  rw [pat_zero] at HN o
  have h1 : ¬ (n : Int) < 1 := by omega
  have h2 : ¬ (1024 : Int) < (n : Int) := by omega
  rcases Nat.mod_two_eq_zero_or_one n with hp | hp
  all_goals
    have hpi : (n : Int) % 2 = ((n % 2 : Nat) : Int) := by omega
    rw [hp] at hpi
    clear hp
    go_enter Tryz.func174, Tryz.ntmps174
    go_wp2_with fail
    refine (HN.out _).mono ?_
    rintro e w' ⟨rfl, rfl⟩
    go_wp2
    go_ret
    exact ⟨rfl, Below.refl _ _⟩
theorem root_far (d i : Int) (n : Nat) (o : Ordering) (w : World) (hn : 1 ≤ n) (hn2 : n ≤ 1024) (hi : i = M ∨ i = -(M : Int)) (hp : n % 2 = 1 ∨ i = M) :
    Calls Tryz.prog 174 #[.int .i64 d, .float .f64 (pat i), .int .i64 (n : Int)] w fun e w' => e = .returned (.float .f64 (pat i)) ∧ Below w.heap.size w w' := by
  have hM : (M : Int) = 9218868437227405312 := rfl
  have hr : -(M : Int) ≤ i ∧ i ≤ M := by omega
  have HN := Lib.hid fun W => isnanf (pat i) W (by rw [rung_pat hr.1 hr.2]; omega)
  have HF := Lib.hid fun W => isinff (pat i) W (pat_lt hr.1 hr.2) (by rw [rung_pat hr.1 hr.2]; omega)
  rw [rung_pat hr.1 hr.2, decide_eq_true (show i.natAbs = M by omega)] at HF
  have o := ord0 hr
  obtain ⟨x, hx⟩ : ∃ x, pat i = x := ⟨_, rfl⟩
  rw [hx] at HN HF o ⊢
  have h1 : ¬ (n : Int) < 1 := by omega
  have h2 : ¬ (1024 : Int) < (n : Int) := by omega
  have hpi : (n : Int) % 2 = ((n % 2 : Nat) : Int) := by omega
  have hc : (n % 2 = 1 ∧ (compare i 0 = .lt ∨ compare i 0 = .gt)) ∨ (n % 2 = 0 ∧ compare i 0 = .gt) := by
    rcases hi with hi | hi
    · have : compare i 0 = .gt := Int.compare_eq_gt.2 (by omega)
      rcases Nat.mod_two_eq_zero_or_one n with hp | hp
      · exact .inr ⟨hp, this⟩
      · exact .inl ⟨hp, .inr this⟩
    · exact .inl ⟨by rcases hp with h | h <;> omega, .inl (Int.compare_eq_lt.2 (by omega))⟩
  clear hi hp hr hx
  rcases hc with ⟨e1, e2 | e2⟩ | ⟨e1, e2⟩
  all_goals
    rw [e1] at hpi
    rw [e2] at o
    clear e1 e2
    go_enter Tryz.func174, Tryz.ntmps174
    go_wp2_with fail
    refine (HN.out _).mono ?_
    rintro e w' ⟨rfl, rfl⟩
    go_wp2_with fail
    refine (HF.out _).mono ?_
    rintro e w' ⟨rfl, rfl⟩
    go_wp2
    go_ret
    exact ⟨rfl, Below.refl _ _⟩
theorem root_some (d : Int) (x n z : Nat) (neg : Bool) (S : Nat) (e : Int) (o : Ordering) (w : World) (hn : 1 ≤ n) (hn2 : n ≤ 1024) (hN : ∀ W, Calls Tryz.prog 221 #[.float .f64 x] W fun e w' => e = .returned (.bool false) ∧ W = w') (hF : ∀ W, Calls Tryz.prog 161 #[.float .f64 x, .int .i64 0] W fun e w' => e = .returned (.bool false) ∧ W = w')
    (ho : FloatKind.f64.format.order x 0 = some o) (hc : (n % 2 = 1 ∧ (o = .lt ∨ o = .gt)) ∨ (n % 2 = 0 ∧ o = .gt)) (hP : ∀ W, Calls Tryz.prog 189 #[.float .f64 x] W (NewDy W neg S e)) (hR : ∀ A m c W, U32s W A m c (digs S) → Calls Tryz.prog 223 #[.int .i64 d, .agg #[.bool neg, .slice A m c, .int .i64 e], .int .i64 (n : Int)] W fun e' w' => e' = .returned (.float .f64 z) ∧ Below W.heap.size W w') :
    Calls Tryz.prog 174 #[.int .i64 d, .float .f64 x, .int .i64 (n : Int)] w fun e w' => e = .returned (.float .f64 z) ∧ Below w.heap.size w w' := by
  have HN := Lib.hid hN
  have HF := Lib.hid hF
  have HP := Lib.hid hP
  have HR := Lib.hid hR
  have h1 : ¬ (n : Int) < 1 := by omega
  have h2 : ¬ (1024 : Int) < (n : Int) := by omega
  have hpi : (n : Int) % 2 = ((n % 2 : Nat) : Int) := by omega
  clear hN hF hP hR
  rcases hc with ⟨e1, rfl | rfl⟩ | ⟨e1, rfl⟩
  all_goals
    rw [e1] at hpi
    clear e1
    go_enter Tryz.func174, Tryz.ntmps174
    go_wp2_with fail
    refine (HN.out _).mono ?_
    rintro e w' ⟨rfl, rfl⟩
    go_wp2_with fail
    refine (HF.out _).mono ?_
    rintro e w' ⟨rfl, rfl⟩
    go_wp2_with fail
    refine (HP.out _).mono ?_
    rintro e' w1 ⟨A, m, c, rfl, hu, hb⟩
    have HRR := Lib.hid (HR.out A m c w1 hu)
    have HB := Lib.hid hb
    clear hu hb HR HP
    go_wp2_with fail
    refine HRR.out.mono ?_
    rintro e' w2 ⟨rfl, hb2⟩
    have HB2 := Lib.hid (HB.out.trans (hb2.mono HB.out.size))
    clear hb2 HB HRR
    go_wp2
    go_ret
    exact ⟨rfl, HB2.out⟩
theorem rt_ok {i : Int} {n : Nat} (h0 : 0 < i) (h1 : i < M) (hn : 1 ≤ n) (hn2 : n ≤ 1024) : RtOk i n (rootq i n) := by
  have hM : (M : Int) = 9218868437227405312 := rfl
  have hi : -(M : Int) ≤ i ∧ i ≤ M := by omega
  obtain ⟨S, e, b1, b2, b3, hv, -⟩ := part_any (pat i) (pat_lt hi.1 hi.2) (by unfold fin; rw [rung_pat hi.1 hi.2]; omega)
  rw [idx_pat hi.1 hi.2, sgn_pat2 hi (by omega), decide_eq_false (by omega)] at hv
  have hf : fl i = (S : Rat) * 2 ^ e := by
    rw [hv]; unfold rv; simp only [Bool.false_eq_true, if_false]; grind
  have hS : 0 < S := by
    rcases Nat.eq_zero_or_pos S with h | h
    · exfalso
      have hz : fl i = 0 := by rw [hf, h]; grind
      have := fl_lt_iff.2 h0; rw [fl_zero] at this; grind
    · exact h
  obtain ⟨q, hq, -⟩ := root_q S n e hS b1 ⟨b2, b3⟩ hn hn2
  exact rootq_ok (hq i hf)
theorem rti_lo {d a : Int} {n : Nat} (hd : d = -1 ∨ d = 1) (h0 : 0 ≤ a) (h1 : a ≤ M) (hn : 1 ≤ n) (hn2 : n ≤ 1024) : 0 ≤ rti d a n ∧ rti d a n ≤ M ∧ (d = -1 → a < M → rti d a n < M) := by
  have hM : (M : Int) = 9218868437227405312 := rfl
  unfold rti rt1
  rw [if_neg (by omega)]
  by_cases h : a = 0 ∨ a = M
  · rw [if_pos h]; omega
  · rw [if_neg h]
    have hq := (rt_ok (i := a) (n := n) (by omega) (by omega) hn hn2).1
    have r1 := rndI_down (rootq a n)
    have r2 := rndI_up (rootq a n)
    have r3 := rndI_mono hd (x := 0) (y := rootq a n) (by grind)
    rw [rndI_zero hd] at r3
    rcases hd with rfl | rfl <;> omega
theorem rti_mono {a b : Int} {n : Nat} (h0 : 0 ≤ a) (hab : a ≤ b) (ha : a < M) (h1 : b ≤ M) (hn : 1 ≤ n) (hn2 : n ≤ 1024) : rti (-1) a n ≤ rti 1 b n := by
  have hM : (M : Int) = 9218868437227405312 := rfl
  have ra := rti_lo (d := -1) (a := a) (n := n) (.inl rfl) h0 (by omega) hn hn2
  have rb := rti_lo (d := 1) (a := b) (n := n) (.inr rfl) (by omega) h1 hn hn2
  unfold rti rt1 at *
  rw [if_neg (by omega)] at *
  by_cases hb : b = M
  · have eb : (if b < 0 then -(if -b = 0 ∨ -b = (M : Int) then -b else rndI (-1) (rootq (-b) n)) else if b = 0 ∨ b = (M : Int) then b else rndI 1 (rootq b n)) = M := by
      rw [if_neg (by omega), if_pos (.inr hb)]; exact hb
    rw [eb]; omega
  · by_cases hz : a = 0
    · rw [if_pos (.inl hz)]; omega
    · rw [if_neg (by omega)] at *
      rw [if_neg (by omega)] at *
      rw [if_neg (by omega)] at *
      have qa := rt_ok (i := a) (n := n) (by omega) ha hn hn2
      have qb := rt_ok (i := b) (n := n) (by omega) (by omega) hn hn2
      have da := rndI_down (rootq a n)
      have ub := rndI_up (rootq b n)
      have f1 := (da.2.2 (rndI (-1) (rootq a n)) (by omega) (by omega)).1 (Int.le_refl _)
      have f2 := (qa.2 _ ra.1).1.1 f1
      have f3 : fl a ≤ fl b := fl_le_iff.2 hab
      have f4 := (qb.2 _ ra.1).1.2 (Rat.le_trans f2 f3)
      by_cases hu : rndI 1 (rootq b n) = M
      · omega
      · have f5 := (ub.2.2 (rndI 1 (rootq b n)) (by omega) (by omega)).1 (Int.le_refl _)
        exact fl_le_iff.1 (Rat.le_trans f4 f5)
theorem rroot_any (d i : Int) (n : Nat) (w : World) (hd : d = -1 ∨ d = 1) (hi : -(M : Int) ≤ i ∧ i ≤ M) (hn : 1 ≤ n) (hn2 : n ≤ 1024) (hp : n % 2 = 1 ∨ 0 ≤ i) :
    Calls Tryz.prog 174 #[.int .i64 d, .float .f64 (pat i), .int .i64 (n : Int)] w fun e w' => e = .returned (.float .f64 (pat (rti d i n))) ∧ Below w.heap.size w w' := by
  have hM : (M : Int) = 9218868437227405312 := rfl
  by_cases h0 : i = 0
  · subst h0
    have e : rti d 0 n = 0 := by unfold rti rt1; rw [if_neg (by omega), if_pos (.inl rfl)]
    rw [e, pat_zero]
    exact root_nought d n w hn hn2
  by_cases h1 : i = M ∨ i = -(M : Int)
  · have e : rti d i n = i := by
      unfold rti rt1
      split
      · rw [if_pos (by omega)]; omega
      · rw [if_pos (by omega)]
    rw [e]
    exact root_far d i n .eq w hn hn2 h1 (by omega)
  obtain ⟨S, e, b1, b2, b3, hv, hpt⟩ := part_any (pat i) (pat_lt hi.1 hi.2) (by unfold fin; rw [rung_pat hi.1 hi.2]; omega)
  rw [idx_pat hi.1 hi.2, sgn_pat2 hi h0] at hv
  rw [sgn_pat2 hi h0] at hpt
  have hS : 0 < S := by
    rcases Nat.eq_zero_or_pos S with h | h
    · exfalso
      have hz : fl i = 0 := by rw [hv, h]; unfold rv; split <;> grind
      rcases Int.lt_or_lt_of_ne h0 with c | c
      · have := fl_lt_iff.2 c; rw [fl_zero] at this; grind
      · have := fl_lt_iff.2 c; rw [fl_zero] at this; grind
    · exact h
  obtain ⟨q, hq, hroot⟩ := root_q S n e hS b1 ⟨b2, b3⟩ hn hn2
  have HF := fun W => isinff (pat i) W (pat_lt hi.1 hi.2) (by rw [rung_pat hi.1 hi.2]; omega)
  rw [rung_pat hi.1 hi.2, decide_eq_false (show ¬ i.natAbs = M by omega)] at HF
  have er : rndI d (if decide (i < 0) = true then -q else q) = rti d i n := by
    unfold rti
    by_cases hneg : i < 0
    · rw [if_pos (decide_eq_true hneg), if_pos hneg]
      have hf : fl (-i) = (S : Rat) * 2 ^ e := by
        rw [fl_neg, hv, decide_eq_true hneg]; unfold rv; simp only [if_true]; grind
      rw [rt1_of (by omega) (hq (-i) hf) (by omega) (by omega), ← rndI_neg (by omega), Int.neg_neg]
    · rw [if_neg (by simpa using hneg), if_neg hneg]
      have hf : fl i = (S : Rat) * 2 ^ e := by
        rw [hv, decide_eq_false hneg]; unfold rv; simp only [Bool.false_eq_true, if_false]; grind
      rw [rt1_of hd (hq i hf) h0 (by omega)]
  rw [← er]
  exact root_some d (pat i) n _ (decide (i < 0)) S e (compare i 0) w hn hn2 (fun W => isnanf (pat i) W (by rw [rung_pat hi.1 hi.2]; omega)) HF (ord0 hi) (by
    rcases Int.lt_or_lt_of_ne h0 with c | c
    · exact .inl ⟨by omega, .inl (Int.compare_eq_lt.2 c)⟩
    · rcases Nat.mod_two_eq_zero_or_one n with k | k
      · exact .inr ⟨k, Int.compare_eq_gt.2 c⟩
      · exact .inl ⟨k, .inr (Int.compare_eq_gt.2 c)⟩) hpt (fun A m c W hu => hroot d _ A m c W hd hu)
end Go.Proofs.YthlmlmfebpjgdaaGreatDoor

namespace Go.Proofs.YthlmlmfebpjgdaaGreatDoor
open Go.RowKit
theorem rti_rng {d a : Int} {n : Nat} (hd : d = -1 ∨ d = 1) (h : -(M : Int) ≤ a ∧ a ≤ M) (hn : 1 ≤ n) (hn2 : n ≤ 1024) : -(M : Int) ≤ rti d a n ∧ rti d a n ≤ M := by
  have hM : (M : Int) = 9218868437227405312 := rfl
  by_cases h0 : a < 0
  · have r := rti_lo (d := -d) (a := -a) (n := n) (by omega) (by omega) (by omega) hn hn2
    unfold rti at *
    rw [if_neg (by omega)] at r
    rw [if_pos h0]; omega
  · have r := rti_lo (d := d) (a := a) (n := n) hd (by omega) h.2 hn hn2
    omega
theorem revroot_any (i : Int) (n : Nat) (w : World) (hi : -(M : Int) ≤ i ∧ i ≤ M) (hn : 1 ≤ n) (hn2 : n ≤ 1024) (hp : n % 2 = 1 ∨ 0 ≤ i) :
    Calls Tryz.prog 105 #[.float .f64 (pat i), .int .i64 (n : Int)] w fun e w' => e = .returned (.agg #[.float .f64 (pat (rti (-1) i n)), .float .f64 (pat (rti 1 i n))]) ∧ Below w.heap.size w w' :=
  revroot_walk _ n _ _ w (fun W => rroot_any (-1) i n W (.inl rfl) hi hn hn2 hp) (fun W => rroot_any 1 i n W (.inr rfl) hi hn hn2 hp)
def tw (i j pd pu qd qu : Int) : Int × Int := (min (ctO false i j pd pu qd qu).1 (ctO false i j (-qu) (-qd) (-pu) (-pd)).1, max (ctO false i j pd pu qd qu).2 (ctO false i j (-qu) (-qd) (-pu) (-pd)).2)
theorem ctO_iv2 {i j pd pu qd qu : Int} (h : Iv i j) (h0 : ¬ j < i) (h1 : -(M : Int) ≤ pd ∧ pd < M) (h2 : -(M : Int) < qu ∧ qu ≤ M) (a : pd ≤ pu) (b : qd ≤ qu) (c : pd ≤ qu) : Iv (ctO false i j pd pu qd qu).1 (ctO false i j pd pu qd qu).2 := by
  have hM : (M : Int) = 9218868437227405312 := rfl
  unfold ctO
  by_cases k : qd < i ∨ j < pu
  · rw [if_pos k]; exact Iv.none
  · rw [if_neg k, if_neg (by rintro ⟨h, -⟩; cases h)]
    have n := ne_or h h0
    unfold Ne at n
    exact .inl ⟨by dsimp only; omega, by dsimp only; omega, by dsimp only; omega, by dsimp only; omega, by dsimp only; omega⟩
theorem twice_any (i j pd pu qd qu : Int) (w : World) (h : Iv i j) (h0 : ¬ j < i) (h1 : -(M : Int) ≤ pd ∧ pd < M) (h2 : -(M : Int) < qu ∧ qu ≤ M) (h3 : -(M : Int) ≤ pu ∧ pu ≤ M) (h4 : -(M : Int) ≤ qd ∧ qd ≤ M) (a : pd ≤ pu) (b : qd ≤ qu) (c : pd ≤ qu) :
    Calls Tryz.prog 104 #[.agg #[.float .f64 (pat i), .float .f64 (pat j)], .agg #[.float .f64 (pat pd), .float .f64 (pat pu)], .agg #[.float .f64 (pat qd), .float .f64 (pat qu)], .bool false] w fun e w' =>
      e = .returned (.agg #[.float .f64 (pat (tw i j pd pu qd qu).1), .float .f64 (pat (tw i j pd pu qd qu).2)]) ∧ Below w.heap.size w w' :=
  twice_walk _ _ _ _ _ _ _ _ _ _ _ _ _ _ _ _ false w (fun W => rcut2_any false i j pd pu qd qu W h.lo h.hi (by omega) h3 h4 (by omega)) (fun W => turned_idx qd qu W h4 (by omega)) (fun W => turned_idx pd pu W (by omega) h3) (fun W => rcut2_any false i j (-qu) (-qd) (-pu) (-pd) W h.lo h.hi (by omega) (by omega) (by omega) (by omega))
    (fun W => hullf _ _ _ _ W (ctO_iv2 h h0 h1 h2 a b c) (ctO_iv2 h h0 (by omega) (by omega) (by omega) (by omega) (by omega)))
noncomputable def pwr (n : Nat) (i2 j2 i j : Int) : Int × Int :=
  if j2 < i2 ∨ j < i ∨ (n % 2 = 0 ∧ j2 < 0) then ((M : Int), -(M : Int))
  else if n % 2 = 0 then tw i j (rti (-1) (max i2 0) n) (rti 1 (max i2 0) n) (rti (-1) j2 n) (rti 1 j2 n)
  else ctO false i j (rti (-1) i2 n) (rti 1 i2 n) (rti (-1) j2 n) (rti 1 j2 n)
theorem pown_any (n c1 c2 x y : Nat) (w : World) (hn : 1 ≤ n) (hn2 : n ≤ 1024) (hc1 : c1 < 18446744073709551616) (hc2 : c2 < 18446744073709551616) (hx : x < 18446744073709551616) (hy : y < 18446744073709551616) :
    Calls Tryz.prog 39 #[.int .i64 (n : Int), .agg #[.float .f64 c1, .float .f64 c2], .agg #[.float .f64 x, .float .f64 y]] w fun e w' =>
      e = .returned (.agg #[.float .f64 (pat (pwr n (rd c1 c2).1 (rd c1 c2).2 (rd x y).1 (rd x y).2).1), .float .f64 (pat (pwr n (rd c1 c2).1 (rd c1 c2).2 (rd x y).1 (rd x y).2).2)]) ∧ Below w.heap.size w w' := by
  have hM : (M : Int) = 9218868437227405312 := rfl
  have v2 := rd_iv c1 c2
  have v3 := rd_iv x y
  have t2 := fun W => readf c1 c2 W hc1 hc2
  have t3 := fun W => readf x y W hx hy
  obtain ⟨⟨i2, j2⟩, r2⟩ : ∃ z, rd c1 c2 = z := ⟨_, rfl⟩
  obtain ⟨⟨i3, j3⟩, r3⟩ : ∃ z, rd x y = z := ⟨_, rfl⟩
  rw [r2] at v2 t2
  rw [r3] at v3 t3
  rw [r2, r3]
  dsimp only at *
  have m2 := em_idx v2
  have m3 := em_idx v3
  unfold pwr
  by_cases hno : j2 < i2 ∨ j3 < i3
  · rw [if_pos (by omega), pat_max, pat_min]
    exact pown_none n _ _ _ _ _ _ _ _ _ _ w t2 m2 t3 m3 hn hn2 (by simp; omega)
  have hnn : (decide (j2 < i2) || decide (j3 < i3)) = false := by simp; omega
  have k2 := ne_or v2 (by omega)
  unfold Ne at k2
  rcases Nat.mod_two_eq_zero_or_one n with hp | hp
  · by_cases h0 : j2 < 0
    · rw [if_pos (by omega), pat_max, pat_min]
      exact pown_neg n _ _ _ _ _ _ _ _ _ _ w t2 m2 t3 m3 hn hn2 hp hnn (ord0_lt v2.hi h0)
    · rw [if_neg (by omega), if_pos hp]
      have hmx := fun W ts t => run_maxf v2.lo (show -(M : Int) ≤ 0 ∧ (0 : Int) ≤ M by omega) W ts t
      rw [pat_zero] at hmx
      have a1 := rti_lo (d := -1) (a := max i2 0) (n := n) (.inl rfl) (by omega) (by omega) hn hn2
      have a2 := rti_lo (d := 1) (a := max i2 0) (n := n) (.inr rfl) (by omega) (by omega) hn hn2
      have b1 := rti_lo (d := -1) (a := j2) (n := n) (.inl rfl) (by omega) (by omega) hn hn2
      have b2 := rti_lo (d := 1) (a := j2) (n := n) (.inr rfl) (by omega) (by omega) hn hn2
      have c1' := rti_mono (a := max i2 0) (b := max i2 0) (n := n) (by omega) (by omega) (by omega) (by omega) hn hn2
      have c3' := rti_mono (a := max i2 0) (b := j2) (n := n) (by omega) (by omega) (by omega) (by omega) hn hn2
      have c2' : rti (-1) j2 n ≤ rti 1 j2 n := by
        by_cases hj : j2 = M
        · have e : rti 1 j2 n = M := by unfold rti rt1; rw [if_neg (by omega), if_pos (.inr hj)]; exact hj
          omega
        · exact rti_mono (by omega) (Int.le_refl _) (by omega) (by omega) hn hn2
      have a3 := a1.2.2 rfl (by omega)
      exact pown_even n _ _ _ _ _ _ _ _ _ _ _ _ _ _ _ (compare j2 0) _ _ w t2 m2 t3 m3 hn hn2 hp hnn (ord0 v2.hi) (by
        by_cases h : j2 = 0
        · exact .inl (Int.compare_eq_eq.2 h)
        · exact .inr (Int.compare_eq_gt.2 (by omega))) hmx (fun W => revroot_any (max i2 0) n W (by omega) hn hn2 (.inr (by omega))) (fun W => revroot_any j2 n W v2.hi hn hn2 (.inr (by omega)))
        (fun W => twice_any i3 j3 _ _ _ _ W v3 (by omega) (by omega) (by omega) (by omega) (by omega) c1' c2' c3')
  · rw [if_neg (by omega), if_neg (by omega)]
    exact pown_odd n _ _ _ _ _ _ _ _ _ _ _ _ _ _ _ _ w t2 m2 t3 m3 hn hn2 hp hnn (fun W => revroot_any i2 n W v2.lo hn hn2 (.inl hp)) (fun W => revroot_any j2 n W v2.hi hn hn2 (.inl hp))
      (fun W => rcut2_any false i3 j3 _ _ _ _ W v3.lo v3.hi (rti_rng (.inl rfl) v2.lo hn hn2) (rti_rng (.inr rfl) v2.lo hn hn2) (rti_rng (.inl rfl) v2.hi hn hn2) (rti_rng (.inr rfl) v2.hi hn hn2))
theorem sqrrev_any (c1 c2 x y : Nat) (w : World) (hc1 : c1 < 18446744073709551616) (hc2 : c2 < 18446744073709551616) (hx : x < 18446744073709551616) (hy : y < 18446744073709551616) :
    Calls Tryz.prog 14 #[.agg #[.float .f64 c1, .float .f64 c2], .agg #[.float .f64 x, .float .f64 y]] w fun e w' =>
      e = .returned (.agg #[.float .f64 (pat (pwr 2 (rd c1 c2).1 (rd c1 c2).2 (rd x y).1 (rd x y).2).1), .float .f64 (pat (pwr 2 (rd c1 c2).1 (rd c1 c2).2 (rd x y).1 (rd x y).2).2)]) ∧ Below w.heap.size w w' :=
  sqr_walk _ _ _ _ _ _ w (fun W => pown_any 2 c1 c2 x y W (by omega) (by omega) hc1 hc2 hx hy)
end Go.Proofs.YthlmlmfebpjgdaaGreatDoor

namespace Go.Proofs.YthlmlmfebpjgdaaGreatDoor
open Go.RowKit
theorem rep_dvd {n : Int} {k : Nat} (h : Rep n) (hn : 2^(52 + k) ≤ n.natAbs) : (2 : Int)^k ∣ n := by
  obtain ⟨q, j, hq, e⟩ := rep_iff.1 h
  have hj : k ≤ j := by
    apply Nat.le_of_not_lt
    intro hlt
    have h1 : q * 2^j < 2^53 * 2^j := Nat.mul_lt_mul_of_pos_right hq (Nat.two_pow_pos j)
    have h2 : 2^53 * 2^j ≤ 2^(52 + k) := by rw [← Nat.pow_add]; exact Nat.pow_le_pow_right (by omega) (by omega)
    rw [e] at hn
    exact absurd (Nat.lt_of_lt_of_le h1 (Nat.le_trans h2 hn)) (Nat.lt_irrefl _)
  exact Int.dvd_trans (pow_dvd_le hj) (dvd_of_natAbs e)
theorem R_err {n : Int} (k : Nat) (h : n.natAbs ≤ 2^53 * 2^k) : 2 * (n - R n).natAbs ≤ 2^k := by
  have hK : 0 < 2^k := Nat.two_pow_pos k
  have hKi : ((2^k : Nat) : Int) = (2 : Int)^k := by rw [Int.natCast_pow]; rfl
  have hd : n = (2 : Int)^k * (n / (2 : Int)^k) + n % (2 : Int)^k := (Int.mul_ediv_add_emod n _).symm
  have hb0 : 0 ≤ n % (2 : Int)^k := Int.emod_nonneg _ (by omega)
  have hb1 : n % (2 : Int)^k < (2 : Int)^k := Int.emod_lt_of_pos _ (by omega)
  generalize n / (2 : Int)^k = a at hd
  generalize n % (2 : Int)^k = b at hd hb0 hb1
  have rp : ∀ c : Int, c.natAbs ≤ 2^53 → Rep ((2 : Int)^k * c) := fun c hc => rep_of_dvd k (Int.dvd_mul_right _ _) (by
    rw [Int.natAbs_mul, Int.natAbs_pow, Nat.mul_comm]
    exact Nat.mul_le_mul_right _ hc)
  have c1 : a ≤ 2^53 := by
    apply Int.le_of_not_gt; intro hlt
    have h1 : (2 : Int)^k * (2^53 + 1) ≤ (2 : Int)^k * a := Int.mul_le_mul_of_nonneg_left (by omega) (by omega)
    have h2 : (n.natAbs : Int) ≤ 2^53 * 2^k := by exact_mod_cast h
    have h3 : (2 : Int)^k * (2^53 + 1) = 2^53 * 2^k + 2^k := by rw [Int.mul_add, Int.mul_one, Int.mul_comm]
    omega
  have c2 : -2^53 ≤ a := by
    apply Int.le_of_not_gt; intro hlt
    have h1 : (2 : Int)^k * a ≤ (2 : Int)^k * (-2^53 - 1) := Int.mul_le_mul_of_nonneg_left (by omega) (by omega)
    have h2 : (n.natAbs : Int) ≤ 2^53 * 2^k := by exact_mod_cast h
    have h3 : (2 : Int)^k * (-2^53 - 1) = -(2^53 * 2^k) - 2^k := by rw [Int.mul_sub, Int.mul_one, Int.mul_comm, Int.neg_mul]
    omega
  have n1 := R_nearest (n := n) (rp a (by omega))
  by_cases hb : b = 0
  · have e : n - (2 : Int)^k * a = 0 := by omega
    rw [e] at n1
    simp at n1
    omega
  · have c3 : a + 1 ≤ 2^53 := by
      apply Int.le_of_not_gt; intro hlt
      have ea : a = 2^53 := by omega
      have h2 : (n.natAbs : Int) ≤ 2^53 * 2^k := by exact_mod_cast h
      have h3 : (2 : Int)^k * a = 2^53 * 2^k := by rw [ea, Int.mul_comm]
      omega
    have n2 := R_nearest (n := n) (rp (a + 1) (by omega))
    rw [Int.mul_add, Int.mul_one] at n2
    omega
theorem R_ge {n : Int} {t : Nat} (h : 2^t ≤ n.natAbs) : 2^t ≤ (R n).natAbs := by
  have h0 : ((2^t : Nat) : Int) = (2 : Int)^t := by rw [Int.natCast_pow]; rfl
  rcases Int.lt_or_le n 0 with hn | hn
  · have h1 : R n ≤ -(2 : Int)^t := R_le (rep_two_pow t).neg (by omega)
    omega
  · have h1 : (2 : Int)^t ≤ R n := le_R (rep_two_pow t) (by omega)
    omega
theorem cut_pos {m : Int} (h1 : 2^52 ≤ m) (h2 : m < 2^53) :
    ∃ q l : Int, R (R (134217729 * m) - R (R (134217729 * m) - m)) = 2^27 * q ∧ m = 2^27 * q + l ∧ q.natAbs ≤ 2^26 ∧ l.natAbs ≤ 2^26 := by
  have d1 : (2 : Int)^27 ∣ R (134217729 * m) := rep_dvd (R_rep _) (R_ge (t := 52 + 27) (by omega))
  have e1 := R_err (n := 134217729 * m) 28 (by omega)
  have e2 : 134217729 * m ≤ 2^80 → 2 * (134217729 * m - R (134217729 * m)).natAbs ≤ 2^27 := fun h => R_err 27 (by omega)
  have e3 : m = 2^52 → R (134217729 * m) = 134217729 * m := fun h => R_of_rep (rep_of_dvd 27 ⟨2^52 + 2^25, by omega⟩ (by omega))
  generalize R (134217729 * m) = t at *
  have b1 : 2^79 ≤ t - m := by
    by_cases hm : m = 2^52
    · have := e3 hm; omega
    · by_cases hc : 134217729 * m ≤ 2^80
      · have := e2 hc; omega
      · omega
  have b2 : t - m ≤ 2^80 := by omega
  have d2 : (2 : Int)^27 ∣ R (t - m) := rep_dvd (R_rep _) (R_ge (t := 52 + 27) (by omega))
  have e4 := R_err (n := t - m) 27 (by omega)
  generalize R (t - m) = u at *
  obtain ⟨q, hq⟩ := Int.dvd_sub d1 d2
  have hR : R (t - u) = t - u := R_of_rep (rep_of_dvd 27 (Int.dvd_sub d1 d2) (by omega))
  refine ⟨q, m - 2^27 * q, by rw [hR, hq], by omega, by omega, by omega⟩
theorem dcut_any {m : Int} (h1 : 2^52 ≤ m.natAbs) (h2 : m.natAbs < 2^53) :
    ∃ q l : Int, R (R (134217729 * m) - R (R (134217729 * m) - m)) = 2^27 * q ∧ m = 2^27 * q + l ∧ q.natAbs ≤ 2^26 ∧ l.natAbs ≤ 2^26 := by
  rcases Int.lt_or_le m 0 with hm | hm
  · obtain ⟨q, l, a, b, c, d⟩ := cut_pos (m := -m) (by omega) (by omega)
    refine ⟨-q, -l, ?_, by omega, by omega, by omega⟩
    rw [show (134217729 : Int) * -m = -(134217729 * m) from by omega, R_neg, show -R (134217729 * m) - -m = -(R (134217729 * m) - m) from by omega, R_neg,
      show -R (134217729 * m) - -R (R (134217729 * m) - m) = -(R (134217729 * m) - R (R (134217729 * m) - m)) from by omega, R_neg] at a
    omega
  · exact cut_pos (by omega) (by omega)
theorem missed_at {m n q l q' l' : Int} (m1 : 2^52 ≤ m.natAbs) (m2 : m.natAbs < 2^53) (n1 : 2^52 ≤ n.natAbs) (n2 : n.natAbs < 2^53) (em : m = 2^27 * q + l) (en : n = 2^27 * q' + l') (hq : q.natAbs ≤ 2^26) (hl : l.natAbs ≤ 2^26) (hq' : q'.natAbs ≤ 2^26) (hl' : l'.natAbs ≤ 2^26) :
    Rep ((2^27 * q) * (2^27 * q')) ∧ Rep ((2^27 * q) * l') ∧ Rep (l * (2^27 * q')) ∧ Rep (l * l') ∧
    Rep ((2^27 * q) * (2^27 * q') - R (m * n)) ∧ Rep ((2^27 * q) * (2^27 * q') - R (m * n) + (2^27 * q) * l') ∧ Rep ((2^27 * q) * (2^27 * q') - R (m * n) + (2^27 * q) * l' + l * (2^27 * q')) ∧
    (2^27 * q) * (2^27 * q') - R (m * n) + (2^27 * q) * l' + l * (2^27 * q') + l * l' = m * n - R (m * n) ∧ Rep (m * n - R (m * n)) ∧ (2 * (m * n - R (m * n)).natAbs ≤ 2^53) := by
  have p1 : (m * n).natAbs < 2^106 := by
    rw [Int.natAbs_mul]
    calc m.natAbs * n.natAbs < 2^53 * 2^53 := Nat.mul_lt_mul_of_lt_of_lt m2 n2
      _ = 2^106 := rfl
  have p2 : 2^104 ≤ (m * n).natAbs := by
    rw [Int.natAbs_mul]
    calc 2^104 = 2^52 * 2^52 := rfl
      _ ≤ m.natAbs * n.natAbs := Nat.mul_le_mul m1 n1
  have bd : ∀ a b : Int, a.natAbs ≤ 2^26 → b.natAbs ≤ 2^26 → (a * b).natAbs ≤ 2^52 := fun a b ha hb => by
    rw [Int.natAbs_mul]; exact Nat.le_trans (Nat.mul_le_mul ha hb) (by decide)
  have z1 := bd _ _ hq hq'
  have z2 := bd _ _ hq hl'
  have z3 := bd _ _ hl hq'
  have z4 := bd _ _ hl hl'
  have err := R_err (n := m * n) 53 (by omega)
  have dv : (2 : Int)^52 ∣ R (m * n) := rep_dvd (R_rep _) (R_ge (t := 52 + 52) p2)
  have f1 : (2^27 * q) * (2^27 * q') = 2^54 * (q * q') := by grind
  have f2 : (2^27 * q) * l' = 2^27 * (q * l') := by grind
  have f3 : l * (2^27 * q') = 2^27 * (l * q') := by grind
  have f4 : m * n = 2^54 * (q * q') + 2^27 * (q * l') + 2^27 * (l * q') + l * l' := by rw [em, en]; grind
  rw [f1, f2, f3]
  generalize q * q' = Z1 at *
  generalize q * l' = Z2 at *
  generalize l * q' = Z3 at *
  generalize l * l' = Z4 at *
  generalize R (m * n) = P at *
  generalize m * n = N at *
  obtain ⟨P', rfl⟩ := dv
  clear f1 f2 f3 bd em en
  refine ⟨rep_of_dvd 54 (Int.dvd_mul_right _ _) (by omega), rep_of_dvd 27 (Int.dvd_mul_right _ _) (by omega), rep_of_dvd 27 (Int.dvd_mul_right _ _) (by omega), rep_of_dvd 0 (Int.one_dvd _) (by omega), rep_of_dvd 52 ⟨4 * Z1 - P', by omega⟩ (by omega), rep_of_dvd 27 ⟨2^27 * Z1 - 2^25 * P' + Z2, by omega⟩ (by omega), rep_of_dvd 0 (Int.one_dvd _) (by omega), by omega, rep_of_dvd 0 (Int.one_dvd _) (by omega), err⟩
theorem nearRung_scale (n d : Nat) : nearRung (n * 2^d) d = nearRung n 0 := by
  unfold nearRung
  rw [Nat.mul_div_cancel _ (Nat.two_pow_pos d), Nat.pow_zero, Nat.div_one, bump_shift, Nat.zero_add]
theorem near_scale (n : Int) (d : Nat) : near (n * 2^d) d = near n 0 := by
  have hp : (0 : Int) < 2^d := by exact_mod_cast Nat.two_pow_pos d
  have e : (n * 2^d).natAbs = n.natAbs * 2^d := by rw [Int.natAbs_mul, Int.natAbs_pow]; rfl
  unfold near
  rw [e, nearRung_scale]
  by_cases h : n < 0
  · rw [if_pos h, if_pos (Int.mul_neg_of_neg_of_pos h hp)]
  · rw [if_neg h, if_neg (by have := Int.mul_nonneg (show 0 ≤ n by omega) (Int.le_of_lt hp); omega)]
theorem mag_nearRung_fine {n d : Nat} (h : 2^(53 + d) ≤ n) : mag (nearRung n d) * 2^d = mag (nearRung n 0) := by
  have h0 : n ≠ 0 := by have := Nat.two_pow_pos (53 + d); omega
  have hl : 53 + d ≤ n.log2 := (Nat.le_log2 h0).2 h
  have eo : over n = over (n / 2^d) + d := by unfold over; rw [log2_div_pow]; omega
  have hk := over_spec (n / 2^d)
  rw [mag_nearRung]
  unfold nearRung floorRung
  obtain ⟨o, ho⟩ : ∃ o, over (n / 2^d) = o := ⟨_, rfl⟩
  rw [ho] at eo hk
  rw [ho, eo, div_div_pow] at *
  have hb : (bump n (d + o)).toNat ≤ 1 := Bool.toNat_le _
  rw [Nat.add_assoc, mag_form o _ (by omega) (by omega), Nat.mul_assoc, ← Nat.pow_add, Nat.add_comm d o]
theorem near_fine {n : Int} {d : Nat} (h : 2^(53 + d) ≤ n.natAbs) (hM : -(M : Int) < near n d ∧ near n d < M) : val (near n d) * 2^d = R n := by
  have h1 := near_natAbs n d
  have h2 : min (nearRung n.natAbs d) M = nearRung n.natAbs d := by omega
  have h3 := mag_nearRung_fine h
  unfold near R
  rw [h2]
  split
  · rw [val_neg, val_nat, Int.neg_mul]
    congr 1
    exact_mod_cast h3
  · rw [val_nat]
    exact_mod_cast h3
end Go.Proofs.YthlmlmfebpjgdaaGreatDoor

namespace Go.Proofs.YthlmlmfebpjgdaaGreatDoor
open Go.RowKit Ieee
theorem inf_word {x : Nat} (hx : x < 18446744073709551616) (h : rungOf x = M) : double.write (.infinity (sgn x)) = x := by
  show double.word (sgn x) double.infRung = x
  rw [infRung_eq]
  have h1 := Is.word (sgn x) (r := M) (Nat.le_refl _)
  have h2 := pat_cases (b := double.word (sgn x) M) (by have := h1.lt; omega)
  have h3 := pat_cases hx
  have h4 := h1.idx
  obtain ⟨b, hb⟩ : ∃ b, double.word (sgn x) M = b := ⟨_, rfl⟩
  rw [hb] at h2 h4 ⊢
  rw [M_val] at h h4
  rcases h3 with ⟨a, b1, c, d⟩ | ⟨a, b1, c, d⟩
  · rw [c] at h4
    simp only [Bool.false_eq_true, if_false] at h4
    omega
  · rw [c] at h4
    simp only [if_true] at h4
    omega
def ad (d i j : Int) : Int := if i = M ∨ i = -(M : Int) then i else if j = M ∨ j = -(M : Int) then j else rndI d (fl i + fl j)
theorem not_great {x t T : Nat} (h : rungOf x ≤ (t + 1) * 2^52) (hT : T = 52 + t) : (val (idx x)).natAbs ≤ 2^T := by
  rw [val_natAbs, idx_natAbs]
  have h1 : mag (rungOf x) ≤ mag ((t + 1) * 2^52) := mag_le_iff.2 h
  rw [mag_two_pow, ← Nat.pow_add] at h1
  rw [hT]; exact h1
theorem Fl_self {x : Nat} (hx : x < 18446744073709551616) (h : rungOf x < M) : Fl x (val (idx x)) := ⟨hx, h, rfl⟩
end Go.Proofs.YthlmlmfebpjgdaaGreatDoor

namespace Go.Proofs.YthlmlmfebpjgdaaGreatDoor
open Go.RowKit
theorem near_R2 {n : Int} {Q : Nat} (hQ : Q ≤ 2090) (h : n.natAbs ≤ 2^Q) : val (near n 0) = R n ∧ -(M : Int) < near n 0 ∧ near n 0 < M := by
  have hM : M = 2047 * 2^52 := rfl
  obtain ⟨r, hr⟩ : ∃ r, mag r = 2^Q * 2^0 ∧ r < M := by
    by_cases hq : Q < 52
    · have h1 : 2^Q < 2^52 := Nat.pow_lt_pow_right (by omega) hq
      exact ⟨2^Q, by rw [mag_small h1, Nat.pow_zero, Nat.mul_one], by omega⟩
    · obtain ⟨t, rfl⟩ : ∃ t, Q = 52 + t := ⟨Q - 52, by omega⟩
      refine ⟨(t + 1) * 2^52, by rw [mag_two_pow, Nat.pow_zero, Nat.mul_one, Nat.pow_add], ?_⟩
      have : (t + 1) * 2^52 ≤ 2040 * 2^52 := Nat.mul_le_mul_right _ (by omega)
      omega
  have h1 : nearRung n.natAbs 0 ≤ r := nearRung_le (by rw [Nat.pow_zero, Nat.mul_one]; rw [Nat.pow_zero, Nat.mul_one] at hr; rw [hr.1]; exact h)
  have h2 : min (nearRung n.natAbs 0) M = nearRung n.natAbs 0 := by omega
  unfold near R
  rw [h2]
  refine ⟨?_, by split <;> omega, by split <;> omega⟩
  split
  · rw [val_neg, val_nat]
  · rw [val_nat]
theorem Fl.of_is2 {b : Nat} {n : Int} {Q : Nat} (hQ : Q ≤ 2090) (h : Is b (near n 0)) (hn : n.natAbs ≤ 2^Q) : Fl b (R n) := by
  obtain ⟨h1, h2, h3⟩ := near_R2 hQ hn
  refine ⟨h.lt, ?_, by rw [h.idx, h1]⟩
  have := idx_natAbs b
  rw [h.idx] at this
  show rungOf b < M
  omega
theorem Fl.add2 {x y : Nat} {m n : Int} {Q : Nat} (hQ : Q ≤ 2090) (hx : Fl x m) (hy : Fl y n) (h : (m + n).natAbs ≤ 2^Q) : ∃ r, FloatKind.f64.format.add x y = some r ∧ Fl r (R (m + n)) := by
  obtain ⟨r, h1, h2⟩ := add_fin hx.fin hy.fin
  rw [hx.val, hy.val] at h2
  exact ⟨r, h1, Fl.of_is2 hQ h2 h⟩
theorem Fl.sub2 {x y : Nat} {m n : Int} {Q : Nat} (hQ : Q ≤ 2090) (hx : Fl x m) (hy : Fl y n) (h : (m - n).natAbs ≤ 2^Q) : ∃ r, FloatKind.f64.format.sub x y = some r ∧ Fl r (R (m - n)) := by
  obtain ⟨r, h1, h2⟩ := sub_fin hx.fin hy.fin
  rw [hx.val, hy.val] at h2
  exact ⟨r, h1, Fl.of_is2 hQ h2 h⟩
theorem Fl.mul_at {x y : Nat} {m n Z : Int} {Q U : Nat} (hQ : Q ≤ 2090) (hU : U = 1074) (hx : Fl x m) (hy : Fl y n) (hz : m * n = Z * 2^U) (h : Z.natAbs ≤ 2^Q) : ∃ r, FloatKind.f64.format.mul x y = some r ∧ Fl r (R Z) := by
  obtain ⟨r, h1, h2⟩ := mul_fin hx.fin hy.fin
  subst hU
  rw [hx.val, hy.val, hz, near_scale] at h2
  exact ⟨r, h1, Fl.of_is2 hQ h2 h⟩
theorem Rep.shift {n : Int} (h : Rep n) (k : Nat) : Rep (n * 2^k) := by
  have e := R_shift n k
  rw [R_of_rep h] at e
  rw [← e]; exact R_rep _
theorem cut_const {U : Nat} (hU : U = 1074) : Fl 4728779608772575232 (134217729 * 2^U) := by
  have h0 : rungOf 4728779608772575232 = 1049 * 2^52 + (2^52 + 2^25) := by decide
  refine ⟨by decide, by unfold fin; rw [h0]; decide, ?_⟩
  have h1 : idx 4728779608772575232 = ((1049 * 2^52 + (2^52 + 2^25) : Nat) : Int) := by decide
  rw [h1, val_nat, mag_form 1049 (2^52 + 2^25) (by omega) (by omega)]
  obtain ⟨u, hu⟩ : ∃ u : Nat, u = 1049 := ⟨_, rfl⟩
  rw [← hu, show U = 25 + u from by omega, Int.natCast_mul, Int.natCast_pow, show ((2^52 + 2^25 : Nat) : Int) = 134217729 * 2^25 from by decide, show ((2 : Nat) : Int) = 2 from rfl, Int.pow_add, Int.mul_assoc]
theorem quick_half {x : Nat} {m : Int} {a T U : Nat} (hT : T ≤ 2000) (hU : U = 1074) (hx : Fl x (m * 2^a)) (h1 : 2^52 ≤ m.natAbs) (h2 : m.natAbs < 2^53) (hb : (m * 2^a).natAbs ≤ 2^T) :
    ∃ t u h l : Nat, ∃ q v : Int, FloatKind.f64.format.mul 4728779608772575232 x = some t ∧ FloatKind.f64.format.sub t x = some u ∧ FloatKind.f64.format.sub t u = some h ∧ FloatKind.f64.format.sub x h = some l ∧
      Fl h (2^27 * q * 2^a) ∧ Fl l (v * 2^a) ∧ m = 2^27 * q + v ∧ q.natAbs ≤ 2^26 ∧ v.natAbs ≤ 2^26 := by
  obtain ⟨q, v, e1, e2, hq, hv⟩ := dcut_any h1 h2
  have p1 : 2^(T + 28) = 268435456 * 2^T := by rw [Nat.pow_add, Nat.mul_comm]
  have p2 : 2^(T + 32) = 4294967296 * 2^T := by rw [Nat.pow_add, Nat.mul_comm]
  have hQ : T + 32 ≤ 2090 := by omega
  have s1 : (134217729 : Int) * (m * 2^a) = 134217729 * m * 2^a := by rw [Int.mul_assoc]
  have b0 : (134217729 * (m * 2^a) : Int).natAbs ≤ 2^(T + 28) := by
    rw [Int.natAbs_mul, p1, show (134217729 : Int).natAbs = 134217729 from rfl]; omega
  obtain ⟨t, g1, f1⟩ := Fl.mul_at (Q := T + 32) hQ hU (cut_const hU) hx (Z := 134217729 * (m * 2^a)) (by rw [Int.mul_assoc, Int.mul_comm (2^U), ← Int.mul_assoc]) (by omega)
  have b1 := R_bound b0
  obtain ⟨u, g2, f2⟩ := Fl.sub2 (Q := T + 32) hQ f1 hx (by omega)
  have b2 : (R (R (134217729 * (m * 2^a)) - m * 2^a)).natAbs ≤ 2^(T + 29) := R_bound (by rw [show 2^(T + 29) = 536870912 * 2^T from by rw [Nat.pow_add, Nat.mul_comm]]; omega)
  have p3 : 2^(T + 29) = 536870912 * 2^T := by rw [Nat.pow_add, Nat.mul_comm]
  obtain ⟨h, g3, f3⟩ := Fl.sub2 (Q := T + 32) hQ f1 f2 (by omega)
  have eh : R (R (134217729 * (m * 2^a)) - R (R (134217729 * (m * 2^a)) - m * 2^a)) = 2^27 * q * 2^a := by
    rw [s1, R_shift, ← Int.sub_mul, R_shift, ← Int.sub_mul, R_shift, e1]
  have b3 := R_bound (n := R (134217729 * (m * 2^a)) - R (R (134217729 * (m * 2^a)) - m * 2^a)) (t := T + 30) (by rw [show 2^(T + 30) = 1073741824 * 2^T from by rw [Nat.pow_add, Nat.mul_comm]]; omega)
  have p4 : 2^(T + 30) = 1073741824 * 2^T := by rw [Nat.pow_add, Nat.mul_comm]
  rw [eh] at f3 b3
  obtain ⟨l, g4, f4⟩ := Fl.sub2 (Q := T + 32) hQ hx f3 (by omega)
  have el : m * 2^a - 2^27 * q * 2^a = v * 2^a := by rw [← Int.sub_mul, show m - 2^27 * q = v from by omega]
  have rv : Rep v := rep_of_dvd 0 ⟨v, by rw [Int.pow_zero, Int.one_mul]⟩ (by rw [Nat.pow_zero, Nat.mul_one]; exact Nat.le_trans hv (by decide))
  rw [el, R_of_rep (rv.shift a)] at f4
  exact ⟨t, u, h, l, q, v, g1, g2, g3, g4, f3, f4, e2, hq, hv⟩
theorem quick_mul {x y p : Nat} {m n : Int} {a b U T : Nat} (hU : U = 1074) (hT : T = 1974) (hx : Fl x (m * 2^a)) (m1 : 2^52 ≤ m.natAbs) (m2 : m.natAbs < 2^53) (bx : (m * 2^a).natAbs ≤ 2^T) (hy : Fl y (n * 2^b)) (n1 : 2^52 ≤ n.natAbs) (n2 : n.natAbs < 2^53) (by_ : (n * 2^b).natAbs ≤ 2^T)
    (hp : FloatKind.f64.format.mul x y = some p) (hf : fin p) (bp : (val (idx p)).natAbs ≤ 2^T) (hab : U ≤ a + b) :
    ∃ xt xu xh xl yt yu yh yl z1 e0 z2 e1 z3 e2 z4 e : Nat, FloatKind.f64.format.mul 4728779608772575232 x = some xt ∧ FloatKind.f64.format.sub xt x = some xu ∧ FloatKind.f64.format.sub xt xu = some xh ∧ FloatKind.f64.format.sub x xh = some xl ∧
      FloatKind.f64.format.mul 4728779608772575232 y = some yt ∧ FloatKind.f64.format.sub yt y = some yu ∧ FloatKind.f64.format.sub yt yu = some yh ∧ FloatKind.f64.format.sub y yh = some yl ∧
      FloatKind.f64.format.mul xh yh = some z1 ∧ FloatKind.f64.format.sub z1 p = some e0 ∧ FloatKind.f64.format.mul xh yl = some z2 ∧ FloatKind.f64.format.add e0 z2 = some e1 ∧
      FloatKind.f64.format.mul xl yh = some z3 ∧ FloatKind.f64.format.add e1 z3 = some e2 ∧ FloatKind.f64.format.mul xl yl = some z4 ∧ FloatKind.f64.format.add e2 z4 = some e ∧
      ∃ N : Int, (m * 2^a) * (n * 2^b) = N * 2^U ∧ Fl p (R N) ∧ Fl e (N - R N) := by
  obtain ⟨s, hs⟩ : ∃ s, a + b = s + U := ⟨a + b - U, by omega⟩
  have scale : ∀ A B : Int, (A * 2^a) * (B * 2^b) = A * B * 2^s * 2^U := fun A B => by
    rw [Int.mul_assoc (A * B), ← Int.pow_add, ← hs, Int.pow_add]; ac_rfl
  obtain ⟨xt, xu, xh, xl, q, l, x1, x2, x3, x4, fxh, fxl, em, hq, hl⟩ := quick_half (T := T) (by omega) hU hx m1 m2 bx
  obtain ⟨yt, yu, yh, yl, q', l', y1, y2, y3, y4, fyh, fyl, en, hq', hl'⟩ := quick_half (T := T) (by omega) hU hy n1 n2 by_
  obtain ⟨r1, r2, r3, r4, r5, r6, r7, r8, r9, -⟩ := missed_at m1 m2 n1 n2 em en hq hl hq' hl'
  have big : 2^104 ≤ (m * n).natAbs := by
    rw [Int.natAbs_mul]
    exact Nat.le_trans (by decide : 2^104 ≤ 2^52 * 2^52) (Nat.mul_le_mul m1 n1)
  -- p
  have ep : val (idx p) = R (m * n) * 2^s := by
    obtain ⟨p', hp', hi⟩ := mul_fin hx.fin hy.fin
    obtain rfl : p' = p := Option.some.inj (hp'.symm.trans hp)
    rw [hx.val, hy.val, ← hU, scale, near_scale] at hi
    have h1 := idx_natAbs p'
    have hff : rungOf p' < M := hf
    have h2 := near_fine (n := m * n * 2^s) (d := 0) (by
      rw [Int.natAbs_mul, Int.natAbs_pow]
      calc 2^(53 + 0) ≤ 2^104 * 1 := by decide
        _ ≤ _ := Nat.mul_le_mul big (Nat.two_pow_pos s)) (by rw [← hi.idx]; omega)
    rw [Int.pow_zero, Int.mul_one, R_shift] at h2
    rw [hi.idx, h2]
  have fp : Fl p (R (m * n) * 2^s) := ⟨by
    obtain ⟨p', hp', hi⟩ := mul_fin hx.fin hy.fin
    obtain rfl : p' = p := Option.some.inj (hp'.symm.trans hp)
    exact hi.lt, hf, ep⟩
  rw [ep] at bp
  -- sizes: all parts are below 2^(T + 6)
  have sz : ∀ A : Int, A.natAbs ≤ 2^110 → (A * 2^s).natAbs ≤ 2^(T + 6) := fun A hA => by
    have h1 : 2^104 ≤ (R (m * n)).natAbs := R_ge big
    rw [Int.natAbs_mul, Int.natAbs_pow] at bp ⊢
    have h2 : 2^104 * 2^s ≤ 2^T := Nat.le_trans (Nat.mul_le_mul_right _ h1) bp
    have h3 : s + 104 ≤ T := by
      apply Nat.le_of_not_lt; intro hlt
      rw [← Nat.pow_add] at h2
      have := (Nat.pow_le_pow_iff_right (by omega : 1 < 2)).1 h2
      omega
    calc A.natAbs * 2^s ≤ 2^110 * 2^(T - 104) := Nat.mul_le_mul hA (Nat.pow_le_pow_right (by omega) (by omega))
      _ ≤ 2^(T + 6) := by rw [← Nat.pow_add]; exact Nat.pow_le_pow_right (by omega) (by omega)
  have bd : ∀ A B : Int, A.natAbs ≤ 2^53 → B.natAbs ≤ 2^53 → (A * B).natAbs ≤ 2^106 := fun A B hA hB => by
    rw [Int.natAbs_mul]; exact Nat.le_trans (Nat.mul_le_mul hA hB) (by decide)
  have k1 := bd (2^27 * q) (2^27 * q') (by omega) (by omega)
  have k2 := bd (2^27 * q) l' (by omega) (by omega)
  have k3 := bd l (2^27 * q') (by omega) (by omega)
  have k4 := bd l l' (by omega) (by omega)
  have k5 : (R (m * n)).natAbs ≤ 2^106 := R_bound (bd m n (by omega) (by omega))
  obtain ⟨z1, c1, f1⟩ := Fl.mul_at (Q := T + 6) (by omega) hU fxh fyh (scale _ _) (sz _ (by omega))
  rw [R_of_rep (r1.shift s)] at f1
  obtain ⟨e0, c2, f2⟩ := Fl.sub2 (Q := T + 6) (by omega) f1 fp (by rw [← Int.sub_mul]; exact sz _ (by omega))
  rw [← Int.sub_mul, R_of_rep (r5.shift s)] at f2
  obtain ⟨z2, c3, f3⟩ := Fl.mul_at (Q := T + 6) (by omega) hU fxh fyl (scale _ _) (sz _ (by omega))
  rw [R_of_rep (r2.shift s)] at f3
  obtain ⟨e1, c4, f4⟩ := Fl.add2 (Q := T + 6) (by omega) f2 f3 (by rw [← Int.add_mul]; exact sz _ (by omega))
  rw [← Int.add_mul, R_of_rep (r6.shift s)] at f4
  obtain ⟨z3, c5, f5⟩ := Fl.mul_at (Q := T + 6) (by omega) hU fxl fyh (scale _ _) (sz _ (by omega))
  rw [R_of_rep (r3.shift s)] at f5
  obtain ⟨e2, c6, f6⟩ := Fl.add2 (Q := T + 6) (by omega) f4 f5 (by rw [← Int.add_mul]; exact sz _ (by omega))
  rw [← Int.add_mul, R_of_rep (r7.shift s)] at f6
  obtain ⟨z4, c7, f7⟩ := Fl.mul_at (Q := T + 6) (by omega) hU fxl fyl (scale _ _) (sz _ (by omega))
  rw [R_of_rep (r4.shift s)] at f7
  obtain ⟨e, c8, f8⟩ := Fl.add2 (Q := T + 6) (by omega) f6 f7 (by rw [← Int.add_mul]; exact sz _ (by omega))
  rw [← Int.add_mul, r8, R_of_rep (r9.shift s)] at f8
  refine ⟨xt, xu, xh, xl, yt, yu, yh, yl, z1, e0, z2, e1, z3, e2, z4, e, x1, x2, x3, x4, y1, y2, y3, y4, c1, c2, c3, c4, c5, c6, c7, c8, m * n * 2^s, scale _ _, ?_, ?_⟩
  · rw [R_shift]; exact fp
  · rw [R_shift, ← Int.sub_mul]; exact f8
theorem middle_form {x T L : Nat} (hT : T = 1974) (hL : L = 174) (hx : x < 18446744073709551616) (h1 : 553942754166571008 ≤ rungOf x) (h2 : rungOf x ≤ 8660422083433463808) :
    ∃ (m : Int) (a : Nat), Fl x (m * 2^a) ∧ 2^52 ≤ m.natAbs ∧ m.natAbs < 2^53 ∧ (m * 2^a).natAbs ≤ 2^T ∧ 2^L ≤ (m * 2^a).natAbs := by
  have hM : M = 9218868437227405312 := rfl
  obtain ⟨k, q, e, hk, hq⟩ := rung_form (rungOf x)
  have hf := Fl_self hx (by omega)
  have hmag : mag (rungOf x) = q * 2^k := by rw [e]; exact mag_form k q hk (by omega)
  have hlo : mag ((122 + 1) * 2^52) ≤ mag (rungOf x) := mag_le_iff.2 (by omega)
  have hhi := not_great (x := x) (t := 1922) (T := T) (by omega) (by omega)
  rw [mag_two_pow, ← Nat.pow_add, show 52 + 122 = L from by omega] at hlo
  have hv : (val (idx x)).natAbs = q * 2^k := by rw [val_natAbs, idx_natAbs, hmag]
  have q0 : 2^52 ≤ q := by omega
  have lo : 2^L ≤ q * 2^k := by rw [← hmag]; exact hlo
  rcases Int.lt_or_le (val (idx x)) 0 with hn | hn
  · have ev : val (idx x) = (-(q : Int)) * 2^k := by
      have : ((q * 2^k : Nat) : Int) = (q : Int) * 2^k := by push_cast; rfl
      rw [Int.neg_mul]; omega
    rw [ev] at hf hv hhi
    exact ⟨-(q : Int), k, hf, by omega, by omega, hhi, by rw [hv]; exact lo⟩
  · have ev : val (idx x) = (q : Int) * 2^k := by
      have : ((q * 2^k : Nat) : Int) = (q : Int) * 2^k := by push_cast; rfl
      omega
    rw [ev] at hf hv hhi
    exact ⟨(q : Int), k, hf, by omega, by omega, hhi, by rw [hv]; exact lo⟩
end Go.Proofs.YthlmlmfebpjgdaaGreatDoor

namespace Go.Proofs.YthlmlmfebpjgdaaGreatDoor
open Go.RowKit Ieee
theorem nud_n {d : Int} (hd : d = -1 ∨ d = 1) {s e : Nat} {n : Int} (hs : Fl s (R n)) (he : Fl e (n - R n)) : nud d (idx s) (idx e) = rndI d ((n : Rat) * 2^(-1074 : Int)) := by
  have h0 := idx_natAbs s
  have hf : rungOf s < M := hs.fin
  have e1 : idx e < 0 ↔ n < R n := by
    have h := @val_lt_iff (idx e) 0
    rw [val_zero, he.val] at h
    omega
  have e2 : 0 < idx e ↔ R n < n := by
    have h := @val_lt_iff 0 (idx e)
    rw [val_zero, he.val] at h
    omega
  rcases hd with rfl | rfl
  · rw [near_down hs.val (by omega) (by omega)]
    unfold nud
    by_cases h : n < R n
    · rw [if_pos h, if_pos ⟨rfl, e1.2 h⟩]
    · rw [if_neg h, if_neg (fun h' => h (e1.1 h'.2)), if_neg (by omega)]
  · rw [near_up hs.val (by omega) (by omega)]
    unfold nud
    by_cases h : R n < n
    · rw [if_pos h, if_neg (by omega), if_pos ⟨rfl, e2.2 h⟩]
    · rw [if_neg h, if_neg (by omega), if_neg (fun h' => h (e2.1 h'.2))]
theorem fl_mul_units {i j N : Int} {U : Nat} (hU : U = 1074) (h : val i * val j = N * 2^U) : fl i * fl j = (N : Rat) * 2^(-1074 : Int) := by
  have h1 : ((val i : Int) : Rat) * ((val j : Int) : Rat) = (N : Rat) * 2^(U : Int) := by
    rw [← Rat.intCast_mul, h, Rat.intCast_mul, Rat.intCast_pow, Rat.zpow_natCast]; rfl
  have h2 : (2 : Rat)^(U : Int) * 2^(-1074 : Int) = 1 := by
    rw [← zpow_add, show (U : Int) + -1074 = 0 from by omega]; rfl
  unfold fl
  have h3 : (val i : Rat) * 2^(-1074 : Int) * ((val j : Rat) * 2^(-1074 : Int)) = ((val i : Rat) * (val j : Rat)) * 2^(-1074 : Int) * 2^(-1074 : Int) := by grind
  rw [h3, h1]
  have h4 : (N : Rat) * 2^(U : Int) * 2^(-1074 : Int) * 2^(-1074 : Int) = (N : Rat) * (2^(U : Int) * 2^(-1074 : Int)) * 2^(-1074 : Int) := by grind
  rw [h4, h2, Rat.mul_one]
def mid (b : Nat) : Bool := decide (553942754166571008 < rungOf b) && decide (rungOf b < 8660422083433463808)
theorem mid_iff {b : Nat} : mid b = true ↔ 553942754166571008 < rungOf b ∧ rungOf b < 8660422083433463808 := by unfold mid; simp
theorem prod_small {m n V : Int} {a b U g : Nat} (hV : V = m * 2^a * (n * 2^b)) (m2 : m.natAbs < 2^53) (n2 : n.natAbs < 2^53) (hg : 54 ≤ g) (h : a + b < U) : nearRung V.natAbs U ≤ (g + 1) * 2^52 := by
  refine nearRung_le ?_
  rw [hV, Int.natAbs_mul, Int.natAbs_mul, Int.natAbs_mul, Int.natAbs_pow, Int.natAbs_pow, mag_two_pow, ← Nat.pow_add]
  have k1 : m.natAbs * 2^a * (n.natAbs * 2^b) = m.natAbs * n.natAbs * 2^(a + b) := by rw [Nat.pow_add]; ac_rfl
  show m.natAbs * 2^a * (n.natAbs * 2^b) ≤ _
  rw [k1]
  have k2 : m.natAbs * n.natAbs ≤ 2^53 * 2^53 := Nat.mul_le_mul (Nat.le_of_lt m2) (Nat.le_of_lt n2)
  have k3 : 2^(a + b) ≤ 2^U := Nat.pow_le_pow_right (by omega) (by omega)
  have k4 : 2^53 * 2^53 ≤ 2^(52 + g) := by rw [← Nat.pow_add]; exact Nat.pow_le_pow_right (by omega) (by omega)
  exact Nat.mul_le_mul (Nat.le_trans k2 k4) k3
theorem quick_prod {d : Int} (hd : d = -1 ∨ d = 1) {x y p : Nat} (hx : x < 18446744073709551616) (hy : y < 18446744073709551616) (mx : mid x = true) (my : mid y = true) (hp : FloatKind.f64.format.mul x y = some p) (mp : mid p = true) :
    ∃ xt xu xh xl yt yu yh yl z1 e0 z2 e1 z3 e2 z4 e : Nat, FloatKind.f64.format.mul 4728779608772575232 x = some xt ∧ FloatKind.f64.format.sub xt x = some xu ∧ FloatKind.f64.format.sub xt xu = some xh ∧ FloatKind.f64.format.sub x xh = some xl ∧
      FloatKind.f64.format.mul 4728779608772575232 y = some yt ∧ FloatKind.f64.format.sub yt y = some yu ∧ FloatKind.f64.format.sub yt yu = some yh ∧ FloatKind.f64.format.sub y yh = some yl ∧
      FloatKind.f64.format.mul xh yh = some z1 ∧ FloatKind.f64.format.sub z1 p = some e0 ∧ FloatKind.f64.format.mul xh yl = some z2 ∧ FloatKind.f64.format.add e0 z2 = some e1 ∧
      FloatKind.f64.format.mul xl yh = some z3 ∧ FloatKind.f64.format.add e1 z3 = some e2 ∧ FloatKind.f64.format.mul xl yl = some z4 ∧ FloatKind.f64.format.add e2 z4 = some e ∧
      p < 18446744073709551616 ∧ rungOf p < M ∧ rungOf e ≤ M ∧ nud d (idx p) (idx e) = rndI d (fl (idx x) * fl (idx y)) := by
  have hM : M = 9218868437227405312 := rfl
  obtain ⟨T, hT⟩ : ∃ T : Nat, T = 1974 := ⟨_, rfl⟩
  obtain ⟨L, hL⟩ : ∃ T : Nat, T = 174 := ⟨_, rfl⟩
  obtain ⟨U, hU⟩ : ∃ T : Nat, T = 1074 := ⟨_, rfl⟩
  have mx' := mid_iff.1 mx
  have my' := mid_iff.1 my
  have mp' := mid_iff.1 mp
  have pM : rungOf p < M := by omega
  obtain ⟨m, a, fx, m1, m2, bx, -⟩ := middle_form hT hL hx (by omega) (by omega)
  obtain ⟨n, b, fy, n1, n2, by_, -⟩ := middle_form hT hL hy (by omega) (by omega)
  obtain ⟨r, hr, his⟩ := mul_fin (show fin x by unfold fin; omega) (show fin y by unfold fin; omega)
  have e0 : p = r := by
    have : some p = some r := by rw [← hp]; exact hr
    cases this; rfl
  subst e0
  rw [← hU] at his
  have hip := his.idx
  have hv : val (idx x) * val (idx y) = m * 2^a * (n * 2^b) := by rw [fx.val, fy.val]
  have hab : U ≤ a + b := by
    rcases Nat.lt_or_ge (a + b) U with h | h
    · exfalso
      obtain ⟨g, hg⟩ : ∃ g : Nat, g = 122 := ⟨_, rfl⟩
      have h2 := prod_small (V := val (idx x) * val (idx y)) hv m2 n2 (show 54 ≤ g by omega) h
      have h3 := near_natAbs (val (idx x) * val (idx y)) U
      rw [← hip, idx_natAbs] at h3
      have h4 := mp'.1
      clear bx by_ fx fy m1 m2 n1 n2 hv hT hL hU his hip mx my mp mx' my'
      omega
    · exact h
  have fp : Fl p (val (idx p)) := ⟨his.lt, by unfold fin; omega, rfl⟩
  have bp := not_great (x := p) (t := 1922) (T := T) (by omega) (by omega)
  obtain ⟨xt, xu, xh, xl, yt, yu, yh, yl, z1, e0, z2, e1, z3, e2, z4, e, q1, q2, q3, q4, q5, q6, q7, q8, q9, q10, q11, q12, q13, q14, q15, q16, N, hN, fpN, fe⟩ := quick_mul hU hT fx m1 m2 bx fy n1 n2 by_ hp fp.fin bp hab
  refine ⟨xt, xu, xh, xl, yt, yu, yh, yl, z1, e0, z2, e1, z3, e2, z4, e, q1, q2, q3, q4, q5, q6, q7, q8, q9, q10, q11, q12, q13, q14, q15, q16, his.lt, pM, Nat.le_of_lt fe.fin, ?_⟩
  have e5 : fl (idx x) * fl (idx y) = (N : Rat) * 2^(-1074 : Int) := fl_mul_units hU (hv.trans hN)
  rw [e5]
  exact nud_n hd fpN fe
theorem inf_write (s : Bool) : double.write (.infinity s) = pat (if s then -(M : Int) else M) := by
  cases s
  · have h := inf_word (x := 9218868437227405312) (by omega) (by decide)
    rw [show sgn 9218868437227405312 = false from by decide] at h
    rw [h]; exact pat_max.symm
  · have h := inf_word (x := 18442240474082181120) (by omega) (by decide)
    rw [show sgn 18442240474082181120 = true from by decide] at h
    rw [h]; exact pat_min.symm
theorem digits_pos {b m k : Nat} (h : m * 2^k = mag (rungOf b)) (hb : rungOf b ≠ 0) : m ≠ 0 := by
  rintro rfl
  rw [Nat.zero_mul] at h
  have := mag_lt_iff.2 (show 0 < rungOf b by omega)
  rw [mag_zero] at this
  omega
theorem mul_inf {x y : Nat} (hx : rungOf x ≤ M) (hy : rungOf y ≤ M) (h : rungOf x = M ∨ rungOf y = M) (nx : rungOf x ≠ 0) (ny : rungOf y ≠ 0) : double.mul x y = some (pat (if (sgn x ^^ sgn y) then -(M : Int) else M)) := by
  unfold Format.mul
  by_cases h1 : rungOf x = M
  · rw [read_inf h1]
    by_cases h2 : rungOf y = M
    · rw [read_inf h2]
      simp only [Datum.product, Option.map_some]
      rw [inf_write]
    · obtain ⟨m, k, e, hm, -⟩ := read_fin (show fin y from by unfold fin; omega)
      rw [e]
      simp only [Datum.product]
      rw [if_neg (digits_pos hm ny)]
      simp only [Option.map_some]
      rw [inf_write]
  · have h2 : rungOf y = M := by omega
    rw [read_inf h2]
    obtain ⟨m, k, e, hm, -⟩ := read_fin (show fin x from by unfold fin; omega)
    rw [e]
    simp only [Datum.product]
    rw [if_neg (digits_pos hm nx)]
    simp only [Option.map_some]
    rw [inf_write, Bool.xor_comm]
end Go.Proofs.YthlmlmfebpjgdaaGreatDoor

namespace Go.Proofs.YthlmlmfebpjgdaaGreatDoor
open Go.RowKit
attribute [local go_sem] run_store_float run_frombits run_bitsof run_negf
end Go.Proofs.YthlmlmfebpjgdaaGreatDoor

namespace Go.Proofs.YthlmlmfebpjgdaaGreatDoor
open Go.RowKit
attribute [local go_sem] run_store_float run_frombits run_bitsof run_negf
theorem rv_exact (n : Bool) (S : Nat) (x : Int) : rv n (S * 2^x.toNat) (2^(-x).toNat) = rv n S 1 * 2^x := by
  have h := rv_scale n (p := S) (q := 1) (by omega) x
  rw [Nat.one_mul] at h; exact h
theorem to_any (d : Int) (neg : Bool) (A : Option Addr) (n c S : Nat) (x : Int) (w : World) (hu : U32s w A n c (digs S)) (hd : d = -1 ∨ d = 1) (hb : blen S ≤ 524288) (hx1 : -1000000 ≤ x) (hx2 : x ≤ 1099511627776) :
    Calls Tryz.prog 190 #[.agg #[.bool neg, .slice A n c, .int .i64 x], .int .i64 d] w fun e w' => e = .returned (.float .f64 (pat (rndI d (rv neg S 1 * 2^x)))) ∧ Below w.heap.size w w' := by
  have HO := Lib.hid (show ∀ W, Below w.heap.size w W → Calls Tryz.prog 230 #[.int .i64 d, .bool neg, .slice A n c, .int .i64 x, .bool false] W fun e w' => e = .returned (.float .f64 (pat (rndI d (rv neg S 1 * 2^x)))) ∧ Below W.heap.size W w' from fun W hW => by
    rcases Nat.eq_zero_or_pos S with h0 | h0
    · subst h0
      rw [rv_zero, Rat.zero_mul, rndI_zero hd, pat_zero]
      refine (of_nought d neg false A n c (digs 0) x W (hu.below hW) (num_digs 0)).mono ?_
      rintro e w' ⟨rfl, rfl⟩
      exact ⟨rfl, Below.refl _ _⟩
    · rw [← rv_exact]
      exact of_pos d neg false A n c S _ _ (digs S) x W (hu.below hW) (num_digs S) h0 (wlen_blen hb) hd (Dg.exact S x) (Nat.two_pow_pos _) (fun h => by cases h) hx1 hx2)
  obtain ⟨r, hr⟩ : ∃ r, pat (rndI d (rv neg S 1 * 2^x)) = r := ⟨_, rfl⟩
  rw [hr] at HO ⊢
  clear hu hd hr
  obtain ⟨LB0, LG0_0⟩ := bx1 w #[.bool neg, .slice A n c, .int .i64 x] 168
  go_enter Tryz.func190, Tryz.ntmps190
  obtain ⟨q0_0, q0_1, q0_2⟩ := LG0_0.out.c3
  go_wp2_with fail
  refine (HO.out _ LB0.out).mono ?_
  rintro e w1 ⟨rfl, hb1⟩
  have LB1 := stB LB0 hb1 LB0.out.size
  have LG0_1 := stG LG0_0 hb1
  clear LB0 LG0_0
  clear hb1 HO q0_0 q0_1 q0_2
  go_wp2
  go_ret
  exact ⟨rfl, LB1.out⟩
end Go.Proofs.YthlmlmfebpjgdaaGreatDoor
