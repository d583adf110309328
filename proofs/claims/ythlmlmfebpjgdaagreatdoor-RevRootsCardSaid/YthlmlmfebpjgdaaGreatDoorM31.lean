/-
Plain: the root of a ratio by binary digits: how far it is scaled, how its digits come up.
Walks: package vergeref2, Plus.
-/
import Derived.Test.YthlmlmfebpjgdaaGreatDoorPAddT
import Derived.Test.YthlmlmfebpjgdaaGreatDoorM26
import Derived.Test.YthlmlmfebpjgdaaGreatDoorM02
import Derived.Test.YthlmlmfebpjgdaaGreatDoorM01
set_option linter.unusedSimpArgs false
set_option linter.unusedVariables false
set_option maxHeartbeats 12800000

namespace Go.Proofs.YthlmlmfebpjgdaaGreatDoor
theorem tdiv_pos_eq {T n q : Int} (hn : 0 < n) (h1 : q * n ≤ T) (h2 : T < (q + 1) * n) (hq : 0 ≤ q) : T.tdiv n = q := by
  have h0 : 0 ≤ T := Int.le_trans (Int.mul_nonneg hq (by omega)) h1
  rw [Int.tdiv_eq_ediv_of_nonneg h0]
  have a := (Int.le_ediv_iff_mul_le hn).2 h1
  have b := (Int.ediv_lt_iff_lt_mul hn).2 h2
  omega
theorem tdiv_le_zero {T n : Int} (hn : 0 < n) (h : T < 0) : T.tdiv n ≤ 0 := by
  have e : T.tdiv n = -((-T).tdiv n) := by rw [Int.neg_tdiv, Int.neg_neg]
  rw [e, Int.tdiv_eq_ediv_of_nonneg (by omega)]
  have := Int.ediv_nonneg (show 0 ≤ -T by omega) (Int.le_of_lt hn)
  omega
theorem scale (f : Int) (n : Nat) (hn : 0 < n) (hn2 : n ≤ 1024) (hf : -4194304 ≤ f ∧ f ≤ 4194304) : ∃ k1 k2 P1 P2 t0 t1 t2 : Int,
    (f + (n : Int) * 60).tdiv n = t0 ∧ (61 < t0 → 60 - (t0 - 60) = k1 ∧ 60 ≠ k1) ∧ (¬ 61 < t0 → k1 = 60) ∧ (n : Int) * k1 = P1 ∧ (f + P1).tdiv n = t1 ∧ ¬ 61 < t1 ∧
    (t1 < 59 → k1 + (60 - t1) = k2 ∧ k1 ≠ k2) ∧ (¬ t1 < 59 → k2 = k1) ∧ (n : Int) * k2 = P2 ∧ (f + P2).tdiv n = t2 ∧ ¬ t2 < 59 ∧ 59 * (n : Int) ≤ f + P2 ∧ f + P2 < 62 * (n : Int) ∧
    -4300000 ≤ k1 ∧ k1 ≤ 4300000 ∧ -4300000 ≤ k2 ∧ k2 ≤ 4300000 ∧ -4300000 ≤ P1 ∧ P1 ≤ 4300000 ∧ -4300000 ≤ P2 ∧ P2 ≤ 4300000 ∧ -4300000 ≤ t0 ∧ t0 ≤ 4300000 ∧ -4300000 ≤ t1 ∧ t1 ≤ 4300000 := by
  have hnn : (0 : Int) < n := by omega
  have sm : ∀ {T t : Int}, T.tdiv n = t → -4294967 ≤ T → T ≤ 4294967 → -4294967 ≤ t ∧ t ≤ 4294967 := by
    intro T t h a b
    have h1 : t.natAbs = T.natAbs / (n : Int).natAbs := by rw [← h, Int.natAbs_tdiv]; rfl
    have h2 := Nat.div_le_self T.natAbs (n : Int).natAbs
    rw [← h1] at h2
    omega
  obtain ⟨t0, ht0⟩ : ∃ t, (f + (n : Int) * 60).tdiv n = t := ⟨_, rfl⟩
  have b0 := sm ht0 (by omega) (by omega)
  by_cases c : 61 < t0
  · have hT : 0 ≤ f + (n : Int) * 60 := by
      rcases Int.lt_or_le (f + (n : Int) * 60) 0 with h | h
      · have := tdiv_le_zero hnn h
        omega
      · exact h
    have e := Int.tdiv_eq_ediv_of_nonneg (b := (n : Int)) hT
    rw [ht0] at e
    have d := Int.mul_ediv_add_emod (f + (n : Int) * 60) n
    have m1 := Int.emod_nonneg (f + (n : Int) * 60) (show (n : Int) ≠ 0 by omega)
    have m2 := Int.emod_lt_of_pos (f + (n : Int) * 60) hnn
    rw [← e] at d
    have hP : (n : Int) * (60 - (t0 - 60)) = (n : Int) * 120 - (n : Int) * t0 := by rw [show (60 : Int) - (t0 - 60) = 120 - t0 from by omega, Int.mul_sub]
    obtain ⟨P, hPe⟩ : ∃ P, (n : Int) * (60 - (t0 - 60)) = P := ⟨_, rfl⟩
    have ht1 : (f + P).tdiv n = 60 := tdiv_pos_eq hnn (by omega) (by omega) (by omega)
    exact ⟨60 - (t0 - 60), 60 - (t0 - 60), P, P, t0, 60, 60, ht0, fun _ => ⟨rfl, by omega⟩, fun h => absurd c h, hPe, ht1, by omega, fun h => by omega, fun _ => rfl, hPe, ht1, by omega, by omega, by omega, by omega, by omega, by omega, by omega, by omega, by omega, by omega, by omega, by omega, by omega, by omega, by omega⟩
  · by_cases c2 : t0 < 59
    · obtain ⟨P, hPe⟩ : ∃ P, (n : Int) * (60 + (60 - t0)) = P := ⟨_, rfl⟩
      have hP : (n : Int) * (60 + (60 - t0)) = (n : Int) * 120 - (n : Int) * t0 := by rw [show (60 : Int) + (60 - t0) = 120 - t0 from by omega, Int.mul_sub]
      obtain ⟨Q, hQ⟩ : ∃ Q, (n : Int) * t0 = Q := ⟨_, rfl⟩
      have hb : -(n : Int) < f + (n : Int) * 60 - Q ∧ f + (n : Int) * 60 - Q < n := by
        have d := Int.mul_tdiv_add_tmod (f + (n : Int) * 60) n
        rw [ht0, hQ] at d
        have l := Int.natAbs_tmod (f + (n : Int) * 60) n
        have l2 := Nat.mod_lt (f + (n : Int) * 60).natAbs (show (n : Int).natAbs > 0 by omega)
        omega
      rw [hPe, hQ] at hP
      obtain ⟨t2, ht2⟩ : ∃ t, (f + P).tdiv n = t := ⟨_, rfl⟩
      have h59 : ¬ t2 < 59 := by
        have hT : 0 ≤ f + P := by omega
        have e := Int.tdiv_eq_ediv_of_nonneg (b := (n : Int)) hT
        have := (show (59 : Int) ≤ (f + P) / n ↔ 59 * (n : Int) ≤ f + P from Int.le_ediv_iff_mul_le hnn).2 (by omega)
        omega
      exact ⟨60, 60 + (60 - t0), _, P, t0, t0, t2, ht0, fun h => absurd h c, fun _ => rfl, rfl, ht0, c, fun _ => ⟨rfl, by omega⟩, fun h => absurd c2 h, hPe, ht2, h59, by omega, by omega, by omega, by omega, by omega, by omega, by omega, by omega, by omega, by omega, by omega, by omega, by omega, by omega⟩
    · have hT : 0 ≤ f + (n : Int) * 60 := by
        rcases Int.lt_or_le (f + (n : Int) * 60) 0 with h | h
        · have := tdiv_le_zero hnn h
          omega
        · exact h
      have e := Int.tdiv_eq_ediv_of_nonneg (b := (n : Int)) hT
      rw [ht0] at e
      have d1 := (show (59 : Int) ≤ (f + (n : Int) * 60) / n ↔ 59 * (n : Int) ≤ f + (n : Int) * 60 from Int.le_ediv_iff_mul_le hnn).1 (by omega)
      have d2 := (show (f + (n : Int) * 60) / n < (62 : Int) ↔ f + (n : Int) * 60 < 62 * (n : Int) from Int.ediv_lt_iff_lt_mul hnn).1 (by omega)
      exact ⟨60, 60, _, _, t0, t0, t0, ht0, fun h => absurd h c, fun _ => rfl, rfl, ht0, c, fun h => absurd h c2, fun _ => rfl, rfl, ht0, c2, d1, d2, by omega, by omega, by omega, by omega, by omega, by omega, by omega, by omega, by omega, by omega, by omega, by omega⟩
theorem big_range {a b n : Nat} (ha : 0 < a) (hb : 0 < b) (hn : 0 < n) (h1 : 59 * (n : Int) ≤ (blen a : Int) - blen b) (h2 : (blen a : Int) - blen b < 62 * (n : Int)) : 2 ^ (57 * n) ≤ a / b ∧ a / b < 2 ^ (62 * n) := by
  obtain ⟨x, ex, a1, a2⟩ := blen_bounds ha
  obtain ⟨y, ey, b1, b2⟩ := blen_bounds hb
  have a3 := lt_pow_blen a
  have b3 := lt_pow_blen b
  constructor
  · rw [Nat.le_div_iff_mul_le hb]
    calc 2 ^ (57 * n) * b ≤ 2 ^ (57 * n) * 2 ^ (blen b) := Nat.mul_le_mul_left _ (Nat.le_of_lt b3)
      _ = 2 ^ (57 * n + blen b) := by rw [← Nat.pow_add]
      _ ≤ 2 ^ x := Nat.pow_le_pow_right (by omega) (by omega)
      _ ≤ a := a1
  · rw [Nat.div_lt_iff_lt_mul hb]
    calc a < 2 ^ (blen a) := a3
      _ ≤ 2 ^ (62 * n + y) := Nat.pow_le_pow_right (by omega) (by omega)
      _ = 2 ^ (62 * n) * 2 ^ y := by rw [Nat.pow_add]
      _ ≤ 2 ^ (62 * n) * b := Nat.mul_le_mul_left _ b1
theorem root_range {g n R : Nat} (hn : 0 < n) (h : IsR g n R) (h1 : 2 ^ (57 * n) ≤ g) (h2 : g < 2 ^ (62 * n)) : 144115188075855872 ≤ R ∧ R < 4611686018427387904 := by
  rw [Nat.pow_mul] at h1 h2
  exact ⟨h.ge h1, h.lt h2⟩
def hi (R i : Nat) : Nat := R / 2 ^ i * 2 ^ i
theorem hi_zero (R : Nat) : hi R 0 = R := by unfold hi; simp
theorem hi_top {R : Nat} (h : R < 4611686018427387904) : hi R 63 = 0 := by
  unfold hi
  rw [Nat.div_eq_of_lt (by omega)]
theorem hi_le (R i : Nat) : hi R i ≤ R := Nat.div_mul_le_self _ _
theorem hi_step (R i : Nat) : (hi R (i + 1) + 2 ^ i ≤ R → hi R i = hi R (i + 1) + 2 ^ i) ∧ (¬ hi R (i + 1) + 2 ^ i ≤ R → hi R i = hi R (i + 1)) := by
  unfold hi
  have hp := Nat.two_pow_pos i
  obtain ⟨c, hc⟩ : ∃ c, 2 ^ i = c := ⟨_, rfl⟩
  have e : R / 2 ^ (i + 1) = R / 2 ^ i / 2 := by rw [Nat.pow_succ, Nat.div_div_eq_div_mul]
  rw [e, Nat.pow_succ, hc]
  rw [hc] at hp
  obtain ⟨m, hm⟩ : ∃ m, R / c = m := ⟨_, rfl⟩
  rw [hm]
  have d := Nat.div_add_mod R c
  have l := Nat.mod_lt R hp
  rw [hm] at d
  have e2 : m / 2 * (c * 2) = c * (m / 2 * 2) := by grind
  rw [e2]
  rcases Nat.mod_two_eq_zero_or_one m with h | h
  · have e3 : m / 2 * 2 = m := by omega
    rw [e3]
    constructor
    · intro k; omega
    · intro _; exact Nat.mul_comm _ _
  · have e3 : m / 2 * 2 + 1 = m := by omega
    have e4 : c * m = c * (m / 2 * 2) + c := by rw [← Nat.mul_succ]; congr 1; omega
    constructor
    · intro _; rw [Nat.mul_comm m c]; exact e4
    · intro k; omega
theorem hi_or (R i : Nat) : hi R (i + 1) ||| 2 ^ i = hi R (i + 1) + 2 ^ i := by
  unfold hi
  rw [Nat.mul_comm, ← Nat.two_pow_add_eq_or_of_lt (Nat.pow_lt_pow_right (by omega) (by omega))]
theorem try_iff {g n R t : Nat} (h : IsR g n R) : t ^ n ≤ g ↔ t ≤ R :=
  ⟨fun k => h.ge k, fun k => Nat.le_trans (Nat.pow_le_pow_left k n) h.1⟩
theorem try_long {g n R t i : Nat} (h : IsR g n R) (ht : 2 ^ i ≤ t) (hl : blen g ≤ n * i) : ¬ t ≤ R := by
  intro k
  have h1 := Nat.le_trans (Nat.pow_le_pow_left (Nat.le_trans ht k) n) h.1
  rw [← Nat.pow_mul, Nat.mul_comm i n] at h1
  have h2 := lt_pow_blen g
  have h3 := Nat.pow_le_pow_right (n := 2) (by omega) hl
  omega
theorem root_stands {x : Rat} {p q a b n R : Nat} {k : Int} (hn : 0 < n) (hp : 0 < p) (hq : 0 < q) (hb : 0 < b) (hx : x = rv false p q) (hs : rv false a b = x * 2 ^ ((n : Int) * k)) (hR : IsR (a / b) n R) (h57 : 144115188075855872 ≤ R) :
    RtQ x n (rqb (decide (R ^ n * b = a)) R (2 ^ (-k))) := by
  have hbc : (0 : Rat) < (b : Rat) := by exact_mod_cast hb
  have e : rv false a b * (b : Rat) = (a : Rat) := by
    unfold rv
    simp only [Bool.false_eq_true, if_false]
    exact Rat.div_mul_cancel (by grind)
  refine rqb_ok (s := rv false a b) hn ?_ ?_ ?_ h57 ?_
  · rw [← mul_le_pos hbc, e, ← Rat.natCast_mul, Rat.natCast_le_natCast]
    exact (Nat.le_div_iff_mul_le hb).1 hR.1
  · have h2 := (Nat.div_lt_iff_lt_mul hb).1 hR.2
    have : ¬ ((((R + 1) ^ n : Nat) : Rat) ≤ rv false a b) := by
      rw [← mul_le_pos hbc, e, ← Rat.natCast_mul, Rat.natCast_le_natCast]; omega
    grind
  · rw [decide_eq_true_iff]
    constructor
    · intro h
      have h2 : ((R ^ n : Nat) : Rat) * (b : Rat) = rv false a b * (b : Rat) := by rw [e, ← Rat.natCast_mul, h]
      have h3 : ((R ^ n : Nat) : Rat) ≤ rv false a b := by rw [← mul_le_pos hbc]; grind
      have h4 : rv false a b ≤ ((R ^ n : Nat) : Rat) := by rw [← mul_le_pos hbc]; grind
      grind
    · intro h
      have h2 : ((R ^ n * b : Nat) : Rat) = ((a : Nat) : Rat) := by rw [Rat.natCast_mul, h, e]
      exact_mod_cast h2
  · rw [hs, Rat.mul_assoc, ← zpow_add, show (n : Int) * k + (n : Int) * -k = 0 from by rw [Int.mul_neg]; omega]
    rw [show (2 : Rat) ^ (0 : Int) = 1 from rfl, Rat.mul_one]
theorem rqb_frac (b : Bool) (R : Nat) (k : Int) : rv false (2 * R + if b = true then 0 else 1) 1 * 2 ^ (-k - 1) = rqb b R (2 ^ (-k)) := by
  have e : (2 : Rat) ^ (-k) = 2 * 2 ^ (-k - 1) := by
    have h := zpow_add (-k - 1) 1
    rw [show -k - 1 + 1 = -k from by omega] at h
    rw [h, show (2 : Rat) ^ (1 : Int) = 2 from rfl]; grind
  have e1 : ∀ m : Nat, rv false m 1 = (m : Rat) := fun m => by unfold rv; simp [Rat.div_def]; grind
  rw [e1]
  unfold rqb
  cases b
  · rw [if_neg (by simp), if_neg (by simp), e]
    have : (2 : Rat) * 2 ^ (-k - 1) / 2 = 2 ^ (-k - 1) := by grind
    rw [this]
  · rw [if_pos rfl, if_pos rfl, e]
    push_cast
    grind
end Go.Proofs.YthlmlmfebpjgdaaGreatDoor

namespace Go.Proofs.YthlmlmfebpjgdaaGreatDoor
open Go.RowKit
theorem plus_any (A B : Option Addr) (n c m d : Nat) (xs ys : List Nat) (w : World) (hx : U32s w A n c xs) (hy : U32s w B m d ys) (hs1 : n ≤ 34359738360) (hs2 : m ≤ 34359738360) :
    Calls Tryz.prog 97 #[.slice A n c, .slice B m d] w (NewU32 w (digs (num xs + num ys))) := by
  have HX := Lib.hid hx
  have HY := Lib.hid hy
  clear hx hy
  go_enter Tryz.func97, Tryz.ntmps97
  go_wp2
  go_loopw [5, 6, 7] (fun v cv iv wr => ∃ (i k : Nat) (ls : List Nat), iv = .int .i64 i ∧ cv = .int .u64 k ∧ i ≤ max n m ∧ PlusInv xs ys ls i k ∧ Own wr w.heap.size v ls ∧ Below w.heap.size w wr) (fun _ _ iv _ => max n m - (intOf iv).toNat)
  case atStart => exact ⟨0, 0, [], rfl, rfl, Nat.zero_le _, PlusInv.start _ _, Own.nil _ _, Below.refl _ _⟩
  case round =>
    obtain ⟨i, k, ls, rfl, rfl, hi, hinv, hown, hb⟩ := hrel
    have hk1 := hinv.carry
    have hlen := hinv.len
    have HI := Lib.hid hinv
    have HO := Lib.hid hown
    clear hinv hown
    have hbs := hb.size
    have HL := Lib.hid hlen
    clear hlen
    by_cases ha : i < n
    · obtain ⟨ad, e, hc⟩ := (HX.out.below hb).cell (j := i) ha
      cases e
      have hx1 := HX.out.lt i
      by_cases hbb : i < m
      · obtain ⟨ad', e, hc'⟩ := (HY.out.below hb).cell (j := i) hbb
        cases e
        have hy1 := HY.out.lt i
        have hm := mask32_i (a := (k : Int) + ((xs[i]?.getD 0 : Nat) : Int) + ((ys[i]?.getD 0 : Nat) : Int)) (by omega) (by omega)
        go_wp2_with (at_builtin; refine wpList_append_u32 _ rfl _ _ rfl w.heap.size _ ls rfl (HO.out.alloc _) ⟨_, 0, none⟩ 1 ((k + xs[i]?.getD 0 + ys[i]?.getD 0) % 4294967296) rfl ?c1 ?c2 ?c3 ?_)
        case c1 => simp
        case c2 => rw [HL.out]; omega
        case c3 => simp; omega
        intro v' w' hown' hgrow
        have HO' := Lib.hid hown'
        have hb' : Below w.heap.size w w' := (hb.alloc hbs _).grown hgrow (by simp; omega) (fun g hg => (HO.out.lt g hg).1)
        clear hown' hb hgrow hc hc' hbs hm
        go_wp2
        go_roundw
        case rel => exact ⟨i + 1, (k + xs[i]?.getD 0 + ys[i]?.getD 0) / 4294967296, _, by go_num, by go_num, by omega, HI.out.step HX.out.w32 HY.out.w32 (by rfl), HO'.out, hb'⟩
        case measure => simp [intOf]; omega
      · have HZ := Lib.hid (show ys[i]?.getD 0 = 0 by rw [List.getElem?_eq_none (by rw [HY.out.len]; omega)]; rfl)
        have hm := mask32_i (a := (k : Int) + ((xs[i]?.getD 0 : Nat) : Int)) (by omega) (by omega)
        go_wp2_with (at_builtin; refine wpList_append_u32 _ rfl _ _ rfl w.heap.size _ ls rfl (HO.out.alloc _) ⟨_, 0, none⟩ 1 ((k + xs[i]?.getD 0) % 4294967296) rfl ?c1 ?c2 ?c3 ?_)
        case c1 => simp
        case c2 => rw [HL.out]; omega
        case c3 => simp; omega
        intro v' w' hown' hgrow
        have HO' := Lib.hid hown'
        have hb' : Below w.heap.size w w' := (hb.alloc hbs _).grown hgrow (by simp; omega) (fun g hg => (HO.out.lt g hg).1)
        clear hown' hb hgrow hc hbs hm
        go_wp2
        go_roundw
        case rel => exact ⟨i + 1, (k + xs[i]?.getD 0) / 4294967296, _, by go_num, by go_num, by omega, HI.out.step HX.out.w32 HY.out.w32 (by rw [HZ.out]; rfl), HO'.out, hb'⟩
        case measure => simp [intOf]; omega
    · have HZ := Lib.hid (show xs[i]?.getD 0 = 0 by rw [List.getElem?_eq_none (by rw [HX.out.len]; omega)]; rfl)
      by_cases hbb : i < m
      · obtain ⟨ad', e, hc'⟩ := (HY.out.below hb).cell (j := i) hbb
        cases e
        have hy1 := HY.out.lt i
        have hm := mask32_i (a := (k : Int) + ((ys[i]?.getD 0 : Nat) : Int)) (by omega) (by omega)
        go_wp2_with (at_builtin; refine wpList_append_u32 _ rfl _ _ rfl w.heap.size _ ls rfl (HO.out.alloc _) ⟨_, 0, none⟩ 1 ((k + ys[i]?.getD 0) % 4294967296) rfl ?c1 ?c2 ?c3 ?_)
        case c1 => simp
        case c2 => rw [HL.out]; omega
        case c3 => simp; omega
        intro v' w' hown' hgrow
        have HO' := Lib.hid hown'
        have hb' : Below w.heap.size w w' := (hb.alloc hbs _).grown hgrow (by simp; omega) (fun g hg => (HO.out.lt g hg).1)
        clear hown' hb hgrow hc' hbs hm
        go_wp2
        go_roundw
        case rel => exact ⟨i + 1, (k + ys[i]?.getD 0) / 4294967296, _, by go_num, by go_num, by omega, HI.out.step HX.out.w32 HY.out.w32 (by rw [HZ.out]; rfl), HO'.out, hb'⟩
        case measure => simp [intOf]; omega
      · have hd := HI.out.done (by rw [HX.out.len]; omega) (by rw [HY.out.len]; omega)
        have HD := Lib.hid hd
        clear hd
        go_wp2_with (at_builtin; refine wpList_append_u32 _ rfl _ _ rfl w.heap.size _ ls rfl (HO.out.alloc _) ⟨_, 0, none⟩ 1 k rfl ?c1 ?c2 ?c3 ?_)
        case c1 => simp
        case c2 => rw [HL.out]; omega
        case c3 => simp; omega
        intro v' w' hown' hgrow
        have HO' := Lib.hid hown'
        have hb' : Below w.heap.size w w' := (hb.alloc hbs _).grown hgrow (by simp; omega) (fun g hg => (HO.out.lt g hg).1)
        clear hown' hb hgrow hbs
        obtain ⟨A', c', rfl⟩ := HO'.out.form_snoc
        have hu := HO'.out.u32s (by simp) HD.out.2 (by simp; rw [HL.out]; omega)
        have hnorm := norm_any _ _ _ _ w' hu (by rw [HL.out]; omega)
        rw [HD.out.1] at hnorm
        have HN := Lib.hid hnorm
        clear hnorm hu
        go_wp2_with fail
        refine HN.out.mono ?_
        rintro e w'' ⟨A2, n2, c2, rfl, hu2, hb2⟩
        have H2 := Lib.hid (show NewU32 w (digs (num xs + num ys)) (.returned (.slice A2 n2 c2)) w'' from NewU32.trans ⟨A2, n2, c2, rfl, hu2, hb2⟩ hb')
        clear hu2 hb2 hb'
        go_wp2
        go_ret
        exact H2.out
end Go.Proofs.YthlmlmfebpjgdaaGreatDoor
