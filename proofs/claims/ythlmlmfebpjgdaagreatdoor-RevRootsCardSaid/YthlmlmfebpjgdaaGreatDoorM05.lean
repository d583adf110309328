/-
Walks: package vergeref2, FromBits.
How two ratios compare: plain.
A ratio rounded down and up to an index: plain law.
A ratio rounded down and up to an index: plain law, second half.
Walks: package vergeref2, Int of a natural.
Walks: packages vergeref3 and vergeref6, patterns.
Walks: package vergeref3, made, infinite, greatest.
Walks: package vergeref6, intervals of patterns.
-/
import Derived.Test.YthlmlmfebpjgdaaGreatDoorM03
import Derived.Test.YthlmlmfebpjgdaaGreatDoorM04
import Derived.Test.YthlmlmfebpjgdaaGreatDoorM01
set_option linter.unusedSimpArgs false
set_option linter.unusedVariables false
set_option maxHeartbeats 12800000

namespace Go.Proofs.YthlmlmfebpjgdaaGreatDoor
open Go.RowKit
def fl (i : Int) : Rat := (val i : Rat) * 2^(-1074 : Int)
theorem rv_one (neg : Bool) (s k : Nat) : rv neg s 1 * 2^((k : Int) - 1074) = ((if neg then -((s * 2^k : Nat) : Int) else ((s * 2^k : Nat) : Int) : Int) : Rat) * 2^(-1074 : Int) := by
  rw [show ((k : Int) - 1074) = (k : Int) + (-1074) from by omega, zpow_add, zpow_nat]
  unfold rv
  have h1 : ((1 : Nat) : Rat) = 1 := rfl
  have h2 : ∀ x : Rat, x / ((1 : Nat) : Rat) = x := fun x => div_eq (by rw [h1]; decide) (by rw [h1, Rat.mul_one])
  rw [h2]
  cases neg
  · simp only [Bool.false_eq_true, if_false]
    rw [Rat.intCast_natCast, Rat.natCast_mul]; grind
  · simp only [if_true]
    rw [Rat.intCast_neg, Rat.intCast_natCast, Rat.natCast_mul]; grind
theorem fl_parts {b e f : Nat} {neg : Bool} (hf : fin b) (he : b / 4503599627370496 % 2048 = e) (hff : b % 4503599627370496 = f) (hn : sgn b = neg) :
    e < 2047 ∧ f < 4503599627370496 ∧ (0 < e → fl (idx b) = rv neg (f + 4503599627370496) 1 * 2^((e : Int) - 1 - 1074)) ∧ (e = 0 → fl (idx b) = rv neg f 1 * 2^((e : Int) - 1074)) := by
  unfold fin rungOf M at hf
  have e1 : b % 2^63 / 2^52 = e := by omega
  have e2 : b % 2^63 % 2^52 = f := by omega
  refine ⟨by omega, by omega, fun h => ?_, fun h => ?_⟩
  · rw [show (e : Int) - 1 - 1074 = ((e - 1 : Nat) : Int) - 1074 from by omega, rv_one]
    unfold fl
    have e0 : (2 : Nat)^52 = 4503599627370496 := rfl
    have e3 : mag (b % 2^63) = (f + 4503599627370496) * 2^(e - 1) := by
      unfold mag
      rw [if_neg (show ¬ b % 2^63 < 2^52 from by omega), e1, e2, e0, Nat.add_comm 4503599627370496 f]
    rw [val_idx, hn]
    unfold rungOf
    rw [e3]
  · subst h
    rw [show ((0 : Nat) : Int) - 1074 = ((0 : Nat) : Int) - 1074 from rfl, rv_one]
    unfold fl
    rw [val_idx, hn]
    unfold rungOf
    rw [mag_small (by omega), show b % 2^63 = f from by omega, Nat.pow_zero, Nat.mul_one]
theorem NewRat.lay {w W w1 : World} {K g : Nat} {t : TypeId} {cs : Array Value} {neg : Bool} {vn vd : Value} {x : Rat} (h : RatV w1 K neg vn vd x) (hb : Below w.heap.size w W) (hb1 : Below W.heap.size W w1) (hk : Blk W g t cs) (hc : NoWd cs) (hg : w.heap.size ≤ g) :
    NewRat w K x (.returned (.agg #[.bool neg, vn, vd])) (((w1.setCell ⟨g, 0, none⟩ (.bool neg)).setCell ⟨g, 1, none⟩ vn).setCell ⟨g, 2, none⟩ vd) :=
  h.ret (hb.trans (hb1.mono hb.size)) (hk.keep hb1) hc hg
theorem pow_34 {f K : Nat} (hK : K = 34) (hf : f < 2^53) {x : Int} (hx : x ≤ 971) : f * 2^x.toNat < 2^(32 * K) := by
  obtain ⟨k, hk⟩ : ∃ k, x.toNat = k := ⟨_, rfl⟩
  rw [hk]
  have h1 : f * 2^k < 2^53 * 2^k := Nat.mul_lt_mul_of_pos_right hf (Nat.two_pow_pos k)
  rw [← Nat.pow_add] at h1
  exact Nat.lt_of_lt_of_le h1 (Nat.pow_le_pow_right (by omega) (by omega))
theorem pow_34' {x : Int} {K : Nat} (hK : K = 34) (hx : -1074 ≤ x) : 1 * 2^(-x).toNat < 2^(32 * K) := by
  rw [Nat.one_mul]
  exact Nat.pow_lt_pow_right (by omega) (by omega)
theorem frombits_K (K b : Nat) (w : World) (hK : K = 34) (hb : b < 18446744073709551616) (hf : fin b) :
    Calls Tryz.prog 210 #[.int .u64 (b : Int)] w (NewRat w K (fl (idx b))) := by
  obtain ⟨e, he⟩ : ∃ e, b / 4503599627370496 % 2048 = e := ⟨_, rfl⟩
  obtain ⟨f, hff⟩ : ∃ f, b % 4503599627370496 = f := ⟨_, rfl⟩
  obtain ⟨neg, hn⟩ : ∃ neg, sgn b = neg := ⟨_, rfl⟩
  obtain ⟨he1, hf1, v1, v2⟩ := fl_parts hf he hff hn
  have m1 := mask11_u64 (x := b / 4503599627370496) (by omega)
  rw [he, show ((b / 4503599627370496 : Nat) : Int) = (b : Int) / 4503599627370496 from by omega] at m1
  have m2 := mask52_u64 (x := b) hb
  rw [hff] at m2
  have m3 : ((b : Int) / 9223372036854775808 == 1) = neg := by
    rw [← hn]; unfold sgn
    have : b / 2^63 % 2 = b / 9223372036854775808 := by omega
    rw [this]
    rcases Nat.eq_zero_or_pos (b / 9223372036854775808) with h | h
    · rw [h, show (b : Int) / 9223372036854775808 = 0 from by omega]; rfl
    · rw [show b / 9223372036854775808 = 1 from by omega, show (b : Int) / 9223372036854775808 = 1 from by omega]; rfl
  obtain ⟨x, hx⟩ : ∃ x, fl (idx b) = x := ⟨_, rfl⟩
  rw [hx] at v1 v2 ⊢
  have HK34 := Lib.hid hK
  have V1 := Lib.hid v1
  have V2 := Lib.hid v2
  have M1 := Lib.hid m1
  have M2 := Lib.hid m2
  have M3 := Lib.hid m3
  have ba := below_alloc w (.cells #[.bool false, .slice none 0 0, .slice none 0 0] 42)
  have BA := Lib.hid ba
  have BLK := Lib.hid (Blk.new w 42 #[.bool false, .slice none 0 0, .slice none 0 0])
  clear v1 v2 hx hn hff he hf ba m1 m2 m3 hK
  rcases Nat.eq_zero_or_pos e with h0 | h0
  · have hs := small_any (f) (w.alloc (.cells #[.bool false, .slice none 0 0, .slice none 0 0] 42)) (by omega)
    have HS := Lib.hid hs
    clear hs
    have m1 := M1.out
    have m2 := M2.out
    have m3 := M3.out
    have hei : (e : Int) ≤ 0 := by omega
    have H0 := Lib.hid h0
    clear h0
    go_enter Tryz.func210, Tryz.ntmps210
    go_wp2_with fail
    refine HS.out.mono ?_
    rintro e1 w1 ⟨A, n, c, rfl, hu1, hb1⟩
    have hn2 : n ≤ 2 := hu1.len_le (k := 2) (Nat.lt_of_lt_of_le (show f < 2^53 from by omega) (by decide))
    have hW : Below w.heap.size w (w1.alloc (.cells #[wd 1] 117)) := (BA.out.trans (hb1.mono BA.out.size)).alloc (by have := BA.out.size; have := hb1.size; omega) _
    have hKK := (BLK.out.keep hb1).alloc (.cells #[wd 1] 117)
    have HF := Lib.hid (frac_any neg A (some ⟨w1.heap.size, 0, none⟩) n c 1 1 K (f) 1 _ [1] ((e : Int) - 1074) (w1.alloc (.cells #[wd 1] 117)) (hu1.alloc _) (U32s.lit1 w1 117 (a := 1) (by omega)) (by omega) (by omega) (num_digs _) (by decide) (by omega) (by omega) (by omega)
      (pow_34 HK34.out (by omega) (by omega)) (pow_34' HK34.out (by omega)) (by have := HK34.out; omega))
    have HW := Lib.hid hW
    have HK := Lib.hid hKK
    clear hu1 hb1 hW hKK HS
    have m1 := M1.out
    have m3 := M3.out
    go_wp2_with fail
    refine HF.out.mono ?_
    rintro e2 w2 ⟨neg2, vn, vd, rfl, hr, hb2⟩
    rw [← V2.out H0.out] at hr
    obtain ⟨A5, n5, c5, A6, n6, c6, rfl, rfl⟩ := hr.shape
    have hblk := HK.out.keep hb2
    have k0 := hblk.cell 0
    have k1 := hblk.cell 1
    have k2 := hblk.cell 2
    have f0 := hblk.frozen 0
    have f1 := hblk.frozen 1
    have f2 := hblk.frozen 2
    have hlt := hblk.lt
    have FF := Lib.hid (NewRat.lay hr HW.out hb2 HK.out NoWd.zero (Nat.le_refl _))
    clear hblk hb2 hr HF
    simp at k0 k1 k2
    go_wp2
    refine bodyPost_ret (v := .agg #[.bool neg2, .slice A5 n5 c5, .slice A6 n6 c6]) (by simp [results, Tryz.results210, go_sem, k0, k1, k2]) rfl ?_
    exact FF.out
  · have hs := small_any (f + 4503599627370496) (w.alloc (.cells #[.bool false, .slice none 0 0, .slice none 0 0] 42)) (by omega)
    rw [show ((f + 4503599627370496 : Nat) : Int) = (f : Int) + 4503599627370496 from by omega] at hs
    have HS := Lib.hid hs
    clear hs
    have m1 := M1.out
    have m2 := M2.out
    have m3 := M3.out
    have hei : (0 : Int) < (e : Int) := by omega
    go_enter Tryz.func210, Tryz.ntmps210
    go_wp2_with fail
    refine HS.out.mono ?_
    rintro e1 w1 ⟨A, n, c, rfl, hu1, hb1⟩
    have hn2 : n ≤ 2 := hu1.len_le (k := 2) (Nat.lt_of_lt_of_le (show f + 4503599627370496 < 2^53 from by omega) (by decide))
    have hW : Below w.heap.size w (w1.alloc (.cells #[wd 1] 117)) := (BA.out.trans (hb1.mono BA.out.size)).alloc (by have := BA.out.size; have := hb1.size; omega) _
    have hKK := (BLK.out.keep hb1).alloc (.cells #[wd 1] 117)
    have HF := Lib.hid (frac_any neg A (some ⟨w1.heap.size, 0, none⟩) n c 1 1 K (f + 4503599627370496) 1 _ [1] ((e : Int) - 1 - 1074) (w1.alloc (.cells #[wd 1] 117)) (hu1.alloc _) (U32s.lit1 w1 117 (a := 1) (by omega)) (by omega) (by omega) (num_digs _) (by decide) (by omega) (by omega) (by omega)
      (pow_34 HK34.out (by omega) (by omega)) (pow_34' HK34.out (by omega)) (by have := HK34.out; omega))
    have HW := Lib.hid hW
    have HK := Lib.hid hKK
    clear hu1 hb1 hW hKK HS
    have m1 := M1.out
    have m3 := M3.out
    go_wp2_with fail
    refine HF.out.mono ?_
    rintro e2 w2 ⟨neg2, vn, vd, rfl, hr, hb2⟩
    rw [← V1.out h0] at hr
    obtain ⟨A5, n5, c5, A6, n6, c6, rfl, rfl⟩ := hr.shape
    have hblk := HK.out.keep hb2
    have k0 := hblk.cell 0
    have k1 := hblk.cell 1
    have k2 := hblk.cell 2
    have f0 := hblk.frozen 0
    have f1 := hblk.frozen 1
    have f2 := hblk.frozen 2
    have hlt := hblk.lt
    have FF := Lib.hid (NewRat.lay hr HW.out hb2 HK.out NoWd.zero (Nat.le_refl _))
    clear hblk hb2 hr HF
    simp at k0 k1 k2
    go_wp2
    refine bodyPost_ret (v := .agg #[.bool neg2, .slice A5 n5 c5, .slice A6 n6 c6]) (by simp [results, Tryz.results210, go_sem, k0, k1, k2]) rfl ?_
    exact FF.out
theorem frombits_any (b : Nat) (w : World) (hb : b < 18446744073709551616) (hf : fin b) :
    Calls Tryz.prog 210 #[.int .u64 (b : Int)] w (NewRat w 34 (fl (idx b))) := frombits_K 34 b w rfl hb hf
end Go.Proofs.YthlmlmfebpjgdaaGreatDoor

namespace Go.Proofs.YthlmlmfebpjgdaaGreatDoor
open Go.RowKit
def rc (x y : Rat) : Int := if x < y then -1 else if y < x then 1 else 0
theorem div_lt {a b c d : Rat} (hc : 0 < c) (hd : 0 < d) : a / c < b / d ↔ a * d < b * c := by
  have h1 : 0 < c * d := Rat.mul_pos hc hd
  have e1 : a / c * (c * d) = a * d := by
    rw [← Rat.mul_assoc, Rat.div_mul_cancel (by grind)]
  have e2 : b / d * (c * d) = b * c := by
    rw [Rat.mul_comm c d, ← Rat.mul_assoc, Rat.div_mul_cancel (by grind)]
  rw [← e1, ← e2]
  exact (Rat.mul_lt_mul_right h1).symm
theorem rv_lt_false {p q p' q' : Nat} (hq : 0 < q) (hq' : 0 < q') : rv false p q < rv false p' q' ↔ p * q' < p' * q := by
  unfold rv
  simp only [Bool.false_eq_true, if_false]
  rw [div_lt (cast_pos hq) (cast_pos hq'), ← Rat.natCast_mul, ← Rat.natCast_mul, Rat.natCast_lt_natCast]
theorem rc_same {n n' : Bool} {p q p' q' : Nat} (hq : 0 < q) (hq' : 0 < q') (h0 : p = 0 → n = false) (h0' : p' = 0 → n' = false) (hs : rsg (rv n p q) = rsg (rv n' p' q')) :
    rc (rv n p q) (rv n' p' q') = if rsg (rv n p q) = 0 then 0 else if n then -cmp3 (p * q') (p' * q) else cmp3 (p * q') (p' * q) := by
  rw [rsg_rv hq h0, rsg_rv hq' h0'] at hs
  rw [rsg_rv hq h0]
  by_cases hp : p = 0
  · have hp' : p' = 0 := by
      rw [if_pos hp] at hs
      by_cases h : p' = 0
      · exact h
      · rw [if_neg h] at hs; cases n' <;> simp at hs
    rw [if_pos hp, if_pos rfl, hp, hp', rv_zero, rv_zero]
    unfold rc
    rw [if_neg (by grind), if_neg (by grind)]
  · have hp' : p' ≠ 0 := by
      intro h
      rw [if_neg hp, if_pos h] at hs; cases n <;> simp at hs
    rw [if_neg hp, if_neg hp'] at hs
    have l1 := @rv_lt_false p q p' q' hq hq'
    have l2 := @rv_lt_false p' q' p q hq' hq
    have hc : rc (rv false p q) (rv false p' q') = cmp3 (p * q') (p' * q) := by
      unfold rc cmp3
      by_cases h1 : p * q' < p' * q
      · rw [if_pos (l1.2 h1), if_pos h1]
      · rw [if_neg (fun h => h1 (l1.1 h)), if_neg h1]
        by_cases h2 : p' * q < p * q'
        · rw [if_pos (l2.2 h2), if_pos h2]
        · rw [if_neg (fun h => h2 (l2.1 h)), if_neg h2]
    cases n <;> cases n' <;> simp at hs
    · rw [if_neg hp, if_neg (by decide), hc]; rfl
    · rw [if_neg hp, if_neg (by decide), if_pos rfl, ← hc, rv_true, rv_true]
      unfold rc
      by_cases h1 : rv false p q < rv false p' q'
      · rw [if_neg (by grind), if_pos (by grind), if_pos h1]; rfl
      · by_cases h2 : rv false p' q' < rv false p q
        · rw [if_pos (by grind), if_neg h1, if_pos h2]
        · rw [if_neg (by grind), if_neg (by grind), if_neg h1, if_neg h2]; rfl
theorem rc_below {x y : Rat} (h : rsg x < rsg y) : rc x y = -1 := by
  unfold rsg at h
  unfold rc
  by_cases h1 : x = 0
  · rw [if_pos h1] at h
    by_cases h2 : y = 0
    · rw [if_pos h2] at h; omega
    · rw [if_neg h2] at h
      by_cases h3 : y < 0
      · rw [if_pos h3] at h; omega
      · rw [if_pos (by grind)]
  · rw [if_neg h1] at h
    by_cases h4 : x < 0
    · rw [if_pos h4] at h
      by_cases h2 : y = 0
      · rw [if_pos (by grind)]
      · rw [if_neg h2] at h
        by_cases h3 : y < 0
        · rw [if_pos h3] at h; omega
        · rw [if_pos (by grind)]
    · rw [if_neg h4] at h
      by_cases h2 : y = 0
      · rw [if_pos h2] at h; omega
      · rw [if_neg h2] at h
        by_cases h3 : y < 0
        · rw [if_pos h3] at h; omega
        · rw [if_neg h3] at h; omega
theorem rc_swap (x y : Rat) : rc x y = -rc y x := by
  unfold rc
  by_cases h1 : x < y
  · rw [if_pos h1, if_neg (by grind), if_pos h1]
  · by_cases h2 : y < x
    · rw [if_neg h1, if_pos h2, if_pos h2]; rfl
    · rw [if_neg h1, if_neg h2, if_neg h2, if_neg h1]; rfl
theorem rc_above {x y : Rat} (h : rsg y < rsg x) : rc x y = 1 := by rw [rc_swap, rc_below h]; rfl
end Go.Proofs.YthlmlmfebpjgdaaGreatDoor

namespace Go.Proofs.YthlmlmfebpjgdaaGreatDoor
open Go.RowKit
def Sc (n m : Nat) (f : Int) : Prop := (0 ≤ f → m * 2^f.toNat ≤ n ∧ n < m * 2^(f.toNat + 1)) ∧ (f < 0 → m ≤ n * 2^(-f).toNat ∧ n * 2^(-f).toNat < 2 * m)
theorem blen_bounds {n : Nat} (h : 0 < n) : ∃ L, blen n = L + 1 ∧ 2^L ≤ n ∧ n < 2^(L + 1) := by
  have h1 := pow_blen_le h
  have h2 := lt_pow_blen n
  have h3 : blen n ≠ 0 := by rw [Ne, blen_eq_zero]; omega
  refine ⟨blen n - 1, by omega, ?_, ?_⟩
  · exact h1
  · rwa [show blen n - 1 + 1 = blen n from by omega]
theorem scale_keep {n m : Nat} {f : Int} (hn : 0 < n) (hm : 0 < m) (hf : f = (blen n : Int) - blen m) (h1 : 0 ≤ f → m * 2^f.toNat ≤ n) (h2 : f < 0 → m ≤ n * 2^(-f).toNat) : Sc n m f := by
  obtain ⟨L, e1, a1, a2⟩ := blen_bounds hn
  obtain ⟨R, e2, b1, b2⟩ := blen_bounds hm
  refine ⟨fun h => ⟨h1 h, ?_⟩, fun h => ⟨h2 h, ?_⟩⟩
  · obtain ⟨k, rfl⟩ : ∃ k : Nat, f = k := ⟨f.toNat, by omega⟩
    rw [Int.toNat_natCast]
    have : L = R + k := by omega
    subst this
    calc n < 2^(R + k + 1) := a2
      _ = 2^R * 2^(k + 1) := by rw [← Nat.pow_add]; congr 1
      _ ≤ m * 2^(k + 1) := Nat.mul_le_mul_right _ b1
  · obtain ⟨k, hk⟩ : ∃ k : Nat, -f = k := ⟨(-f).toNat, by omega⟩
    rw [hk, Int.toNat_natCast]
    have : R = L + k := by omega
    subst this
    calc n * 2^k < 2^(L + 1) * 2^k := Nat.mul_lt_mul_of_pos_right a2 (Nat.two_pow_pos k)
      _ = 2 * 2^(L + k) := by rw [← Nat.pow_add, show L + 1 + k = (L + k) + 1 from by omega, Nat.pow_succ, Nat.mul_comm]
      _ ≤ 2 * m := Nat.mul_le_mul_left _ b1
theorem scale_down {n m : Nat} {f : Int} (hn : 0 < n) (hm : 0 < m) (hf : f = (blen n : Int) - blen m) (h1 : 0 ≤ f → n < m * 2^f.toNat) (h2 : f < 0 → n * 2^(-f).toNat < m) : Sc n m (f - 1) := by
  obtain ⟨L, e1, a1, a2⟩ := blen_bounds hn
  obtain ⟨R, e2, b1, b2⟩ := blen_bounds hm
  rcases Int.lt_trichotomy f 0 with h | h | h
  · refine ⟨fun h' => by omega, fun _ => ?_⟩
    have h2 := h2 h
    obtain ⟨k, hk⟩ : ∃ k : Nat, -f = k := ⟨(-f).toNat, by omega⟩
    rw [hk, Int.toNat_natCast] at h2
    rw [show -(f - 1) = ((k + 1 : Nat) : Int) from by omega, Int.toNat_natCast]
    have : R = L + k := by omega
    subst this
    refine ⟨?_, by rw [Nat.pow_succ, ← Nat.mul_assoc]; omega⟩
    refine Nat.le_of_lt ?_
    calc m < 2^(L + k + 1) := b2
      _ = 2^L * 2^(k + 1) := by rw [← Nat.pow_add]; congr 1
      _ ≤ n * 2^(k + 1) := Nat.mul_le_mul_right _ a1
  · subst h
    refine ⟨fun h' => by omega, fun _ => ?_⟩
    have h1 := h1 (by omega)
    simp at h1 ⊢
    have : R = L := by omega
    subst this
    rw [Nat.pow_succ] at b2
    omega
  · refine ⟨fun _ => ?_, fun h' => by omega⟩
    have h1 := h1 (by omega)
    obtain ⟨k, hk⟩ : ∃ k : Nat, f = ((k + 1 : Nat) : Int) := ⟨(f - 1).toNat, by omega⟩
    rw [hk, Int.toNat_natCast] at h1
    rw [show f - 1 = (k : Int) from by omega, Int.toNat_natCast]
    refine ⟨?_, h1⟩
    have : L = R + (k + 1) := by omega
    subst this
    refine Nat.le_of_lt ?_
    calc m * 2^k < 2^(R + 1) * 2^k := Nat.mul_lt_mul_of_pos_right b2 (Nat.two_pow_pos k)
      _ = 2^(R + (k + 1)) := by rw [← Nat.pow_add]; congr 1; omega
      _ ≤ n := a1
def lastBit (f : Int) : Int := if f - 52 < -1074 then -1074 else f - 52
def upN (n : Nat) (e : Int) : Nat := n * 2^(-e).toNat
def upM (m : Nat) (e : Int) : Nat := m * 2^e.toNat
theorem w_lt {n m : Nat} {f : Int} (hm : 0 < m) (h : Sc n m f) : upN n (lastBit f) / upM m (lastBit f) < 2^53 := by
  have hM : 0 < upM m (lastBit f) := Nat.mul_pos hm (Nat.two_pow_pos _)
  rw [Nat.div_lt_iff_lt_mul hM]
  have he : f - 52 ≤ lastBit f := by unfold lastBit; split <;> omega
  obtain ⟨e, hee⟩ : ∃ e, lastBit f = e := ⟨_, rfl⟩
  rw [hee] at he ⊢
  unfold upN upM
  rcases Int.lt_or_le f 0 with hf | hf
  · have h2 := (h.2 hf).2
    obtain ⟨k, hk⟩ : ∃ k : Nat, -f = k := ⟨(-f).toNat, by omega⟩
    rw [hk, Int.toNat_natCast] at h2
    rcases Int.lt_or_le e 0 with h0 | h0
    · rw [show e.toNat = 0 from by omega, Nat.pow_zero, Nat.mul_one]
      calc n * 2^(-e).toNat ≤ n * 2^(k + 52) := Nat.mul_le_mul_left _ (Nat.pow_le_pow_right (by omega) (by omega))
        _ = n * 2^k * 2^52 := by rw [Nat.pow_add, Nat.mul_assoc]
        _ < 2 * m * 2^52 := Nat.mul_lt_mul_of_pos_right h2 (Nat.two_pow_pos 52)
        _ = 2^53 * m := by omega
    · rw [show (-e).toNat = 0 from by omega, Nat.pow_zero, Nat.mul_one]
      have h3 : n ≤ n * 2^k := Nat.le_mul_of_pos_right _ (Nat.two_pow_pos k)
      have h4 : m ≤ m * 2^e.toNat := Nat.le_mul_of_pos_right _ (Nat.two_pow_pos _)
      have : 2 * m ≤ 2^53 * (m * 2^e.toNat) := Nat.mul_le_mul (by omega) h4
      omega
  · have h2 := (h.1 hf).2
    obtain ⟨k, rfl⟩ : ∃ k : Nat, f = k := ⟨f.toNat, by omega⟩
    rw [Int.toNat_natCast] at h2
    rcases Int.lt_or_le e 0 with h0 | h0
    · rw [show e.toNat = 0 from by omega, Nat.pow_zero, Nat.mul_one]
      calc n * 2^(-e).toNat < m * 2^(k + 1) * 2^(-e).toNat := Nat.mul_lt_mul_of_pos_right h2 (Nat.two_pow_pos _)
        _ = m * 2^(k + 1 + (-e).toNat) := by rw [Nat.mul_assoc, ← Nat.pow_add]
        _ ≤ m * 2^53 := Nat.mul_le_mul_left _ (Nat.pow_le_pow_right (by omega) (by omega))
        _ = 2^53 * m := Nat.mul_comm _ _
    · rw [show (-e).toNat = 0 from by omega, Nat.pow_zero, Nat.mul_one]
      calc n < m * 2^(k + 1) := h2
        _ ≤ m * 2^(53 + e.toNat) := Nat.mul_le_mul_left _ (Nat.pow_le_pow_right (by omega) (by omega))
        _ = 2^53 * (m * 2^e.toNat) := by rw [Nat.pow_add]; ac_rfl
theorem w_ge {n m : Nat} {f : Int} (hm : 0 < m) (h : Sc n m f) (hb : -1074 < lastBit f) : 2^52 ≤ upN n (lastBit f) / upM m (lastBit f) := by
  have hM : 0 < upM m (lastBit f) := Nat.mul_pos hm (Nat.two_pow_pos _)
  rw [Nat.le_div_iff_mul_le hM]
  have he : lastBit f = f - 52 := by unfold lastBit at *; split at * <;> omega
  rw [he]
  unfold upN upM
  rcases Int.lt_or_le f 0 with hf | hf
  · have h2 := (h.2 hf).1
    obtain ⟨k, hk⟩ : ∃ k : Nat, -f = k := ⟨(-f).toNat, by omega⟩
    rw [hk, Int.toNat_natCast] at h2
    rw [show (f - 52).toNat = 0 from by omega, Nat.pow_zero, Nat.mul_one, show -(f - 52) = ((k + 52 : Nat) : Int) from by omega, Int.toNat_natCast, Nat.pow_add]
    calc 2^52 * m ≤ 2^52 * (n * 2^k) := Nat.mul_le_mul_left _ h2
      _ = n * (2^k * 2^52) := by ac_rfl
  · have h2 := (h.1 hf).1
    obtain ⟨k, rfl⟩ : ∃ k : Nat, f = k := ⟨f.toNat, by omega⟩
    rw [Int.toNat_natCast] at h2
    rcases Int.lt_or_le (k : Int) 52 with h0 | h0
    · rw [show ((k : Int) - 52).toNat = 0 from by omega, Nat.pow_zero, Nat.mul_one]
      have : 52 = k + (-((k : Int) - 52)).toNat := by omega
      calc 2^52 * m = 2^(k + (-((k : Int) - 52)).toNat) * m := by rw [← this]
        _ = m * 2^k * 2^(-((k : Int) - 52)).toNat := by rw [Nat.pow_add]; ac_rfl
        _ ≤ n * 2^(-((k : Int) - 52)).toNat := Nat.mul_le_mul_right _ h2
    · rw [show (-((k : Int) - 52)).toNat = 0 from by omega, Nat.pow_zero, Nat.mul_one]
      have : k = 52 + ((k : Int) - 52).toNat := by omega
      calc 2^52 * (m * 2^((k : Int) - 52).toNat) = m * 2^(52 + ((k : Int) - 52).toNat) := by rw [Nat.pow_add]; ac_rfl
        _ = m * 2^k := by rw [← this]
        _ ≤ n := h2
theorem units {n m U : Nat} {e : Int} (hm : 0 < m) (he : -(U : Int) ≤ e) :
    (upN n e / upM m e) * 2^(e + U).toNat * m ≤ n * 2^U ∧ n * 2^U < (upN n e / upM m e + 1) * 2^(e + U).toNat * m ∧
      (upN n e % upM m e = 0 → n * 2^U = (upN n e / upM m e) * 2^(e + U).toNat * m) ∧ (upN n e % upM m e ≠ 0 → (upN n e / upM m e) * 2^(e + U).toNat * m < n * 2^U) := by
  have hM : 0 < upM m e := Nat.mul_pos hm (Nat.two_pow_pos _)
  have h1 := Nat.div_add_mod (upN n e) (upM m e)
  have h2 := Nat.mod_lt (upN n e) hM
  obtain ⟨c, hc, hN, hP⟩ : ∃ c, 0 < c ∧ n * 2^U = upN n e * c ∧ 2^(e + U).toNat * m = upM m e * c := by
    rcases Int.lt_or_le e 0 with h0 | h0
    · refine ⟨2^(e + U).toNat, Nat.two_pow_pos _, ?_, ?_⟩
      · unfold upN
        rw [Nat.mul_assoc, ← Nat.pow_add]
        congr 2; omega
      · unfold upM
        rw [show e.toNat = 0 from by omega, Nat.pow_zero, Nat.mul_one, Nat.mul_comm]
    · refine ⟨2^U, Nat.two_pow_pos _, ?_, ?_⟩
      · unfold upN
        rw [show (-e).toNat = 0 from by omega, Nat.pow_zero, Nat.mul_one]
      · unfold upM
        rw [show (e + U).toNat = e.toNat + U from by omega, Nat.pow_add]; ac_rfl
  obtain ⟨D, hD⟩ : ∃ D, upM m e = D := ⟨_, rfl⟩
  obtain ⟨q, hq⟩ : ∃ q, upN n e / D = q := ⟨_, rfl⟩
  obtain ⟨r, hr⟩ : ∃ r, upN n e % D = r := ⟨_, rfl⟩
  rw [hD] at h1 h2 hP ⊢
  rw [hq, hr] at h1
  rw [hr] at h2
  rw [hq, hr, hN, Nat.mul_assoc, Nat.mul_assoc, hP, ← h1]
  have e1 : q * (D * c) = D * q * c := by ac_rfl
  have e2 : (q + 1) * (D * c) = (D * q + D) * c := by rw [Nat.add_mul, Nat.one_mul, e1, Nat.add_mul]
  rw [e1, e2]
  refine ⟨Nat.mul_le_mul_right _ (by omega), Nat.mul_lt_mul_of_pos_right (by omega) hc, fun h => by rw [h, Nat.add_zero], fun h => Nat.mul_lt_mul_of_pos_right (by omega) hc⟩
end Go.Proofs.YthlmlmfebpjgdaaGreatDoor

namespace Go.Proofs.YthlmlmfebpjgdaaGreatDoor
open Go.RowKit
def cutT (n m : Nat) (e : Int) : Nat := (e + 1074).toNat * 2^52 + upN n e / upM m e
def capT (n m : Nat) (e : Int) : Nat := (e + 1074).toNat * 2^52 + (upN n e / upM m e + if upN n e % upM m e = 0 then 0 else 1)
theorem lastBit_bounds {f : Int} (hf : f ≤ 1023) : -1074 ≤ lastBit f ∧ lastBit f ≤ 971 := by unfold lastBit; split <;> omega
theorem mag_cut {n m : Nat} {f : Int} (hm : 0 < m) (h : Sc n m f) (c : Nat) (hc : c ≤ 1) :
    mag ((lastBit f + 1074).toNat * 2^52 + (upN n (lastBit f) / upM m (lastBit f) + c)) = (upN n (lastBit f) / upM m (lastBit f) + c) * 2^(lastBit f + 1074).toNat := by
  have h1 := w_lt hm h
  refine mag_form _ _ ?_ (by omega)
  by_cases hb : -1074 < lastBit f
  · have := w_ge hm h hb; right; omega
  · left; omega
theorem cut_lt {n m : Nat} {f : Int} (hm : 0 < m) (h : Sc n m f) (hf : f ≤ 1023) : cutT n m (lastBit f) < M := by
  have h1 := w_lt hm h
  have h2 := lastBit_bounds hf
  unfold cutT; rw [M_val]; omega
theorem cap_le {n m : Nat} {f : Int} (hm : 0 < m) (h : Sc n m f) (hf : f ≤ 1023) : capT n m (lastBit f) ≤ M := by
  have h1 := w_lt hm h
  have h2 := lastBit_bounds hf
  unfold capT; rw [M_val]; split <;> omega
theorem cut_law {n m U : Nat} {f : Int} (hU : U = 1074) (hm : 0 < m) (h : Sc n m f) (hf : f ≤ 1023) (r : Nat) : r ≤ cutT n m (lastBit f) ↔ mag r * m ≤ n * 2^U := by
  have hb := lastBit_bounds hf
  obtain ⟨u1, u2, -, -⟩ := units (n := n) (U := U) hm (show -(U : Int) ≤ lastBit f by omega)
  have m0 := mag_cut hm h 0 (by omega)
  have m1 := mag_cut hm h 1 (by omega)
  rw [Nat.add_zero] at m0
  rw [show (lastBit f + (U : Int)).toNat = (lastBit f + 1074).toNat from by omega] at u1 u2
  rw [← m0] at u1
  rw [← m1] at u2
  have e : (lastBit f + 1074).toNat * 2^52 + (upN n (lastBit f) / upM m (lastBit f) + 1) = cutT n m (lastBit f) + 1 := by unfold cutT; omega
  rw [e] at u2
  constructor
  · intro hr
    have h1 : mag r ≤ mag (cutT n m (lastBit f)) := mag_le_iff.2 hr
    exact Nat.le_trans (Nat.mul_le_mul_right m h1) u1
  · intro hr
    by_cases hc : r ≤ cutT n m (lastBit f)
    · exact hc
    · have h1 : mag (cutT n m (lastBit f) + 1) ≤ mag r := mag_le_iff.2 (by omega)
      have h2 := Nat.mul_le_mul_right m h1
      exact absurd (Nat.lt_of_lt_of_le u2 h2) (by omega)
theorem cap_law {n m U : Nat} {f : Int} (hU : U = 1074) (hm : 0 < m) (h : Sc n m f) (hf : f ≤ 1023) (r : Nat) : capT n m (lastBit f) ≤ r ↔ n * 2^U ≤ mag r * m := by
  have hb := lastBit_bounds hf
  obtain ⟨u1, u2, u3, u4⟩ := units (n := n) (U := U) hm (show -(U : Int) ≤ lastBit f by omega)
  have m0 := mag_cut hm h 0 (by omega)
  have m1 := mag_cut hm h 1 (by omega)
  rw [Nat.add_zero] at m0
  rw [show (lastBit f + (U : Int)).toNat = (lastBit f + 1074).toNat from by omega] at u1 u2 u3 u4
  rw [← m0] at u1 u3 u4
  rw [← m1] at u2
  have e : (lastBit f + 1074).toNat * 2^52 + (upN n (lastBit f) / upM m (lastBit f) + 1) = cutT n m (lastBit f) + 1 := by unfold cutT; omega
  have e0 : (lastBit f + 1074).toNat * 2^52 + (upN n (lastBit f) / upM m (lastBit f)) = cutT n m (lastBit f) := rfl
  rw [e] at u2
  rw [e0] at u1 u3 u4
  by_cases hz : upN n (lastBit f) % upM m (lastBit f) = 0
  · have hc : capT n m (lastBit f) = cutT n m (lastBit f) := by unfold capT cutT; rw [if_pos hz, Nat.add_zero]
    rw [hc, u3 hz]
    constructor
    · intro hr; exact Nat.mul_le_mul_right m (mag_le_iff.2 hr)
    · intro hr
      exact mag_le_iff.1 (Nat.le_of_mul_le_mul_right hr hm)
  · have hc : capT n m (lastBit f) = cutT n m (lastBit f) + 1 := by unfold capT cutT; rw [if_neg hz]; omega
    rw [hc]
    have u4 := u4 hz
    constructor
    · intro hr
      exact Nat.le_trans (Nat.le_of_lt u2) (Nat.mul_le_mul_right m (mag_le_iff.2 hr))
    · intro hr
      have h2 := Nat.lt_of_mul_lt_mul_right (Nat.lt_of_lt_of_le u4 hr)
      have := mag_lt_iff.1 h2
      omega
theorem over_law {n m U : Nat} {f : Int} (hU : U = 1074) (hm : 0 < m) (h : Sc n m f) (hf : 1023 < f) (r : Nat) (hr : r < M) : mag r * m < n * 2^U := by
  have h1 := (h.1 (by omega)).1
  have h2 : mag r < mag M := mag_lt_iff.2 hr
  have h3 : mag M = 2^52 * 2^2046 := by
    have := mag_form 2046 (2^52) (.inr (Nat.le_refl _)) (by decide)
    rw [← this]; rfl
  rw [h3] at h2
  obtain ⟨k, rfl⟩ : ∃ k : Nat, f = ((1024 + k : Nat) : Int) := ⟨(f - 1024).toNat, by omega⟩
  rw [Int.toNat_natCast] at h1
  obtain ⟨V, hV⟩ : ∃ V, V = 2046 := ⟨_, rfl⟩
  rw [← hV] at h2
  calc mag r * m < 2^52 * 2^V * m := Nat.mul_lt_mul_of_pos_right h2 hm
    _ = m * 2^(52 + V) := by rw [Nat.pow_add]; ac_rfl
    _ ≤ m * 2^(1024 + k + U) := Nat.mul_le_mul_left _ (Nat.pow_le_pow_right (by omega) (by omega))
    _ = m * 2^(1024 + k) * 2^U := by rw [Nat.pow_add 2 (1024 + k) U, Nat.mul_assoc]
    _ ≤ n * 2^U := Nat.mul_le_mul_right _ h1
theorem rv_le_false {p q p' q' : Nat} (hq : 0 < q) (hq' : 0 < q') : rv false p q ≤ rv false p' q' ↔ p * q' ≤ p' * q := by
  have := rv_lt_false (p := p') (p' := p) hq' hq
  constructor
  · intro h
    by_cases hc : p * q' ≤ p' * q
    · exact hc
    · exact absurd (this.2 (by omega)) (by grind)
  · intro h
    by_cases hc : rv false p q ≤ rv false p' q'
    · exact hc
    · have := this.1 (by grind); omega
theorem fl_nat (r : Nat) {U : Nat} (hU : U = 1074) : fl (r : Int) = rv false (mag r) (2^U) := by
  unfold rv fl
  rw [if_neg (by decide), val_nat]
  refine eq_div (cast_ne (Nat.two_pow_pos U)) ?_
  rw [← zpow_nat, show (-1074 : Int) = -(U : Int) from by omega, Rat.mul_assoc, ← zpow_add, show -(U : Int) + (U : Int) = 0 from by omega, Rat.zpow_zero, Rat.mul_one]
  rfl
theorem fl_neg (i : Int) : fl (-i) = - fl i := by
  unfold fl
  rw [val_neg, Rat.intCast_neg]; grind
theorem fl_lt_iff {i j : Int} : fl i < fl j ↔ i < j := by
  unfold fl
  rw [Rat.mul_lt_mul_right (zpow_pos _), Rat.intCast_lt_intCast, val_lt_iff]
theorem fl_le_iff {i j : Int} : fl i ≤ fl j ↔ i ≤ j := by
  have := @fl_lt_iff j i
  constructor
  · intro h
    by_cases hc : i ≤ j
    · exact hc
    · exact absurd (this.2 (by omega)) (by grind)
  · intro h
    by_cases hc : fl i ≤ fl j
    · exact hc
    · have := this.1 (by grind); omega
theorem fl_zero : fl 0 = 0 := by unfold fl; rw [val_zero]; grind
def Rnd (d : Int) (x : Rat) (i : Int) : Prop :=
  (d = -1 ∧ -(M : Int) ≤ i ∧ i < M ∧ ∀ j : Int, -(M : Int) < j → j < M → (j ≤ i ↔ fl j ≤ x)) ∨
  (d = 1 ∧ -(M : Int) < i ∧ i ≤ M ∧ ∀ j : Int, -(M : Int) < j → j < M → (i ≤ j ↔ x ≤ fl j))
theorem Rnd.neg {d : Int} {x : Rat} {i : Int} (h : Rnd d x i) : Rnd (-d) (-x) (-i) := by
  rcases h with ⟨rfl, h1, h2, h3⟩ | ⟨rfl, h1, h2, h3⟩
  · refine .inr ⟨rfl, by omega, by omega, fun j hj hj' => ?_⟩
    have := h3 (-j) (by omega) (by omega)
    rw [fl_neg] at this
    constructor
    · intro h; have := this.1 (by omega); grind
    · intro h; have := this.2 (by grind); omega
  · refine .inl ⟨rfl, by omega, by omega, fun j hj hj' => ?_⟩
    have := h3 (-j) (by omega) (by omega)
    rw [fl_neg] at this
    constructor
    · intro h; have := this.1 (by omega); grind
    · intro h; have := this.2 (by grind); omega
theorem Rnd.exact {d a i : Int} (h : Rnd d (fl a) i) (h0 : -(M : Int) < a) (h1 : a < M) : i = a := by
  rcases h with ⟨rfl, a1, a2, a3⟩ | ⟨rfl, a1, a2, a3⟩
  · have h2 := (a3 a h0 h1).2 Rat.le_refl
    by_cases hc : i = a
    · exact hc
    · have := (a3 i (by omega) a2).1 (by omega)
      rw [fl_le_iff] at this; omega
  · have h2 := (a3 a h0 h1).2 Rat.le_refl
    by_cases hc : i = a
    · exact hc
    · have := (a3 i a1 (by omega)).1 (by omega)
      rw [fl_le_iff] at this; omega
theorem rnd_zero {d : Int} (hd : d = -1 ∨ d = 1) : Rnd d 0 0 := by
  rw [← fl_zero]
  rcases hd with rfl | rfl
  · exact .inl ⟨rfl, by rw [M_val]; omega, by rw [M_val]; omega, fun j _ _ => fl_le_iff.symm⟩
  · exact .inr ⟨rfl, by rw [M_val]; omega, by rw [M_val]; omega, fun j _ _ => fl_le_iff.symm⟩
theorem rnd_down {n m t U : Nat} (hU : U = 1074) (hn : 0 < n) (hm : 0 < m) (ht : t < M) (h : ∀ r : Nat, r < M → (r ≤ t ↔ mag r * m ≤ n * 2^U)) : Rnd (-1) (rv false n m) t := by
  refine .inl ⟨rfl, by omega, by omega, fun j hj hj' => ?_⟩
  rcases Int.lt_or_le j 0 with h0 | h0
  · have h1 : fl j < fl 0 := fl_lt_iff.2 h0
    rw [fl_zero] at h1
    have h2 := rv_pos hn hm
    constructor
    · intro _; grind
    · intro _; omega
  · obtain ⟨r, rfl⟩ : ∃ r : Nat, j = r := ⟨j.toNat, by omega⟩
    rw [fl_nat r hU, rv_le_false (Nat.two_pow_pos U) hm, ← h r (by omega)]
    omega
theorem rnd_up {n m t U : Nat} (hU : U = 1074) (hn : 0 < n) (hm : 0 < m) (ht : t ≤ M) (h : ∀ r : Nat, r < M → (t ≤ r ↔ n * 2^U ≤ mag r * m)) : Rnd 1 (rv false n m) t := by
  have hp : 0 < n * 2^U := Nat.mul_pos hn (Nat.two_pow_pos U)
  have h0 : 0 < t := by
    have h1 := h 0 (by rw [M_val]; omega)
    rw [mag_zero, Nat.zero_mul] at h1
    omega
  refine .inr ⟨rfl, by omega, by omega, fun j hj hj' => ?_⟩
  rcases Int.lt_or_le j 0 with h0 | h0
  · have h1 : fl j < fl 0 := fl_lt_iff.2 h0
    rw [fl_zero] at h1
    have h2 := rv_pos hn hm
    constructor
    · intro _; omega
    · intro _; grind
  · obtain ⟨r, rfl⟩ : ∃ r : Nat, j = r := ⟨j.toNat, by omega⟩
    rw [fl_nat r hU, rv_le_false hm (Nat.two_pow_pos U), ← h r (by omega)]
    omega
def sg (neg : Bool) (t : Nat) : Int := if neg then -(t : Int) else (t : Int)
def ansT (p q : Nat) (f : Int) (away : Bool) : Nat := if 1023 < f then (if away then M else M - 1) else (if away then capT p q (lastBit f) else cutT p q (lastBit f))
theorem rnd_ans {p q : Nat} {f d : Int} {neg : Bool} (hp : 0 < p) (hq : 0 < q) (h : Sc p q f) (hd : d = -1 ∨ d = 1) : Rnd d (rv neg p q) (sg neg (ansT p q f (decide (d = 1) != neg))) := by
  obtain ⟨U, hU⟩ : ∃ U, U = 1074 := ⟨_, rfl⟩
  have up : Rnd 1 (rv false p q) (ansT p q f true) := by
    unfold ansT
    by_cases hf : 1023 < f
    · rw [if_pos hf, if_pos rfl]
      refine rnd_up hU hp hq (Nat.le_refl _) fun r hr => ?_
      have := over_law hU hq h hf r hr
      omega
    · rw [if_neg hf, if_pos rfl]
      exact rnd_up hU hp hq (cap_le hq h (by omega)) fun r _ => cap_law hU hq h (by omega) r
  have down : Rnd (-1) (rv false p q) (ansT p q f false) := by
    unfold ansT
    by_cases hf : 1023 < f
    · rw [if_pos hf, if_neg (by decide)]
      refine rnd_down hU hp hq (by rw [M_val]; omega) fun r hr => ?_
      have := over_law hU hq h hf r hr
      omega
    · rw [if_neg hf, if_neg (by decide)]
      exact rnd_down hU hp hq (cut_lt hq h (by omega)) fun r _ => cut_law hU hq h (by omega) r
  rcases hd with rfl | rfl <;> cases neg
  · exact down
  · have := up.neg
    rw [← rv_true] at this
    exact this
  · exact up
  · have := down.neg
    rw [← rv_true] at this
    exact this
end Go.Proofs.YthlmlmfebpjgdaaGreatDoor

namespace Go.Proofs.YthlmlmfebpjgdaaGreatDoor
open Go.RowKit
theorem rv_nat (v : Nat) : rv false v 1 = (v : Rat) := by
  unfold rv
  exact div_eq (by decide) (by show (v : Rat) = v * 1; rw [Rat.mul_one])
theorem int_K (K v : Nat) (w : World) (hK : K = 1) (hv : v < 4294967296) :
    Calls Tryz.prog 51 #[.int .i64 (v : Int)] w (NewRat w K (rv false v 1)) := by
  have hvk : v < 2^(32 * K) := by subst hK; exact hv
  have h1k : 1 < 2^(32 * K) := by subst hK; decide
  have ba := below_alloc w (.cells #[.bool false, .slice none 0 0, .slice none 0 0] 42)
  have BA := Lib.hid ba
  have BLK := Lib.hid (Blk.new w 42 #[.bool false, .slice none 0 0, .slice none 0 0])
  have HS := Lib.hid (small_any v (w.alloc (.cells #[.bool false, .slice none 0 0, .slice none 0 0] 42)) (by omega))
  have HV := Lib.hid hvk
  have H1 := Lib.hid h1k
  have HK34 := Lib.hid hK
  have hv0 : (0 : Int) ≤ (v : Int) := by omega
  clear ba hvk h1k hK
  go_enter Tryz.func51, Tryz.ntmps51
  go_wp2_with fail
  refine HS.out.mono ?_
  rintro e1 w1 ⟨A, n, c, rfl, hu1, hb1⟩
  have hW : Below w.heap.size w (w1.alloc (.cells #[wd 1] 117)) := (BA.out.trans (hb1.mono BA.out.size)).alloc (by have := BA.out.size; have := hb1.size; omega) _
  have hKK := (BLK.out.keep hb1).alloc (.cells #[wd 1] 117)
  have HF := Lib.hid (frac_plain false A (some ⟨w1.heap.size, 0, none⟩) n c 1 1 K v 1 (w1.alloc (.cells #[wd 1] 117)) (hu1.alloc _) (by rw [digs_one]; exact U32s.lit1 w1 117 (a := 1) (by omega)) (by omega) HV.out H1.out (by have := HK34.out; omega) (by have := HK34.out; omega))
  have HW := Lib.hid hW
  have HK := Lib.hid hKK
  clear hu1 hb1 hW hKK HS
  go_wp2_with fail
  refine HF.out.mono ?_
  rintro e2 w2 ⟨neg2, vn, vd, rfl, hr, hb2⟩
  obtain ⟨A5, n5, c5, A6, n6, c6, rfl, rfl⟩ := hr.shape
  have hblk := HK.out.keep hb2
  have k0 := hblk.cell 0
  have k1 := hblk.cell 1
  have k2 := hblk.cell 2
  have f0 := hblk.frozen 0
  have f1 := hblk.frozen 1
  have f2 := hblk.frozen 2
  have hlt := hblk.lt
  have FF := Lib.hid (NewRat.lay hr HW.out hb2 HK.out NoWd.zero (Nat.le_refl _))
  clear hblk hb2 hr HF
  simp at k0 k1 k2
  go_wp2
  refine bodyPost_ret (v := .agg #[.bool neg2, .slice A5 n5 c5, .slice A6 n6 c6]) (by simp [results, Tryz.results51, go_sem, k0, k1, k2]) rfl ?_
  exact FF.out
theorem int_nat (v : Nat) (w : World) (hv : v < 4294967296) :
    Calls Tryz.prog 51 #[.int .i64 (v : Int)] w (NewRat w 1 (v : Rat)) := by
  have h := int_K 1 v w rfl hv
  rw [rv_nat] at h
  exact h
end Go.Proofs.YthlmlmfebpjgdaaGreatDoor

namespace Go.Proofs.YthlmlmfebpjgdaaGreatDoor
open Go.RowKit
theorem size_i {b : Nat} (hb : b < 18446744073709551616) : bits .andNot .u64 (b : Int) 9223372036854775808 = ((rungOf b : Nat) : Int) := by
  have := u64_andNot_nat b 9223372036854775808 hb (by omega)
  rw [show (18446744073709551615 - 9223372036854775808 : Nat) = 2^63 - 1 from rfl, Nat.and_two_pow_sub_one_eq_mod] at this
  exact this
theorem isnan_any (b : Nat) (w : World) (hb : b < 18446744073709551616) :
    Calls Tryz.prog 204 #[.int .u64 (b : Int)] w fun e w' => e = .returned (.bool (decide (M < rungOf b))) ∧ ∃ k, w' = w.drewN k := by
  have H := Lib.hid (size_i hb)
  go_enter Tryz.func204, Tryz.ntmps204
  go_wp2
  go_ret
  rw [H.out, M_val]
  exact ⟨ret_bool (by simp only [decide_eq_decide]; omega), 0, rfl⟩
theorem isinf_any (b : Nat) (w : World) (hb : b < 18446744073709551616) :
    Calls Tryz.prog 235 #[.int .u64 (b : Int)] w fun e w' => e = .returned (.bool (decide (rungOf b = M))) ∧ ∃ k, w' = w.drewN k := by
  have H := Lib.hid (size_i hb)
  go_enter Tryz.func235, Tryz.ntmps235
  go_wp2
  go_ret
  rw [H.out, M_val]
  refine ⟨ret_bool ?_, 0, rfl⟩
  rw [Bool.eq_iff_iff]
  simp only [beq_iff_eq, decide_eq_true_eq]
  omega
theorem plain_any (b : Nat) (w : World) (hb : b < 18446744073709551616) :
    Calls Tryz.prog 175 #[.int .u64 (b : Int)] w fun e w' => e = .returned (.int .u64 (pl b : Int)) ∧ ∃ k, w' = w.drewN k := by
  have H := Lib.hid fun W => isnan_any b W hb
  rcases Nat.lt_trichotomy b 9223372036854775808 with h | h | h
  all_goals
    first
    | (subst h
       go_enter Tryz.func175, Tryz.ntmps175
       go_wp2
       go_ret
       exact ⟨ret_int rfl, 0, rfl⟩)
    | (have h1 : ((b : Int) == 9223372036854775808) = false := by simp; omega
       have hp : pl b = if M < rungOf b then 9221120237041090561 else b := by unfold pl; rw [if_neg (by omega)]
       have HP := Lib.hid hp
       rcases Nat.lt_or_ge M (rungOf b) with h2 | h2
       · rw [if_pos h2] at hp
         rw [decide_eq_true h2] at H
         rw [hp]
         clear h hp HP h2
         go_enter Tryz.func175, Tryz.ntmps175
         go_wp2_with (refine (H.out _).mono ?_; rintro e w1 ⟨rfl, k, rfl⟩)
         go_ret
         exact ⟨rfl, k, rfl⟩
       · rw [if_neg (by omega)] at hp
         rw [decide_eq_false (show ¬ M < rungOf b from by omega)] at H
         rw [hp]
         clear h hp HP h2
         go_enter Tryz.func175, Tryz.ntmps175
         go_wp2_with (refine (H.out _).mono ?_; rintro e w1 ⟨rfl, k, rfl⟩)
         go_ret
         exact ⟨rfl, k, rfl⟩)
theorem key_any (b : Nat) (w : World) (hb : b < 18446744073709551616) :
    Calls Tryz.prog 205 #[.int .u64 (b : Int)] w fun e w' => e = .returned (.int .u64 (keyOf b : Int)) ∧ ∃ k, w' = w.drewN k := by
  have H := Lib.hid fun W => plain_any b W hb
  have hp := pl_lt b hb
  obtain ⟨p, hpp⟩ : ∃ p, pl b = p := ⟨_, rfl⟩
  have hk : keyOf b = if 9223372036854775808 ≤ p then 18446744073709551615 - p else p + 9223372036854775808 := by unfold keyOf; rw [hpp]
  rw [hpp] at H hp
  rw [hk]
  have HP := Lib.hid hp
  obtain ⟨r, hr⟩ : ∃ r, (if 9223372036854775808 ≤ p then 18446744073709551615 - p else p + 9223372036854775808) = r := ⟨_, rfl⟩
  rw [hr]
  rcases Nat.lt_or_ge p 9223372036854775808 with h | h
  · rw [if_neg (by omega)] at hr
    have h1 : decide (9223372036854775808 ≤ (p : Int)) = false := by simp; omega
    have h2 : bits .or .u64 (p : Int) 9223372036854775808 = ((r : Nat) : Int) := by
      have := u64_or_nat p 9223372036854775808 hp (by omega)
      rw [Nat.or_comm, nat_join 63 _ _ (by decide) (by exact h), Nat.add_comm, hr] at this; exact this
    clear h hp hk hpp hr
    go_enter Tryz.func205, Tryz.ntmps205
    go_wp2_with fail
    refine (H.out _).mono ?_
    rintro e w1 ⟨rfl, k, rfl⟩
    go_wp2
    go_ret
    exact ⟨ret_int rfl, k, rfl⟩
  · rw [if_pos h] at hr
    have h1 : (9223372036854775808 ≤ (p : Int)) := by omega
    have h2 : bits .xor .u64 18446744073709551615 (p : Int) = ((r : Nat) : Int) := by
      have := u64_xor_nat 18446744073709551615 p (by omega) hp
      rw [show (18446744073709551615 : Nat) = 2^64 - 1 from rfl] at this
      rw [show ((18446744073709551615 : Int)) = ((2^64 - 1 : Nat) : Int) from rfl, this, ← hr]
      congr 1
      apply Nat.eq_of_testBit_eq
      intro i
      rw [Nat.testBit_xor, Nat.testBit_two_pow_sub_one, show 2^64 - 1 - p = 2^64 - (p + 1) from by omega, Nat.testBit_two_pow_sub_succ hp]
      by_cases hi : i < 64
      · simp [hi]
      · simp [hi]
        exact Nat.testBit_lt_two_pow (Nat.lt_of_lt_of_le hp (Nat.pow_le_pow_right (n := 2) (by omega) (by omega : 64 ≤ i)))
    have H2 := Lib.hid h2
    clear h hp hk hpp h2 hr
    go_enter Tryz.func205, Tryz.ntmps205
    go_wp2_with (refine (H.out _).mono ?_; rintro e w1 ⟨rfl, k, rfl⟩)
    go_ret
    exact ⟨ret_int H2.out, k, rfl⟩
theorem above_any (x y : Nat) (w : World) (hx : x < 18446744073709551616) (hy : y < 18446744073709551616) :
    Calls Tryz.prog 144 #[.int .u64 (x : Int), .int .u64 (y : Int)] w fun e w' => e = .returned (.bool (decide (rungOf x ≤ M ∧ rungOf y ≤ M ∧ idx y < idx x))) ∧ ∃ k, w' = w.drewN k := by
  have H1 := Lib.hid fun W => isnan_any x W hx
  have H2 := Lib.hid fun W => isnan_any y W hy
  have K1 := Lib.hid fun W => key_any x W hx
  have K2 := Lib.hid fun W => key_any y W hy
  by_cases h1 : M < rungOf x
  · rw [decide_eq_true h1] at H1
    rw [decide_eq_false (show ¬ (rungOf x ≤ M ∧ rungOf y ≤ M ∧ idx y < idx x) from by omega)]
    clear h1
    go_enter Tryz.func144, Tryz.ntmps144
    go_wp2_with (first | (go_at_call 204; refine (H1.out _).mono ?_; rintro e w1 ⟨rfl, k, rfl⟩))
    go_ret
    exact ⟨rfl, k, rfl⟩
  · rw [decide_eq_false h1] at H1
    by_cases h2 : M < rungOf y
    · rw [decide_eq_true h2] at H2
      rw [decide_eq_false (show ¬ (rungOf x ≤ M ∧ rungOf y ≤ M ∧ idx y < idx x) from by omega)]
      clear h1 h2
      go_enter Tryz.func144, Tryz.ntmps144
      go_wp2_with fail
      refine (H1.out _).mono ?_; rintro e w1 ⟨rfl, k, rfl⟩
      go_wp2_with fail
      refine (H2.out _).mono ?_; rintro e w1 ⟨rfl, k2, rfl⟩
      go_wp2
      go_ret
      exact ⟨rfl, k + k2, rfl⟩
    · rw [decide_eq_false h2] at H2
      have hk := key_lt hy hx (by omega) (by omega)
      have hd : decide (rungOf x ≤ M ∧ rungOf y ≤ M ∧ idx y < idx x) = decide (keyOf y < keyOf x) := by
        rw [decide_eq_decide]; omega
      rw [hd]
      clear h1 h2 hk hd
      go_enter Tryz.func144, Tryz.ntmps144
      go_wp2_with fail
      refine (H1.out _).mono ?_; rintro e w1 ⟨rfl, k, rfl⟩
      go_wp2_with fail
      refine (H2.out _).mono ?_; rintro e w1 ⟨rfl, k2, rfl⟩
      go_wp2_with fail
      refine (K1.out _).mono ?_; rintro e w1 ⟨rfl, k3, rfl⟩
      go_wp2_with fail
      refine (K2.out _).mono ?_; rintro e w1 ⟨rfl, k4, rfl⟩
      go_wp2
      go_ret
      exact ⟨rfl, k + k2 + k3 + k4, rfl⟩
end Go.Proofs.YthlmlmfebpjgdaaGreatDoor

namespace Go.Proofs.YthlmlmfebpjgdaaGreatDoor
open Go.RowKit
theorem infinite_any (neg : Bool) (w : World) :
    Calls Tryz.prog 259 #[.bool neg] w fun e w' => e = .returned (.int .u64 (pat (sg neg M) : Int)) ∧ w = w' := by
  cases neg
  · rw [show pat (sg false M) = 9218868437227405312 from by decide]
    go_enter Tryz.func259, Tryz.ntmps259
    go_wp2
    go_ret
    exact ⟨rfl, rfl⟩
  · rw [show pat (sg true M) = 18442240474082181120 from by decide]
    go_enter Tryz.func259, Tryz.ntmps259
    go_wp2
    go_ret
    exact ⟨rfl, rfl⟩
theorem made_any (neg : Bool) (s k : Nat) (w : World) (hs : s ≤ 9007199254740992) (hk : k ≤ 2045) (hf : k = 0 ∨ 4503599627370496 ≤ s) (hT : k * 4503599627370496 + s < 9218868437227405312) :
    Calls Tryz.prog 262 #[.bool neg, .int .u64 (s : Int), .int .i64 ((k : Int) - 1074)] w fun e w' => e = .returned (.int .u64 (pat (sg neg (k * 4503599627370496 + s)) : Int)) ∧ w = w' := by
  rcases Nat.eq_zero_or_pos s with h0 | h0
  · subst h0
    have hk0 : k = 0 := by omega
    subst hk0
    rw [show pat (sg neg (0 * 4503599627370496 + 0)) = 0 from by cases neg <;> rfl]
    go_enter Tryz.func262, Tryz.ntmps262
    go_wp2
    go_ret
    exact ⟨rfl, rfl⟩
  · obtain ⟨T, hTT⟩ : ∃ T, k * 4503599627370496 + s = T := ⟨_, rfl⟩
    rw [hTT] at hT ⊢
    obtain ⟨P, hP⟩ : ∃ P, pat (sg neg T) = P := ⟨_, rfl⟩
    rw [hP]
    have hT0 : 0 < T := by omega
    have hP0 : neg = false → P = T := by rintro rfl; rw [← hP]; show pat (T : Int) = T; rw [pat_nn (by omega)]; omega
    have hP1 : neg = true → bits .or .u64 (T : Int) 9223372036854775808 = (P : Int) := by
      rintro rfl
      have := u64_or_nat T 9223372036854775808 (by omega) (by omega)
      rw [Nat.or_comm, nat_join 63 _ _ (by decide) (by omega)] at this
      rw [← hP]; show _ = ((pat (-(T : Int)) : Nat) : Int); rw [pat_neg (by omega), Int.natAbs_neg, Int.natAbs_natCast]; exact this
    have HP0 := Lib.hid hP0
    have HP1 := Lib.hid hP1
    have HT := Lib.hid hT
    clear hP hP0 hP1 hT
    go_enter Tryz.func262, Tryz.ntmps262
    have hs0 : ((s : Int) == 0) = false := by simp; omega
    go_wp2
    go_loop [1, 2] (fun v y => ∃ s k : Nat, v = .int .u64 (s : Int) ∧ y = .int .i64 ((k : Int) - 1074) ∧ 0 < s ∧ s ≤ 9007199254740992 ∧ k ≤ 2046 ∧ (k = 0 ∨ 4503599627370496 ≤ s) ∧ k * 4503599627370496 + s = T) (fun v _ => (intOf v).toNat)
    case atStart => exact ⟨s, k, rfl, rfl, h0, hs, by omega, hf, hTT⟩
    case round =>
      clear hs0 hs hk hf hTT h0
      obtain ⟨s, k, rfl, rfl, h0, hs, hk, hf, hTT⟩ := hrel
      by_cases h1 : 9007199254740992 ≤ s
      · have c1 : decide (9007199254740992 ≤ (s : Int)) = true := by simp; omega
        have h3 : s = 9007199254740992 := by omega
        have hTl := HT.out
        have hA : 4503599627370496 ≤ s / 2 := by omega
        have hB : (k + 1) * 4503599627370496 + s / 2 = T := by
          have e1 : s / 2 = 4503599627370496 := by omega
          have e2 := Nat.succ_mul k 4503599627370496
          rw [show (k + 1) * 4503599627370496 = k * 4503599627370496 + 4503599627370496 from e2, e1, Nat.add_assoc, ← hTT, h3]
        have hC : k + 1 ≤ 2046 := by omega
        have hD : s / 2 ≤ 9007199254740992 := by omega
        have hE : 0 < s / 2 := by omega
        have HA := Lib.hid hA
        have HB := Lib.hid hB
        have HC := Lib.hid hC
        have HD := Lib.hid hD
        have HE := Lib.hid hE
        clear hTT hf h1 h3 hA hB hC hD hE hTl
        go_wp2
        go_round
        case rel => exact ⟨s / 2, k + 1, by go_num, by go_num, HE.out, HD.out, HC.out, .inr HA.out, HB.out⟩
        case measure => simp [intOf]; omega
      · have c1 : decide (9007199254740992 ≤ (s : Int)) = false := by simp; omega
        have m1 := and1_u64 (x := s) (by omega)
        have c2 : decide ((k : Int) - 1074 < -1074) = false := by simp; omega
        obtain ⟨r, hr⟩ : ∃ r, s % 2 = r := ⟨_, rfl⟩
        rw [hr] at m1
        have hr2 : r = 0 ∨ r = 1 := by omega
        have HTT := Lib.hid hTT
        have HF := Lib.hid hf
        clear hr hTT hf
        rcases hr2 with rfl | rfl
        all_goals
          go_wp2
          go_loop [1, 2] (fun v y => v = .int .u64 (s : Int) ∧ y = .int .i64 ((k : Int) - 1074)) (fun _ _ => 0)
          case atStart => exact ⟨rfl, rfl⟩
          case round =>
            obtain ⟨rfl, rfl⟩ := hrel
            by_cases h2 : 4503599627370496 ≤ s
            · have c3 : decide ((s : Int) < 4503599627370496) = false := by simp; omega
              have c4 : decide (4503599627370496 ≤ (s : Int)) = true := by simp; omega
              have he : (s : Int) - 4503599627370496 + ((k : Int) - 1074 + 1075) * 4503599627370496 = (T : Int) := by have := HTT.out; omega
              cases neg
              · go_wp2
                go_ret
                exact ⟨ret_int (by have := HP0.out trivial; omega), rfl⟩
              · go_wp2
                go_ret
                exact ⟨ret_int (HP1.out trivial), rfl⟩
            · have c3 : decide ((s : Int) < 4503599627370496) = true := by simp; omega
              have c4 : decide (4503599627370496 ≤ (s : Int)) = false := by simp; omega
              have hk0 : k = 0 := by have := HF.out; omega
              have c5 : decide (-1074 < (k : Int) - 1074) = false := by simp; omega
              have he : s = T := by have := HTT.out; omega
              have HE := Lib.hid he
              clear hk0 he h2
              cases neg
              · go_wp2
                go_ret
                exact ⟨ret_int (by have := HP0.out trivial; have := HE.out; omega), rfl⟩
              · go_wp2
                go_ret
                exact ⟨ret_int (by have := HP1.out trivial; rw [← HE.out] at this; exact this), rfl⟩
theorem greatest_any (neg : Bool) (w : World) :
    Calls Tryz.prog 260 #[.bool neg, .int .i64 53, .int .i64 1023] w fun e w' => e = .returned (.int .u64 (pat (sg neg (M - 1)) : Int)) ∧ w = w' := by
  have HM := Lib.hid (made_any neg 9007199254740991 2045 w (by omega) (by omega) (by omega) (by omega))
  rw [show 2045 * 4503599627370496 + 9007199254740991 = M - 1 from by rw [M_val]] at HM
  obtain ⟨P, hP⟩ : ∃ P, pat (sg neg (M - 1)) = P := ⟨_, rfl⟩
  rw [hP] at HM ⊢
  clear hP
  go_enter Tryz.func260, Tryz.ntmps260
  go_wp2_with fail
  refine HM.out.mono ?_
  rintro e w1 ⟨rfl, rfl⟩
  go_wp2
  go_ret
  exact ⟨rfl, rfl⟩
end Go.Proofs.YthlmlmfebpjgdaaGreatDoor

namespace Go.Proofs.YthlmlmfebpjgdaaGreatDoor
open Go.RowKit
theorem empty6 (w : World) :
    Calls Tryz.prog 107 #[] w fun e w' => e = .returned (.agg #[.int .u64 9218868437227405312, .int .u64 18442240474082181120]) ∧ Below w.heap.size w w' := by
  have hb := Lib.hid fun cs => below_alloc w (.cells cs 24)
  go_enter Tryz.func107, Tryz.ntmps107
  go_wp2
  refine bodyPost_ret (v := .agg #[.int .u64 9218868437227405312, .int .u64 18442240474082181120]) (by simp [results, Tryz.results107, go_sem]) rfl ?_
  exact ⟨rfl, hb.out _⟩
theorem entire6 (w : World) :
    Calls Tryz.prog 206 #[] w fun e w' => e = .returned (.agg #[.int .u64 18442240474082181120, .int .u64 9218868437227405312]) ∧ Below w.heap.size w w' := by
  have hb := Lib.hid fun cs => below_alloc w (.cells cs 24)
  go_enter Tryz.func206, Tryz.ntmps206
  go_wp2
  refine bodyPost_ret (v := .agg #[.int .u64 18442240474082181120, .int .u64 9218868437227405312]) (by simp [results, Tryz.results206, go_sem]) rfl ?_
  exact ⟨rfl, hb.out _⟩
theorem sound6 (x y : Nat) (w : World) (hx : x < 18446744073709551616) (hy : y < 18446744073709551616) :
    Calls Tryz.prog 143 #[.agg #[.int .u64 (x : Int), .int .u64 (y : Int)]] w fun e w' => e = .returned (.bool (snd x y)) ∧ Below w.heap.size w w' := by
  have hb := Lib.hid (below_alloc w (.cells #[.int .u64 (x : Int), .int .u64 (y : Int)] 24))
  have H1 := Lib.hid fun W => isnan_any x W hx
  have H2 := Lib.hid fun W => isnan_any y W hy
  have H3 := Lib.hid fun W => above_any x y W hx hy
  obtain ⟨s, hs⟩ : ∃ s, snd x y = s := ⟨_, rfl⟩
  rw [hs]
  by_cases h1 : M < rungOf x
  · rw [decide_eq_true h1] at H1
    have h0 : s = false := by rw [← hs]; exact decide_eq_false (by omega)
    subst h0
    clear h1 hs
    go_enter Tryz.func143, Tryz.ntmps143
    go_wp2_with fail
    refine (H1.out _).mono ?_; rintro e w1 ⟨rfl, k, rfl⟩
    go_wp2
    go_ret
    exact ⟨rfl, below_drewN hb.out k⟩
  · rw [decide_eq_false h1] at H1
    by_cases h2 : M < rungOf y
    · rw [decide_eq_true h2] at H2
      have h0 : s = false := by rw [← hs]; exact decide_eq_false (by omega)
      subst h0
      clear h1 h2 hs
      go_enter Tryz.func143, Tryz.ntmps143
      go_wp2_with fail
      refine (H1.out _).mono ?_; rintro e w1 ⟨rfl, k, rfl⟩
      go_wp2_with fail
      refine (H2.out _).mono ?_; rintro e w1 ⟨rfl, k2, rfl⟩
      go_wp2
      go_ret
      exact ⟨rfl, below_drewN hb.out _⟩
    · rw [decide_eq_false h2] at H2
      by_cases h3 : idx y < idx x
      · rw [decide_eq_true (show rungOf x ≤ M ∧ rungOf y ≤ M ∧ idx y < idx x from ⟨by omega, by omega, h3⟩)] at H3
        have h0 : s = false := by rw [← hs]; exact decide_eq_false (by omega)
        subst h0
        clear h1 h2 h3 hs
        go_enter Tryz.func143, Tryz.ntmps143
        go_wp2_with fail
        refine (H1.out _).mono ?_; rintro e w1 ⟨rfl, k, rfl⟩
        go_wp2_with fail
        refine (H2.out _).mono ?_; rintro e w1 ⟨rfl, k2, rfl⟩
        go_wp2_with fail
        refine (H3.out _).mono ?_; rintro e w1 ⟨rfl, k3, rfl⟩
        go_wp2
        go_ret
        exact ⟨rfl, below_drewN hb.out _⟩
      · rw [decide_eq_false (show ¬ (rungOf x ≤ M ∧ rungOf y ≤ M ∧ idx y < idx x) from fun h => h3 h.2.2)] at H3
        have c1 := pat_cases hx
        have c2 := pat_cases hy
        have h0 : s = ((!((x : Int) == 9218868437227405312)) && (!((y : Int) == 18442240474082181120))) := by
          rw [← hs]; unfold snd
          rw [M_val] at *
          rw [Bool.eq_iff_iff]
          simp only [decide_eq_true_eq, Bool.and_eq_true, Bool.not_eq_true', beq_eq_false_iff_ne, ne_eq]
          omega
        have HS := Lib.hid h0
        clear h1 h2 h3 hs c1 c2 h0
        by_cases h4 : x = 9218868437227405312
        · subst h4
          go_enter Tryz.func143, Tryz.ntmps143
          go_wp2_with fail
          refine (H1.out _).mono ?_; rintro e w1 ⟨rfl, k, rfl⟩
          go_wp2_with fail
          refine (H2.out _).mono ?_; rintro e w1 ⟨rfl, k2, rfl⟩
          go_wp2_with fail
          refine (H3.out _).mono ?_; rintro e w1 ⟨rfl, k3, rfl⟩
          go_wp2
          go_ret
          exact ⟨ret_bool HS.out.symm, below_drewN hb.out _⟩
        · have h5 : ((x : Int) == 9218868437227405312) = false := by simp; omega
          rw [h5] at HS
          have h6 : ((x : Int) != 9218868437227405312) = true := by simp; omega
          have HS2 := Lib.hid (show s = ((y : Int) != 18442240474082181120) from by rw [HS.out]; rfl)
          clear h4 h5 HS
          go_enter Tryz.func143, Tryz.ntmps143
          go_wp2_with fail
          refine (H1.out _).mono ?_; rintro e w1 ⟨rfl, k, rfl⟩
          go_wp2_with fail
          refine (H2.out _).mono ?_; rintro e w1 ⟨rfl, k2, rfl⟩
          go_wp2_with fail
          refine (H3.out _).mono ?_; rintro e w1 ⟨rfl, k3, rfl⟩
          go_wp2
          go_ret
          exact ⟨ret_bool HS2.out.symm, below_drewN hb.out _⟩
end Go.Proofs.YthlmlmfebpjgdaaGreatDoor
