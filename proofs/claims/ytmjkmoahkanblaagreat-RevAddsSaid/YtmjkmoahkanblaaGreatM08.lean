/-
Walks: package vergeref2, Word.
Walks: package vergeref3, rounded, Bits.
Walks: package vergeref3, Bits.
Walks: package vergeref10, power (of exponent one).
Walks: package vergeref6, sets.
-/
import Derived.Test.YtmjkmoahkanblaaGreatM01
import Derived.Test.YtmjkmoahkanblaaGreatM06
import Derived.Test.YtmjkmoahkanblaaGreatM07
import Derived.Deep.DeepCutAuto
import Derived.Test.YtmjkmoahkanblaaGreatM04
set_option linter.unusedSimpArgs false
set_option linter.unusedVariables false

namespace Go.Proofs.YtmjkmoahkanblaaGreat
open Go.RowKit

set_option maxHeartbeats 800000 in
theorem word_any (A : Option Addr) (n c : Nat) (xs : List Nat) (w : World) (hx : U32s w A n c xs) (hv : wlen xs ≤ 2) :
    Calls Tryz.prog 207 #[.slice A n c] w fun e w' => e = .returned (.tuple #[.int .u64 (num xs), .bool true]) ∧ w = w' := by
  have HX := Lib.hid hx
  have n1 := hx.small
  have l1 := wlen_le xs
  rw [hx.len] at l1
  clear hx
  go_enter Tryz.func207, Tryz.ntmps207
  go_wp2_with fail
  refine (words_any A n c xs w HX.out).mono ?_
  rintro e w' ⟨rfl, rfl⟩
  have g2 : ¬ (2 : Int) < (wlen xs : Int) := by omega
  go_wp2
  go_loop [5, 6] (fun y v => ∃ k x : Nat, v = .int .i64 ((k : Int) - 1) ∧ y = .int .u64 (x : Int) ∧ k ≤ wlen xs ∧ x = num (xs.drop k) ∧ x < 4294967296 ^ (wlen xs - k)) (fun _ v => (intOf v + 1).toNat)
  case atStart => exact ⟨wlen xs, 0, rfl, rfl, Nat.le_refl _, by rw [num_drop HX.out.w32, Nat.div_eq_of_lt (num_lt_wlen HX.out.w32)], Nat.pow_pos (by omega)⟩
  case round =>
    obtain ⟨k, x, rfl, rfl, hk, hx, hlt⟩ := hrel
    have HN := Lib.hid hx
    have HP := Lib.hid hlt
    clear hx hlt
    rcases Nat.eq_zero_or_pos k with h0 | h0
    · subst h0
      go_wp2
      go_ret2
      have hn : num xs = x := HN.out.symm
      exact ⟨by rw [hn]; rfl, rfl⟩
    · obtain ⟨i, rfl⟩ : ∃ i, k = i + 1 := ⟨k - 1, by omega⟩
      obtain ⟨ad, rfl, hc⟩ := HX.out.cell (j := i) (by omega)
      have hy := HX.out.lt i
      have hx1 : x < 4294967296 := by
        have h1 := HP.out
        have h2 : wlen xs - (i + 1) ≤ 1 := by omega
        exact Nat.lt_of_lt_of_le h1 (Nat.le_trans (Nat.pow_le_pow_right (by omega) h2) (by omega))
      have e0 : num (xs.drop i) = xs[i]?.getD 0 + 4294967296 * x := by
        rw [HN.out, num_tail (xs.drop i)]
        congr 2
        · rw [List.getElem?_drop]; rfl
        · rw [List.tail_drop]
      have E0 := Lib.hid e0
      clear e0
      rw [show (((i + 1 : Nat) : Int) - 1) = (i : Int) from by omega]
      have HB := Lib.hid (or_join (i := 32) (x := x) (y := xs[i]?.getD 0) (by omega) hy (by omega))
      go_wp2
      go_round
      case rel =>
        refine ⟨i, x * 4294967296 + xs[i]?.getD 0, rfl, ?_, by omega, by rw [E0.out]; omega, ?_⟩
        · rw [← HB.out]; rfl
        · rw [show wlen xs - i = wlen xs - (i + 1) + 1 from by omega, Nat.pow_succ]
          have h1 := HP.out
          have : (x + 1) * 4294967296 ≤ 4294967296 ^ (wlen xs - (i + 1)) * 4294967296 := Nat.mul_le_mul_right _ h1
          omega
      case measure => simp [intOf]

end Go.Proofs.YtmjkmoahkanblaaGreat

namespace Go.Proofs.YtmjkmoahkanblaaGreat
open Go.RowKit

theorem by_v {a b : Nat} (A B : Option Addr) (n c m d : Nat) (w : World) (hx : U32s w A n c (digs a)) (hy : U32s w B m d (digs b)) (hs : n ≤ 1073741824) (hm : m ≤ 1073741824) (h0 : 0 < b) :
    Calls Tryz.prog 206 #[.slice A n c, .slice B m d] w (NewU32s w (digs (a / b)) (digs (a % b))) := by
  rcases Nat.lt_or_ge a b with h | h
  · have := by_less A B n c m d _ _ w hx hy (by omega) (by rw [num_digs, num_digs]; exact h)
    rw [num_digs] at this
    rw [Nat.div_eq_of_lt h, Nat.mod_eq_of_lt h, digs_zero]
    exact this
  · have := by_main A B n c m d _ _ w hx hy hs hm (by rw [num_digs]; exact h0) (by rw [num_digs, num_digs]; exact h)
    rw [num_digs, num_digs] at this
    exact this
theorem len_v {a : Nat} (A : Option Addr) (n c : Nat) (w : World) (hx : U32s w A n c (digs a)) :
    Calls Tryz.prog 203 #[.slice A n c] w fun e w' => e = .returned (.int .i64 (blen a : Int)) ∧ w = w' := by
  have := len_any A n c _ w hx
  rw [num_digs] at this
  exact this
theorem cmp_v {a b : Nat} (A B : Option Addr) (n c m d : Nat) (w : World) (hx : U32s w A n c (digs a)) (hy : U32s w B m d (digs b)) :
    Calls Tryz.prog 142 #[.slice A n c, .slice B m d] w fun e w' => e = .returned (.int .i64 (cmp3 a b)) ∧ ∃ k, w' = w.drewN k := by
  have := cmp_any A B n c m d _ _ w hx hy
  rw [num_digs, num_digs] at this
  exact this
theorem word_v {a : Nat} (A : Option Addr) (n c : Nat) (w : World) (hx : U32s w A n c (digs a)) (h : a < 18446744073709551616) :
    Calls Tryz.prog 207 #[.slice A n c] w fun e w' => e = .returned (.tuple #[.int .u64 (a : Int), .bool true]) ∧ w = w' := by
  have h2 : n ≤ 2 := hx.len_le (k := 2) (Nat.lt_of_lt_of_le h (by decide))
  have := word_any A n c _ w hx (by have := wlen_le (digs a); have := hx.len; omega)
  rw [num_digs] at this
  exact this
/-- The exponent before it is mended, whether it is, and after. -/
def fdec (p q : Nat) (f : Int) : Bool := if 0 ≤ f then decide (p < q * 2^f.toNat) else decide (p * 2^(-f).toNat < q)
def fout (p q : Nat) (f : Int) : Int := if fdec p q f then f - 1 else f
theorem fout_sc {p q : Nat} {f : Int} (hp : 0 < p) (hq : 0 < q) (hf : f = (blen p : Int) - blen q) : Sc p q (fout p q f) := by
  unfold fout
  by_cases h : fdec p q f = true
  · rw [if_pos h]
    unfold fdec at h
    refine scale_down hp hq hf (fun h0 => ?_) (fun h0 => ?_)
    · rw [if_pos h0] at h; exact of_decide_eq_true h
    · rw [if_neg (by omega)] at h; exact of_decide_eq_true h
  · rw [if_neg h]
    unfold fdec at h
    refine scale_keep hp hq hf (fun h0 => ?_) (fun h0 => ?_)
    · rw [if_pos h0] at h; simp at h; exact h
    · rw [if_neg (by omega)] at h; simp at h; exact h
theorem cmp3_lt_iff {a b : Nat} : decide (cmp3 a b < 0) = decide (a < b) := by
  rw [decide_eq_decide]
  unfold cmp3
  split
  · constructor <;> intro <;> omega
  · split <;> constructor <;> intro <;> omega

theorem upN_lt {p K : Nat} {E : Int} (hp : p < 2^(32 * K)) (hE : -1074 ≤ E) : upN p E < 2^(32 * (K + 34)) := by
  unfold upN
  calc p * 2^(-E).toNat < 2^(32 * K) * 2^(-E).toNat := Nat.mul_lt_mul_of_pos_right hp (Nat.two_pow_pos _)
    _ = 2^(32 * K + (-E).toNat) := by rw [← Nat.pow_add]
    _ ≤ 2^(32 * (K + 34)) := Nat.pow_le_pow_right (by omega) (by omega)
theorem upM_lt {p K : Nat} {E : Int} (hp : p < 2^(32 * K)) (hE : E ≤ 971) : upM p E < 2^(32 * (K + 34)) := by
  unfold upM
  calc p * 2^E.toNat < 2^(32 * K) * 2^E.toNat := Nat.mul_lt_mul_of_pos_right hp (Nat.two_pow_pos _)
    _ = 2^(32 * K + E.toNat) := by rw [← Nat.pow_add]
    _ ≤ 2^(32 * (K + 34)) := Nat.pow_le_pow_right (by omega) (by omega)

set_option maxRecDepth 8000 in
set_option maxHeartbeats 6400000 in
theorem rounded_pos (K : Nat) (neg : Bool) (A B : Option Addr) (n c m d p q : Nat) (dd : Int) (w : World) (hu : U32s w A n c (digs p)) (hv : U32s w B m d (digs q)) (hp : 0 < p) (hq : 0 < q) (hpK : p < 2^(32 * K)) (hqK : q < 2^(32 * K)) (hK : K ≤ 1048576) (hd : dd = -1 ∨ dd = 1) :
    Calls Tryz.prog 144 #[.int .i64 dd, .agg #[.bool neg, .slice A n c, .slice B m d], .int .i64 53, .int .i64 1023] w fun e w' =>
      e = .returned (.int .u64 (pat (sg neg (ansT p q (fout p q ((blen p : Int) - blen q)) (decide (dd = 1) != neg))) : Int)) ∧ Below w.heap.size w w' := by
  have hr : RatV w K neg (.slice A n c) (.slice B m d) (rv neg p q) := ⟨p, q, A, n, c, B, m, d, rfl, rfl, hu, hv, hq, fun h => by omega, hpK, hqK, rfl⟩
  have ba := below_alloc w (.cells #[.bool neg, .slice A n c, .slice B m d] 60)
  have HS := Lib.hid fun W (hW : Below w.heap.size w W) => rsign_any K neg _ _ _ W (hr.below hW) (by omega)
  rw [rsg_rv hq (fun h => by omega), if_neg (by omega)] at HS
  have HL1 := Lib.hid fun W (hW : Below w.heap.size w W) => len_v A n c W (hu.below hW)
  have HL2 := Lib.hid fun W (hW : Below w.heap.size w W) => len_v B m d W (hv.below hW)
  have bp : blen p ≤ 33554432 := Nat.le_trans (blen_le_iff.2 hpK) (by omega)
  have bq : blen q ≤ 33554432 := Nat.le_trans (blen_le_iff.2 hqK) (by omega)
  obtain ⟨f0, hf0⟩ : ∃ f0, (blen p : Int) - blen q = f0 := ⟨_, rfl⟩
  have hsc := fout_sc hp hq hf0.symm
  rw [hf0]
  obtain ⟨s, hs⟩ : ∃ s : Int, (if neg = true then -1 else 1) = s := ⟨_, rfl⟩
  rw [hs] at HS
  have hs0 : (s == 0) = false := by rw [← hs]; cases neg <;> rfl
  obtain ⟨away, haw⟩ : ∃ a, (decide (dd = 1) != neg) = a := ⟨_, rfl⟩
  rw [haw]
  obtain ⟨f, hff⟩ : ∃ f, fout p q f0 = f := ⟨_, rfl⟩
  rw [hff] at hsc ⊢
  obtain ⟨PP, hPP⟩ : ∃ P, pat (sg neg (ansT p q f away)) = P := ⟨_, rfl⟩
  rw [hPP]
  have HPP := Lib.hid hPP
  have HFF := Lib.hid hff
  clear hPP hff
  have hn1 := hu.len_le hpK
  have hm1 := hv.len_le hqK
  have HU := Lib.hid hu
  have HV := Lib.hid hv
  have G0 := Lib.hid (Blk.new w 60 #[.bool neg, .slice A n c, .slice B m d])
  have BA := Lib.hid ba
  have HF0 := Lib.hid hf0
  have HAW := Lib.hid haw
  have HSS := Lib.hid hs
  have HSC := Lib.hid hsc
  have HPK := Lib.hid hpK
  have HQK := Lib.hid hqK
  have HP := Lib.hid hp
  have HQ := Lib.hid hq
  clear hr ba hu hv hsc haw hs hpK hqK hp hq
  have HHd := Lib.hid hd
  clear hd
  go_enter Tryz.func144, Tryz.ntmps144
  go_wp2_with fail
  refine (HS.out _ BA.out).mono ?_
  rintro e w1 ⟨rfl, hb1⟩
  have B1 := Lib.hid (BA.out.trans (hb1.mono BA.out.size))
  have G1 := Lib.hid (G0.out.keep hb1)
  clear hb1 BA G0 HS
  go_upto_region 4 with fail
  go_cut [10] (fun s10 wx => s10 = .bool away ∧ wx = w1)
  case first =>
    have haw := HAW.out
    have hs := HSS.out
    rcases HHd.out with rfl | rfl <;> cases neg <;> simp at haw hs <;> subst haw <;> subst hs <;> (go_wp2_with fail; go_meet; exact ⟨rfl, rfl⟩)
  case rest =>
  obtain ⟨rfl, rfl⟩ := hcut
  go_upto_region 5 with fail
  go_cut [11] (fun s11 wx => s11 = .bool false ∧ wc = wx)
  case first =>
    rcases HHd.out with rfl | rfl <;> (go_wp2_with fail; go_meet; exact ⟨rfl, rfl⟩)
  case rest =>
  obtain ⟨rfl, rfl⟩ := hcut
  have q1 := G1.out.cell 1
  have q2 := G1.out.cell 2
  simp at q1 q2
  go_wp2_with fail
  refine (HL1.out _ B1.out).mono ?_
  rintro e w2 ⟨rfl, rfl⟩
  go_wp2_with fail
  refine (HL2.out _ B1.out).mono ?_
  rintro e w2 ⟨rfl, rfl⟩
  obtain ⟨dec, hdec⟩ : ∃ b, fdec p q f0 = b := ⟨_, rfl⟩
  have HDEC := Lib.hid hdec
  clear hdec q1 q2
  have HLf := Lib.hid fun (g : Nat) W (hg : g ≤ 33554432) (hW : Below w.heap.size w W) => left_v (v := q) B m d g W (HV.out.below hW) (by omega) (by omega)
  have HLg := Lib.hid fun (g : Nat) W (hg : g ≤ 33554432) (hW : Below w.heap.size w W) => left_v (v := p) A n c g W (HU.out.below hW) (by omega) (by omega)
  go_upto_region 9 with fail
  go_cut [76] (fun s76 wx => s76 = .bool dec ∧ Below w.heap.size w wx)
  case first =>
    rcases Int.lt_or_le f0 0 with h0 | h0
    · obtain ⟨g, hg⟩ : ∃ g : Nat, -f0 = g := ⟨(-f0).toNat, by omega⟩
      have hg2 : g ≤ 33554432 := by omega
      have hd := HDEC.out
      unfold fdec at hd
      rw [if_neg (by omega), show (-f0).toNat = g from by omega, ← cmp3_lt_iff] at hd
      have c1 : decide (0 ≤ f0) = false := by simp; omega
      have c2 : decide (f0 < 0) = true := by simp; omega
      obtain ⟨cv, hcv⟩ : ∃ cv, cmp3 (p * 2^g) q = cv := ⟨_, rfl⟩
      rw [hcv] at hd
      have HCV := Lib.hid hcv
      clear hcv h0 hf0
      go_wp2_with fail
      refine (HLg.out g _ hg2 B1.out).mono ?_
      rintro e w3 ⟨A3, n3, c3, rfl, hu3, hb3⟩
      have B3 := Lib.hid (B1.out.trans (hb3.mono B1.out.size))
      have HC := Lib.hid (cmp_v A3 B n3 c3 m d w3 hu3 (HV.out.below B3.out))
      rw [HCV.out] at HC
      clear hu3 hb3
      go_wp2_with fail
      refine HC.out.mono ?_
      rintro e w4 ⟨rfl, k, rfl⟩
      cases dec <;> (go_wp2_with fail; go_meet; exact ⟨rfl, below_drewN B3.out k⟩)
    · obtain ⟨g, hg⟩ : ∃ g : Nat, f0 = g := ⟨f0.toNat, by omega⟩
      subst hg
      have hg2 : g ≤ 33554432 := by omega
      have hd := HDEC.out
      unfold fdec at hd
      rw [if_pos h0, Int.toNat_natCast, ← cmp3_lt_iff] at hd
      obtain ⟨cv, hcv⟩ : ∃ cv, cmp3 p (q * 2^g) = cv := ⟨_, rfl⟩
      rw [hcv] at hd
      have c2 : decide ((g : Int) < 0) = false := by simp
      have HCV := Lib.hid hcv
      clear hcv h0 hf0
      go_wp2_with fail
      refine (HLf.out g _ hg2 B1.out).mono ?_
      rintro e w3 ⟨A3, n3, c3, rfl, hu3, hb3⟩
      have B3 := Lib.hid (B1.out.trans (hb3.mono B1.out.size))
      have HC := Lib.hid (cmp_v A A3 n c n3 c3 w3 (HU.out.below B3.out) hu3)
      rw [HCV.out] at HC
      clear hu3 hb3
      go_wp2_with fail
      refine HC.out.mono ?_
      rintro e w4 ⟨rfl, k, rfl⟩
      cases dec <;> (go_wp2_with fail; go_meet; exact ⟨rfl, below_drewN B3.out k⟩)
  case rest =>
  obtain ⟨rfl, hbc⟩ := hcut
  have B4 := Lib.hid hbc
  clear hbc B1 G1 HLf HLg
  have hfo : (if dec = true then f0 - 1 else f0) = f := by rw [← HFF.out]; unfold fout; rw [HDEC.out]
  have HFO := Lib.hid hfo
  clear hfo
  go_upto_if 76 with fail
  go_cut [14] (fun s14 wx => s14 = .int .i64 f ∧ Below w.heap.size w wx)
  case first =>
    have hfo := HFO.out
    cases dec
    · rw [if_neg (by decide)] at hfo
      go_wp2_with fail
      go_meet
      exact ⟨by first | rfl | rw [hfo], B4.out⟩
    · rw [if_pos rfl] at hfo
      go_wp2_with fail
      go_meet
      exact ⟨by first | rfl | rw [hfo], B4.out⟩
  case rest =>
  obtain ⟨rfl, hbc⟩ := hcut
  have B5 := Lib.hid hbc
  clear hbc B4
  have hfb : -33554434 ≤ f ∧ f ≤ 33554433 := by
    have := HFO.out
    split at this <;> omega
  have hsn : decide (s < 0) = neg := by rw [← HSS.out]; cases neg <;> rfl
  clear HL1 HL2 hf0
  by_cases hov : 1023 < f
  · have hpp := HPP.out
    unfold ansT at hpp
    rw [if_pos hov] at hpp
    have HI := Lib.hid fun W => infinite_any neg W
    have HG := Lib.hid fun W => greatest_any neg W
    cases away
    · rw [if_neg (by decide)] at hpp
      rw [hpp] at HG
      clear hpp
      go_wp2_with fail
      refine (HG.out _).mono ?_
      rintro e w6 ⟨rfl, rfl⟩
      go_wp2
      go_ret
      exact ⟨rfl, B5.out⟩
    · rw [if_pos rfl] at hpp
      rw [hpp] at HI
      clear hpp
      go_wp2_with fail
      refine (HI.out _).mono ?_
      rintro e w6 ⟨rfl, rfl⟩
      go_wp2
      go_ret
      exact ⟨rfl, B5.out⟩
  · have hov2 : f ≤ 1023 := by omega
    have hov3 : decide (1023 < f) = false := by simp; omega
    obtain ⟨E, hE⟩ : ∃ E, lastBit f = E := ⟨_, rfl⟩
    have hEb := lastBit_bounds hov2
    rw [hE] at hEb
    have hpp := HPP.out
    unfold ansT at hpp
    rw [if_neg hov, hE] at hpp
    have HPP := Lib.hid hpp
    have HE := Lib.hid hE
    have HOV2 := Lib.hid hov2
    clear hpp hE hov hov2
    go_upto_if 103 with fail
    go_cut [15] (fun s15 wx => s15 = .int .i64 E ∧ wc = wx)
    case first =>
      have hE := HE.out
      unfold lastBit at hE
      by_cases h : f - 52 < -1074
      · rw [if_pos h] at hE
        have h2 : decide (f - 53 + 1 < -1074) = true := by simp; omega
        go_wp2_with fail
        go_meet
        exact ⟨by first | rfl | rw [hE], rfl⟩
      · rw [if_neg h] at hE
        have h2 : decide (f - 53 + 1 < -1074) = false := by simp; omega
        have h3 : f - 53 + 1 = E := by omega
        go_wp2_with fail
        go_meet
        exact ⟨by first | rfl | rw [h3], rfl⟩
    case rest =>
    obtain ⟨rfl, rfl⟩ := hcut
    have HLm := Lib.hid fun (g : Nat) W (hg : g ≤ 33554432) (hW : Below w.heap.size w W) => left_v (v := q) B m d g W (HV.out.below hW) (by omega) (by omega)
    have HLn := Lib.hid fun (g : Nat) W (hg : g ≤ 33554432) (hW : Below w.heap.size w W) => left_v (v := p) A n c g W (HU.out.below hW) (by omega) (by omega)
    go_upto_if 109 with fail
    go_cut [12, 13] (fun s12 s13 wx => ∃ A1 n1 c1 B1 m1 d1, s12 = .slice A1 n1 c1 ∧ s13 = .slice B1 m1 d1 ∧ U32s wx A1 n1 c1 (digs (upN p E)) ∧ U32s wx B1 m1 d1 (digs (upM q E)) ∧ Below w.heap.size w wx)
    case first =>
      rcases Int.lt_or_le E 0 with h0 | h0
      · obtain ⟨g, hg⟩ : ∃ g : Nat, -E = g := ⟨(-E).toNat, by omega⟩
        have hg2 : g ≤ 33554432 := by omega
        have e1 : upN p E = p * 2^g := by unfold upN; rw [show (-E).toNat = g from by omega]
        have e2 : upM q E = q := by unfold upM; rw [show E.toNat = 0 from by omega, Nat.pow_zero, Nat.mul_one]
        have E1 := Lib.hid e1
        have E2 := Lib.hid e2
        have c1 : decide (0 ≤ E) = false := by simp; omega
        have c2 : ¬ (0 ≤ E) := by omega
        clear e1 e2
        go_wp2_with fail
        refine (HLn.out g _ hg2 B5.out).mono ?_
        rintro e w6 ⟨A3, n3, c3, rfl, hu3, hb3⟩
        have HU3 := Lib.hid hu3
        have B6 := Lib.hid (B5.out.trans (hb3.mono B5.out.size))
        clear hu3 hb3
        go_wp2_with fail
        go_meet
        exact ⟨A3, n3, c3, B, m, d, rfl, rfl, by rw [E1.out]; exact HU3.out, by rw [E2.out]; exact HV.out.below B6.out, B6.out⟩
      · obtain ⟨g, hg⟩ : ∃ g : Nat, E = g := ⟨E.toNat, by omega⟩
        subst hg
        have hg2 : g ≤ 33554432 := by omega
        have e1 : upM q (g : Int) = q * 2^g := by unfold upM; rw [Int.toNat_natCast]
        have e2 : upN p (g : Int) = p := by unfold upN; rw [show (-(g : Int)).toNat = 0 from by omega, Nat.pow_zero, Nat.mul_one]
        have E1 := Lib.hid e1
        have E2 := Lib.hid e2
        clear e1 e2 h0
        go_wp2_with fail
        refine (HLm.out g _ hg2 B5.out).mono ?_
        rintro e w6 ⟨A3, n3, c3, rfl, hu3, hb3⟩
        have HU3 := Lib.hid hu3
        have B6 := Lib.hid (B5.out.trans (hb3.mono B5.out.size))
        clear hu3 hb3
        go_wp2_with fail
        go_meet
        exact ⟨A, n, c, A3, n3, c3, rfl, rfl, by rw [E2.out]; exact HU.out.below B6.out, by rw [E1.out]; exact HU3.out, B6.out⟩
    case rest =>
    obtain ⟨A1, n1, c1, B1, m1, d1, rfl, rfl, hu1, hv1, hb1⟩ := hcut
    have ln1 := hu1.len_le (upN_lt HPK.out hEb.1)
    have lm1 := hv1.len_le (upM_lt HQK.out hEb.2)
    have hwlt := w_lt HQ.out HSC.out
    have hwge := w_ge HQ.out HSC.out
    rw [HE.out] at hwlt hwge
    have hM : 0 < upM q E := Nat.mul_pos HQ.out (Nat.two_pow_pos _)
    have hpp := HPP.out
    unfold capT cutT at hpp
    obtain ⟨a, ha⟩ : ∃ a, upN p E = a := ⟨_, rfl⟩
    obtain ⟨b, hb⟩ : ∃ a, upM q E = a := ⟨_, rfl⟩
    rw [ha] at hu1 hwlt hwge hpp
    rw [hb] at hv1 hwlt hwge hpp hM
    have HBY := Lib.hid (by_v A1 B1 n1 c1 m1 d1 wc hu1 hv1 (by omega) (by omega) hM)
    obtain ⟨W, hW⟩ : ∃ x, a / b = x := ⟨_, rfl⟩
    obtain ⟨R, hR⟩ : ∃ x, a % b = x := ⟨_, rfl⟩
    rw [hW] at hwlt hwge hpp HBY
    rw [hR] at hpp HBY
    have hRlt : R < 2^(32 * (K + 34)) := by
      have h1 := Nat.mod_lt a hM
      have h2 := upM_lt HQK.out hEb.2
      rw [hb] at h2
      omega
    obtain ⟨k, hk⟩ : ∃ k : Nat, (E + 1074).toNat = k := ⟨_, rfl⟩
    rw [hk] at hpp
    have hEk : ((k : Int) - 1074) = E := by omega
    have hk2 : k ≤ 2045 := by omega
    have hform : k = 0 ∨ 4503599627370496 ≤ W := by
      by_cases h : -1074 < E
      · right; exact hwge h
      · left; omega
    have hWlt : W < 9007199254740992 := hwlt
    have HRLT := Lib.hid hRlt
    have HPP3 := Lib.hid hpp
    have B7 := Lib.hid hb1
    have HV1 := Lib.hid hv1
    have HB0 := Lib.hid hM
    clear hu1 hv1 hb1 hwlt hwge hM hpp ha hb hW hR hRlt hk HPP HE HLm HLn HPK HQK HP HQ HSC HU HV HDEC HFO HFF HF0 HHd HAW HSS HOV2
    have HI := Lib.hid fun W => infinite_any neg W
    have HMD := Lib.hid fun (sg : Nat) X (h1 : sg ≤ 9007199254740992) (h2 : k = 0 ∨ 4503599627370496 ≤ sg) (h3 : k * 4503599627370496 + sg < 9218868437227405312) => made_any neg sg k X h1 hk2 h2 h3
    rw [hEk] at HMD
    have HEk := Lib.hid hEk
    have HK2 := Lib.hid hk2
    have HFM := Lib.hid hform
    clear hEk hk2 hform
    go_wp2_with fail
    refine HBY.out.mono ?_
    rintro e w7 ⟨A2, n2, c2, A3, n3, c3, rfl, hu2, hu3, hb7⟩
    have B8 := Lib.hid (B7.out.trans (hb7.mono B7.out.size))
    have HWD := Lib.hid (word_v A2 n2 c2 w7 hu2 (by omega))
    have hn3 := hu3.len_le HRLT.out
    have hn0 : n3 = 0 ↔ R = 0 := by
      have := @digs_length_eq_zero R
      rw [hu3.len] at this; exact this
    have HL3 := Lib.hid (left_v (v := R) A3 n3 c3 1 w7 hu3 (by omega) (by omega))
    have HV7 := Lib.hid (HV1.out.below hb7)
    have HN0 := Lib.hid hn0
    clear hu2 hu3 hb7 hn0 HBY HV1
    go_wp2_with fail
    refine HWD.out.mono ?_
    rintro e w8 ⟨rfl, rfl⟩
    go_wp2_with fail
    refine HL3.out.mono ?_
    rintro e w8 ⟨A4, n4, c4, rfl, hu4, hb8⟩
    have B9 := Lib.hid (B8.out.trans (hb8.mono B8.out.size))
    have HC4 := Lib.hid (cmp_v A4 B1 n4 c4 m1 d1 w8 hu4 (HV7.out.below hb8))
    clear hu4 hb8 HWD HL3
    obtain ⟨hf, hhf⟩ : ∃ x, cmp3 (R * 2^1) b = x := ⟨_, rfl⟩
    rw [hhf] at HC4
    clear hhf
    go_wp2_with fail
    refine HC4.out.mono ?_
    rintro e w9 ⟨rfl, kk, rfl⟩
    clear HC4
    have hpp := HPP3.out
    have hEk := HEk.out
    have hk2 := HK2.out
    cases away
    · rw [if_neg (by decide)] at hpp
      have hc : ((W : Int) == 9007199254740992) = false := by simp; omega
      have HM1 := Lib.hid fun X => HMD.out W X (by omega) HFM.out (by omega)
      rw [show k * 4503599627370496 + W = k * 2^52 + W from rfl, hpp] at HM1
      clear hpp hEk hk2 HFM HMD HPP3
      go_wp2_with fail
      refine (HM1.out _).mono ?_
      rintro e w10 ⟨rfl, rfl⟩
      go_wp2
      go_ret
      exact ⟨rfl, below_drewN B9.out _⟩
    · rw [if_pos rfl] at hpp
      rcases Nat.eq_zero_or_pos R with hR | hR
      · rw [if_pos hR, Nat.add_zero] at hpp
        obtain rfl : n3 = 0 := HN0.out.2 hR
        clear hR
        have hc : ((W : Int) == 9007199254740992) = false := by simp; omega
        have HM1 := Lib.hid fun X => HMD.out W X (by omega) HFM.out (by omega)
        rw [show k * 4503599627370496 + W = k * 2^52 + W from rfl, hpp] at HM1
        clear hpp hEk hk2 HFM HMD HPP3
        go_wp2_with fail
        refine (HM1.out _).mono ?_
        rintro e w10 ⟨rfl, rfl⟩
        go_wp2
        go_ret
        exact ⟨rfl, below_drewN B9.out _⟩
      · rw [if_neg (by omega)] at hpp
        have hn30 : 0 < n3 := by
          rcases Nat.eq_zero_or_pos n3 with h | h
          · have := HN0.out.1 h; omega
          · exact h
        have hn31 : decide (0 < n3) = true := by simp; exact hn30
        have hn32 : decide ((0 : Int) < (n3 : Int)) = true := by simp; exact hn30
        clear hR
        by_cases h53 : W + 1 = 9007199254740992
        · have hc : ((W : Int) + 1 == 9007199254740992) = true := by simp; omega
          by_cases hov : 970 < E
          · have hc2 : decide (1023 < E + 53) = true := by simp; omega
            have HI1 := HI
            have hk3 : k = 2045 := by omega
            have e3 : 2045 * 2^52 + 9007199254740992 = M := by decide
            rw [h53, hk3, e3] at hpp
            rw [hpp] at HI1
            clear hpp hEk hk2 HFM HMD HPP3 HI
            go_wp2_with fail
            refine (HI1.out _).mono ?_
            rintro e w10 ⟨rfl, rfl⟩
            go_wp2
            go_ret
            exact ⟨rfl, below_drewN B9.out _⟩
          · have hc2 : decide (1023 < E + 53) = false := by simp; omega
            have HM1 := Lib.hid fun X => HMD.out (W + 1) X (by omega) (by have := HFM.out; omega) (by omega)
            rw [show k * 4503599627370496 + (W + 1) = k * 2^52 + (W + 1) from rfl, hpp, show ((W + 1 : Nat) : Int) = (W : Int) + 1 from by omega] at HM1
            clear hpp hEk hk2 HFM HMD HPP3
            go_wp2_with fail
            refine (HM1.out _).mono ?_
            rintro e w10 ⟨rfl, rfl⟩
            go_wp2
            go_ret
            exact ⟨rfl, below_drewN B9.out _⟩
        · have hc : ((W : Int) + 1 == 9007199254740992) = false := by simp; omega
          have HM1 := Lib.hid fun X => HMD.out (W + 1) X (by omega) (by have := HFM.out; omega) (by omega)
          rw [show k * 4503599627370496 + (W + 1) = k * 2^52 + (W + 1) from rfl, hpp, show ((W + 1 : Nat) : Int) = (W : Int) + 1 from by omega] at HM1
          clear hpp hEk hk2 HFM HMD HPP3
          go_wp2_with fail
          refine (HM1.out _).mono ?_
          rintro e w10 ⟨rfl, rfl⟩
          go_wp2
          go_ret
          exact ⟨rfl, below_drewN B9.out _⟩

end Go.Proofs.YtmjkmoahkanblaaGreat

namespace Go.Proofs.YtmjkmoahkanblaaGreat
open Go.RowKit

set_option maxRecDepth 8000 in
set_option maxHeartbeats 3200000 in
theorem rounded_zero (K : Nat) (neg : Bool) (A B : Option Addr) (n c m d : Nat) (dd : Int) (w : World) (h : RatV w K neg (.slice A n c) (.slice B m d) 0) (hK : K ≤ 1048576) :
    Calls Tryz.prog 144 #[.int .i64 dd, .agg #[.bool neg, .slice A n c, .slice B m d], .int .i64 53, .int .i64 1023] w fun e w' => e = .returned (.int .u64 0) ∧ Below w.heap.size w w' := by
  have ba := below_alloc w (.cells #[.bool neg, .slice A n c, .slice B m d] 60)
  have HS := Lib.hid fun W (hW : Below w.heap.size w W) => rsign_any K neg _ _ _ W (h.below hW) (by omega)
  rw [show rsg 0 = 0 from rfl] at HS
  have BA := Lib.hid ba
  clear ba h
  go_enter Tryz.func144, Tryz.ntmps144
  go_wp2_with fail
  refine (HS.out _ BA.out).mono ?_
  rintro e w1 ⟨rfl, hb1⟩
  have B1 := Lib.hid (BA.out.trans (hb1.mono BA.out.size))
  clear hb1
  go_wp2
  go_ret
  exact ⟨rfl, B1.out⟩

/-- What Bits answers. -/
def IsRnd (w : World) (d : Int) (x : Rat) (e : Ending) (w' : World) : Prop := ∃ i, e = .returned (.int .u64 (pat i : Int)) ∧ Rnd d x i ∧ Below w.heap.size w w'

theorem rounded_any (K : Nat) (neg : Bool) (A B : Option Addr) (n c m d : Nat) (x : Rat) (dd : Int) (w : World) (h : RatV w K neg (.slice A n c) (.slice B m d) x) (hK : K ≤ 1048576) (hd : dd = -1 ∨ dd = 1) :
    Calls Tryz.prog 144 #[.int .i64 dd, .agg #[.bool neg, .slice A n c, .slice B m d], .int .i64 53, .int .i64 1023] w (IsRnd w dd x) := by
  have h' := h
  obtain ⟨p, q, A', n', c', B', m', d', e1, e2, hu, hv, hq, h0, hpK, hqK, rfl⟩ := h'
  cases e1; cases e2
  rcases Nat.eq_zero_or_pos p with hp | hp
  · subst hp
    rw [rv_zero] at h
    refine (rounded_zero K neg A B n c m d dd w h hK).mono ?_
    rintro e w' ⟨rfl, hb⟩
    refine ⟨0, rfl, ?_, hb⟩
    rw [rv_zero]
    exact rnd_zero hd
  · refine (rounded_pos K neg A B n c m d p q dd w hu hv hp hq hpK hqK hK hd).mono ?_
    rintro e w' ⟨rfl, hb⟩
    exact ⟨_, rfl, rnd_ans hp hq (fout_sc hp hq rfl) hd, hb⟩

set_option maxHeartbeats 3200000 in
theorem bits_any (K : Nat) (neg : Bool) (A B : Option Addr) (n c m d : Nat) (x : Rat) (dd : Int) (w : World) (h : RatV w K neg (.slice A n c) (.slice B m d) x) (hK : K ≤ 1048576) (hd : dd = -1 ∨ dd = 1) :
    Calls Tryz.prog 72 #[.int .i64 dd, .agg #[.bool neg, .slice A n c, .slice B m d]] w (IsRnd w dd x) := by
  have ba := below_alloc w (.cells #[.bool neg, .slice A n c, .slice B m d] 60)
  have HS := Lib.hid fun W (hW : Below w.heap.size w W) => rounded_any K neg A B n c m d x dd W (h.below hW) hK hd
  have BA := Lib.hid ba
  clear ba h hd
  go_enter Tryz.func72, Tryz.ntmps72
  go_wp2_with fail
  refine (HS.out _ BA.out).mono ?_
  rintro e w1 ⟨i, rfl, hr, hb1⟩
  have B1 := Lib.hid (BA.out.trans (hb1.mono BA.out.size))
  have HR := Lib.hid hr
  clear hb1 hr
  go_wp2
  go_ret
  exact ⟨i, rfl, HR.out, B1.out⟩

end Go.Proofs.YtmjkmoahkanblaaGreat

namespace Go.Proofs.YtmjkmoahkanblaaGreat
open Go.RowKit

theorem rc_false {p q p' q' : Nat} (hq : 0 < q) (hq' : 0 < q') : rc (rv false p q) (rv false p' q') = cmp3 (p * q') (p' * q) := by
  have h1 := rv_lt_false (p := p) (p' := p') hq hq'
  have h2 := rv_lt_false (p := p') (p' := p) hq' hq
  unfold rc cmp3
  by_cases a : p * q' < p' * q
  · rw [if_pos (h1.2 a), if_pos a]
  · rw [if_neg (fun h => a (h1.1 h)), if_neg a]
    by_cases b : p' * q < p * q'
    · rw [if_pos (h2.2 b), if_pos b]
    · rw [if_neg (fun h => b (h2.1 h)), if_neg b]
/-- The lengths tell it. -/
theorem pw_above {a b : Nat} {E : Int} (ha : 0 < a) (h : (blen b : Int) + 1 < (blen a : Int) + E) : cmp3 (a * 2^E.toNat) (b * 2^(-E).toNat) = 1 := by
  refine cmp3_gt ?_
  obtain ⟨L, e1, a1, a2⟩ := blen_bounds ha
  have b2 := lt_pow_blen b
  rcases Int.lt_or_le E 0 with h0 | h0
  · rw [show E.toNat = 0 from by omega, Nat.pow_zero, Nat.mul_one]
    calc b * 2^(-E).toNat < 2^(blen b) * 2^(-E).toNat := Nat.mul_lt_mul_of_pos_right b2 (Nat.two_pow_pos _)
      _ = 2^(blen b + (-E).toNat) := by rw [← Nat.pow_add]
      _ ≤ 2^L := Nat.pow_le_pow_right (by omega) (by omega)
      _ ≤ a := a1
  · rw [show (-E).toNat = 0 from by omega, Nat.pow_zero, Nat.mul_one]
    calc b < 2^(blen b) := b2
      _ ≤ 2^(L + E.toNat) := Nat.pow_le_pow_right (by omega) (by omega)
      _ = 2^L * 2^E.toNat := by rw [Nat.pow_add]
      _ ≤ a * 2^E.toNat := Nat.mul_le_mul_right _ a1
theorem pw_below {a b : Nat} {E : Int} (h : (blen a : Int) + E < (blen b : Int) - 1) (hb : 0 < b) : cmp3 (a * 2^E.toNat) (b * 2^(-E).toNat) = -1 := by
  refine cmp3_lt ?_
  obtain ⟨L, e1, b1, b2⟩ := blen_bounds hb
  have a2 := lt_pow_blen a
  rcases Int.lt_or_le E 0 with h0 | h0
  · rw [show E.toNat = 0 from by omega, Nat.pow_zero, Nat.mul_one]
    calc a < 2^(blen a) := a2
      _ ≤ 2^(L + (-E).toNat) := Nat.pow_le_pow_right (by omega) (by omega)
      _ = 2^L * 2^(-E).toNat := by rw [Nat.pow_add]
      _ ≤ b * 2^(-E).toNat := Nat.mul_le_mul_right _ b1
  · rw [show (-E).toNat = 0 from by omega, Nat.pow_zero, Nat.mul_one]
    calc a * 2^E.toNat < 2^(blen a) * 2^E.toNat := Nat.mul_lt_mul_of_pos_right a2 (Nat.two_pow_pos _)
      _ = 2^(blen a + E.toNat) := by rw [← Nat.pow_add]
      _ ≤ 2^L := Nat.pow_le_pow_right (by omega) (by omega)
      _ ≤ b := b1
/-- A size held against a ratio. -/
theorem pw_rc {F p q : Nat} {E : Int} {x : Rat} (hq : 0 < q) (hx : x = rv false F 1 * 2^E) : rc x (rv false p q) = cmp3 (F * q * 2^E.toNat) (p * 2^(-E).toNat) := by
  have := rv_scale false (p := F) (q := 1) (by omega) E
  rw [Nat.one_mul] at this
  rw [hx, ← this, rc_false (Nat.two_pow_pos _) hq]
  congr 1
  rw [Nat.mul_assoc, Nat.mul_comm (2^E.toNat) q, ← Nat.mul_assoc]

set_option maxRecDepth 4000 in
set_option maxHeartbeats 6400000 in
theorem power_fin (K b : Nat) (A B : Option Addr) (n c m d p q : Nat) (w : World) (hb : b < 9218868437227405312) (hb0 : 0 < b) (hu : U32s w A n c (digs p)) (hv : U32s w B m d (digs q)) (hp : 0 < p) (hq : 0 < q) (hpK : p < 2^(32 * K)) (hqK : q < 2^(32 * K)) (hK : K ≤ 1048576) :
    Calls Tryz.prog 214 #[.int .u64 (b : Int), .int .i64 1, .agg #[.bool false, .slice A n c, .slice B m d]] w fun e w' => e = .returned (.int .i64 (rc (fl (b : Int)) (rv false p q))) ∧ Below w.heap.size w w' := by
  have hc := pat_cases (b := b) (by omega)
  have hfin : fin b := by show rungOf b < M; rw [M_val]; omega
  have hidx : idx b = (b : Int) := by omega
  have hsg : sgn b = false := by
    rcases hc with h | h
    · exact h.2.2.1
    · omega
  obtain ⟨e0, he⟩ : ∃ e, b / 4503599627370496 % 2048 = e := ⟨_, rfl⟩
  obtain ⟨f0, hff⟩ : ∃ f, b % 4503599627370496 = f := ⟨_, rfl⟩
  obtain ⟨he1, hf1, v1, v2⟩ := fl_parts hfin he hff hsg
  rw [hidx] at v1 v2
  have he' : b / 4503599627370496 = e0 := by omega
  have m1 : (b : Int) / 4503599627370496 = (e0 : Int) := by omega
  have m2 := mask52_u64 (x := b) (by omega)
  rw [hff] at m2
  obtain ⟨F, E, hF0, hF, hE1, hE2, hfl, hFe⟩ : ∃ (F : Nat) (E : Int), 0 < F ∧ F < 9007199254740992 ∧ -1074 ≤ E ∧ E ≤ 971 ∧ fl (b : Int) = rv false F 1 * 2^E ∧ ((0 < e0 ∧ F = f0 + 4503599627370496 ∧ (e0 : Int) - 1 - 1074 = E) ∨ (e0 = 0 ∧ F = f0 ∧ (e0 : Int) - 1074 = E)) := by
    rcases Nat.eq_zero_or_pos e0 with h | h
    · exact ⟨f0, (e0 : Int) - 1074, by omega, by omega, by omega, by omega, v2 h, .inr ⟨h, rfl, rfl⟩⟩
    · exact ⟨f0 + 4503599627370496, (e0 : Int) - 1 - 1074, by omega, by omega, by omega, by omega, v1 h, .inl ⟨h, rfl, rfl⟩⟩
  rw [pw_rc hq hfl]
  have hn1 := hu.len_le hpK
  have hm1 := hv.len_le hqK
  have HU := Lib.hid hu
  have HV := Lib.hid hv
  have haK : F * q < 2^(32 * (K + 2)) := by
    calc F * q < 2^64 * 2^(32 * K) := Nat.mul_lt_mul'' (by omega) hqK
      _ = 2^(32 * (K + 2)) := by rw [← Nat.pow_add]; congr 1; omega
  have bp : blen p ≤ 33554432 := Nat.le_trans (blen_le_iff.2 hpK) (by omega)
  have ba : blen (F * q) ≤ 33554496 := Nat.le_trans (blen_le_iff.2 haK) (by omega)
  have hab : 0 < F * q := Nat.mul_pos hF0 hq
  have HSM := Lib.hid fun W => small_any F W (by omega)
  obtain ⟨a, ha⟩ : ∃ a, F * q = a := ⟨_, rfl⟩
  have T0 : ∀ (W : World) (A1 : Option Addr) (n1 c1 : Nat), Below w.heap.size w W → U32s W A1 n1 c1 (digs F) → Calls Tryz.prog 143 #[.slice A1 n1 c1, .slice B m d] W (NewU32 W (digs a)) := by
    intro W A1 n1 c1 hW h1
    have := times_any A1 B n1 c1 m d _ _ W h1 (HV.out.below hW) (by have := h1.len_le (k := 2) (Nat.lt_of_lt_of_le hF (by decide)); omega) (by omega)
    rw [num_digs, num_digs, ha] at this
    exact this
  have P0 : ∀ (W : World) (A1 : Option Addr) (n1 c1 : Nat), U32s W A1 n1 c1 (digs F) → Calls Tryz.prog 240 #[.slice A1 n1 c1, .int .i64 1] W (NewU32 W (digs F)) := by
    intro W A1 n1 c1 h1
    have h2 : F < 2^(32 * 2) := Nat.lt_of_lt_of_le hF (by decide)
    have := power_any A1 n1 c1 1 2 _ W h1 (by have := h1.len_le h2; omega) (by rw [num_digs]; exact hF0) (by rw [num_digs]; exact h2) (by rw [num_digs, Nat.pow_one]; exact h2) (by omega) (by omega)
    rw [num_digs, Nat.pow_one] at this
    exact this
  rw [ha] at haK ba hab ⊢
  have TT := Lib.hid T0
  have PT := Lib.hid P0
  have PA := Lib.hid fun h => pw_above (b := p) (E := E) hab h
  have PB := Lib.hid fun h => pw_below (a := a) (E := E) h hp
  obtain ⟨r, hr⟩ : ∃ r, cmp3 (a * 2^E.toNat) (p * 2^(-E).toNat) = r := ⟨_, rfl⟩
  rw [hr] at PA PB ⊢
  have HR := Lib.hid hr
  obtain ⟨K2, hK2⟩ : ∃ x, K + 2 = x := ⟨_, rfl⟩
  rw [hK2] at haK
  have hK3 : K2 ≤ 1048578 := by omega
  have HAK := Lib.hid haK
  clear hK2
  have HFE := Lib.hid hFe
  clear hr T0 P0 haK hab hFe hfl v1 v2 hc hfin hidx hsg he hff he' hu hv hp hq hpK hqK ha hF0
  rcases HFE.out with ⟨h0, hFF, hEE⟩ | ⟨h0, hFF, hEE⟩
  · skip
    have LB0 := Lib.hid (show Below w.heap.size w (w.alloc (.cells #[.bool false, .slice A n c, .slice B m d] 60)) from (below_alloc w _))
    have LG0_0 := Lib.hid ((Blk.at (W := w) (g := w.heap.size) (by simp <;> omega) 60 #[.bool false, .slice A n c, .slice B m d]))
    have h1 : (f0 : Int) + 4503599627370496 = (F : Int) := by omega
    have h3 : (0 : Int) < (e0 : Int) := by omega
    clear hFF h0
    clear HFE
    go_enter Tryz.func214, Tryz.ntmps214
    go_upto_region 7 with fail
    refine wp_region_held_drew (S := fun W' => Blk W' w.heap.size 60 #[.bool false, .slice A n c, .slice B m d] ∧ Below w.heap.size w W') (by kernel_rfl) (by exact ⟨LG0_0.out.drew, LB0.out.drew⟩) (fun hHeld => ?_)
    refine wpAnyH_take (i := 0) (v := ?_) rfl (by kernel_rfl) (by kernel_rfl) (by kernel_rfl) (fun _ _ _ h => h) (Or.inl ⟨by rfl, ?_⟩) (by assumption) ?_
    rotate_left
    · (intro W2 hSw; go_simp; (try with_reducible rfl))
    try simp only [Act.put, List.getElem_toArray, List.getElem_cons_succ, List.getElem_cons_zero, List.setIfInBounds_toArray, List.set_cons_zero, List.set_cons_succ]
    refine wpAnyH_take (i := 2) (v := ?_) rfl (by kernel_rfl) (by kernel_rfl) (by kernel_rfl) (fun _ _ _ h => h) (Or.inl ⟨by rfl, ?_⟩) (by assumption) ?_
    rotate_left
    · (intro W2 hSw; go_simp; (try with_reducible rfl))
    try simp only [Act.put, List.getElem_toArray, List.getElem_cons_succ, List.getElem_cons_zero, List.setIfInBounds_toArray, List.set_cons_zero, List.set_cons_succ]
    refine wpAnyH_take (i := 4) (v := ?_) rfl (by kernel_rfl) (by kernel_rfl) (by kernel_rfl) (fun _ _ _ h => h) (Or.inl ⟨by rfl, ?_⟩) (by assumption) ?_
    rotate_left
    · (intro W2 hSw; go_simp; (try with_reducible rfl))
    try simp only [Act.put, List.getElem_toArray, List.getElem_cons_succ, List.getElem_cons_zero, List.setIfInBounds_toArray, List.set_cons_zero, List.set_cons_succ]
    refine wpAnyH_take (i := 5) (v := ?_) rfl (by kernel_rfl) (by kernel_rfl) (by kernel_rfl) (fun _ _ _ h => h) (Or.inl ⟨by rfl, ?_⟩) (by assumption) ?_
    rotate_left
    · (intro W2 hSw; (try dsimp only at hSw); have q0 : _ = some (.bool false : Value) := hSw.1.cell 0; have q1 : _ = some (.slice A n c : Value) := hSw.1.cell 1; have q2 : _ = some (.slice B m d : Value) := hSw.1.cell 2; go_simp; (try with_reducible rfl))
    try simp only [Act.put, List.getElem_toArray, List.getElem_cons_succ, List.getElem_cons_zero, List.setIfInBounds_toArray, List.set_cons_zero, List.set_cons_succ]
    refine wpAnyH_ready (rs := [1]) (by kernel_rfl) (by simp) ?_
    refine AllReadyH.cons rfl (fun KK hKK => ?_) AllReadyH.nil
    go_simp
    refine (HSM.out _).mono ?_
    rintro e w1 ⟨A1, n1, c1, rfl, hu1, hb1⟩
    go_wp2_with fail
    refine hKK.out _ _ (⟨hHeld.1.keep hb1, hHeld.2.trans (hb1.mono hHeld.2.size)⟩) (fun _ => ?_)
    clear hKK KK hHeld; rename_i hHeld
    try simp only [Act.put, List.getElem_toArray, List.getElem_cons_succ, List.getElem_cons_zero, List.setIfInBounds_toArray, List.set_cons_zero, List.set_cons_succ]
    refine wpAnyH_ready (rs := [3]) (by kernel_rfl) (by simp) ?_
    refine AllReadyH.cons rfl (fun KK hKK => ?_) AllReadyH.nil
    go_simp
    refine (PT.out _ A1 n1 c1 hu1).mono ?_
    rintro e w2 ⟨A2, n2, c2, rfl, hu2, hb2⟩
    go_wp2_with fail
    refine hKK.out _ _ (⟨hHeld.1.keep hb2, hHeld.2.trans (hb2.mono hHeld.2.size)⟩) (fun _ => ?_)
    clear hKK KK hHeld; rename_i hHeld
    try simp only [Act.put, List.getElem_toArray, List.getElem_cons_succ, List.getElem_cons_zero, List.setIfInBounds_toArray, List.set_cons_zero, List.set_cons_succ]
    refine wpAnyH_ready (rs := [6]) (by kernel_rfl) (by simp) ?_
    refine AllReadyH.cons rfl (fun KK hKK => ?_) AllReadyH.nil
    go_simp
    refine (TT.out _ A2 n2 c2 ?_ hu2).mono ?_; exact hHeld.2
    rintro e w3 ⟨A3, n3, c3, rfl, hu3, hb3⟩
    go_wp2_with fail
    refine hKK.out _ _ (⟨hHeld.1.keep hb3, hHeld.2.trans (hb3.mono hHeld.2.size)⟩) (fun _ => ?_)
    clear hKK KK hHeld; rename_i hHeld
    try simp only [Act.put, List.getElem_toArray, List.getElem_cons_succ, List.getElem_cons_zero, List.setIfInBounds_toArray, List.set_cons_zero, List.set_cons_succ]
    refine wpAnyH_take (i := 7) (v := ?_) rfl (by kernel_rfl) (by kernel_rfl) (by kernel_rfl) (fun _ _ _ h => h) (Or.inl ⟨by rfl, ?_⟩) (by assumption) ?_
    rotate_left
    · (intro W2 hSw; go_simp; (try with_reducible rfl))
    try simp only [Act.put, List.getElem_toArray, List.getElem_cons_succ, List.getElem_cons_zero, List.setIfInBounds_toArray, List.set_cons_zero, List.set_cons_succ]
    refine wpAnyH_done (by kernel_rfl) ?_ _
    have LB3 := Lib.hid hHeld.2
    have LG0_3 := Lib.hid hHeld.1
    have HU3 := Lib.hid hu3
    have hn3 := hu3.len_le HAK.out
    clear hHeld hu1 hu2 hu3 hb1 hb2 hb3 HSM PT TT LB0 LG0_0
    obtain ⟨la, hla⟩ : ∃ x, blen a = x := ⟨_, rfl⟩
    obtain ⟨lp, hlp⟩ : ∃ x, blen p = x := ⟨_, rfl⟩
    have H1 := Lib.hid (len_v A3 n3 c3 w3 HU3.out)
    have H2 := Lib.hid (len_v A n c w3 (HU.out.below LB3.out))
    rw [hla] at H1 PA PB ba
    rw [hlp] at H2 PA PB bp
    clear hla hlp
    have q0_0 : _ = some (.bool false : Value) := LG0_3.out.cell 0
    have q0_1 : _ = some (.slice A n c : Value) := LG0_3.out.cell 1
    have q0_2 : _ = some (.slice B m d : Value) := LG0_3.out.cell 2
    by_cases ho : (lp : Int) + 1 < (la : Int) + E
    · have hr := PA.out ho
      clear PA PB HR
      go_wp2_with fail
      refine H1.out.mono ?_
      rintro e w4 ⟨rfl, rfl⟩
      go_wp2_with fail
      refine H2.out.mono ?_
      rintro e w4 ⟨rfl, rfl⟩
      have HRR := Lib.hid hr
      clear hr
      go_wp2
      go_ret
      exact ⟨ret_int HRR.out.symm, LB3.out⟩
    · by_cases hu : (la : Int) + E < (lp : Int) - 1
      · have hr := PB.out hu
        clear PA PB HR
        go_wp2_with fail
        refine H1.out.mono ?_
        rintro e w4 ⟨rfl, rfl⟩
        go_wp2_with fail
        refine H2.out.mono ?_
        rintro e w4 ⟨rfl, rfl⟩
        go_wp2_with fail
        refine H1.out.mono ?_
        rintro e w4 ⟨rfl, rfl⟩
        go_wp2_with fail
        refine H2.out.mono ?_
        rintro e w4 ⟨rfl, rfl⟩
        have HRR := Lib.hid hr
        clear hr
        go_wp2
        go_ret
        exact ⟨ret_int HRR.out.symm, LB3.out⟩
      · clear PA PB
        go_wp2_with fail
        refine H1.out.mono ?_
        rintro e w4 ⟨rfl, rfl⟩
        go_wp2_with fail
        refine H2.out.mono ?_
        rintro e w4 ⟨rfl, rfl⟩
        go_wp2_with fail
        refine H1.out.mono ?_
        rintro e w4 ⟨rfl, rfl⟩
        go_wp2_with fail
        refine H2.out.mono ?_
        rintro e w4 ⟨rfl, rfl⟩
        clear H1 H2
        by_cases hE : 0 ≤ E
        · skip
          obtain ⟨g, hg⟩ : ∃ g : Nat, E = g := ⟨E.toNat, by omega⟩
          subst hg
          have hg2 : g ≤ 971 := by omega
          have hr := HR.out
          rw [show (-(g : Int)).toNat = 0 from by omega, Int.toNat_natCast, Nat.pow_zero, Nat.mul_one] at hr
          have HLL := Lib.hid (left_v (v := a) A3 n3 c3 g w3 HU3.out (by omega) (by omega))
          have HRR := Lib.hid hr
          clear hr HR
          go_wp2_with fail
          refine HLL.out.mono ?_
          rintro e w5 ⟨A5, n5, c5, rfl, hu5, hb5⟩
          have LB5 := Lib.hid (LB3.out.trans (hb5.mono LB3.out.size))
          have HC := Lib.hid (cmp_v A5 A n5 c5 n c w5 hu5 (HU.out.below LB5.out))
          rw [HRR.out] at HC
          clear hb5 hu5 HLL
          go_wp2_with fail
          refine HC.out.mono ?_
          rintro e w6 ⟨rfl, kk, rfl⟩
          go_wp2
          go_ret
          exact ⟨rfl, below_drewN LB5.out kk⟩
        · skip
          obtain ⟨g, hg⟩ : ∃ g : Nat, -E = g := ⟨(-E : Int).toNat, by omega⟩
          have hg2 : g ≤ 1074 := by omega
          have hr := HR.out
          rw [show (E : Int).toNat = 0 from by omega, show (-E : Int).toNat = g from by omega, Nat.pow_zero, Nat.mul_one] at hr
          have HLL := Lib.hid (left_v (v := p) A n c g w3 (HU.out.below LB3.out) (by omega) (by omega))
          have HRR := Lib.hid hr
          clear hr HR
          have c2 : E < 0 := by omega
          go_wp2_with fail
          refine HLL.out.mono ?_
          rintro e w5 ⟨A5, n5, c5, rfl, hu5, hb5⟩
          have HC := Lib.hid (cmp_v A3 A5 n3 c3 n5 c5 w5 (HU3.out.below hb5) hu5)
          have LB5 := Lib.hid (LB3.out.trans (hb5.mono LB3.out.size))
          rw [HRR.out] at HC
          clear hb5 hu5 HLL
          go_wp2_with fail
          refine HC.out.mono ?_
          rintro e w6 ⟨rfl, kk, rfl⟩
          go_wp2
          go_ret
          exact ⟨rfl, below_drewN LB5.out kk⟩
  · skip
    have LB0 := Lib.hid (show Below w.heap.size w (w.alloc (.cells #[.bool false, .slice A n c, .slice B m d] 60)) from (below_alloc w _))
    have LG0_0 := Lib.hid ((Blk.at (W := w) (g := w.heap.size) (by simp <;> omega) 60 #[.bool false, .slice A n c, .slice B m d]))
    subst h0
    subst hFF
    obtain rfl : E = -1074 := by omega
    clear hEE
    clear HFE
    go_enter Tryz.func214, Tryz.ntmps214
    go_upto_region 7 with fail
    refine wp_region_held_drew (S := fun W' => Blk W' w.heap.size 60 #[.bool false, .slice A n c, .slice B m d] ∧ Below w.heap.size w W') (by kernel_rfl) (by exact ⟨LG0_0.out.drew, LB0.out.drew⟩) (fun hHeld => ?_)
    refine wpAnyH_take (i := 0) (v := ?_) rfl (by kernel_rfl) (by kernel_rfl) (by kernel_rfl) (fun _ _ _ h => h) (Or.inl ⟨by rfl, ?_⟩) (by assumption) ?_
    rotate_left
    · (intro W2 hSw; go_simp; (try with_reducible rfl))
    try simp only [Act.put, List.getElem_toArray, List.getElem_cons_succ, List.getElem_cons_zero, List.setIfInBounds_toArray, List.set_cons_zero, List.set_cons_succ]
    refine wpAnyH_take (i := 2) (v := ?_) rfl (by kernel_rfl) (by kernel_rfl) (by kernel_rfl) (fun _ _ _ h => h) (Or.inl ⟨by rfl, ?_⟩) (by assumption) ?_
    rotate_left
    · (intro W2 hSw; go_simp; (try with_reducible rfl))
    try simp only [Act.put, List.getElem_toArray, List.getElem_cons_succ, List.getElem_cons_zero, List.setIfInBounds_toArray, List.set_cons_zero, List.set_cons_succ]
    refine wpAnyH_take (i := 4) (v := ?_) rfl (by kernel_rfl) (by kernel_rfl) (by kernel_rfl) (fun _ _ _ h => h) (Or.inl ⟨by rfl, ?_⟩) (by assumption) ?_
    rotate_left
    · (intro W2 hSw; go_simp; (try with_reducible rfl))
    try simp only [Act.put, List.getElem_toArray, List.getElem_cons_succ, List.getElem_cons_zero, List.setIfInBounds_toArray, List.set_cons_zero, List.set_cons_succ]
    refine wpAnyH_take (i := 5) (v := ?_) rfl (by kernel_rfl) (by kernel_rfl) (by kernel_rfl) (fun _ _ _ h => h) (Or.inl ⟨by rfl, ?_⟩) (by assumption) ?_
    rotate_left
    · (intro W2 hSw; (try dsimp only at hSw); have q0 : _ = some (.bool false : Value) := hSw.1.cell 0; have q1 : _ = some (.slice A n c : Value) := hSw.1.cell 1; have q2 : _ = some (.slice B m d : Value) := hSw.1.cell 2; go_simp; (try with_reducible rfl))
    try simp only [Act.put, List.getElem_toArray, List.getElem_cons_succ, List.getElem_cons_zero, List.setIfInBounds_toArray, List.set_cons_zero, List.set_cons_succ]
    refine wpAnyH_ready (rs := [1]) (by kernel_rfl) (by simp) ?_
    refine AllReadyH.cons rfl (fun KK hKK => ?_) AllReadyH.nil
    go_simp
    refine (HSM.out _).mono ?_
    rintro e w1 ⟨A1, n1, c1, rfl, hu1, hb1⟩
    go_wp2_with fail
    refine hKK.out _ _ (⟨hHeld.1.keep hb1, hHeld.2.trans (hb1.mono hHeld.2.size)⟩) (fun _ => ?_)
    clear hKK KK hHeld; rename_i hHeld
    try simp only [Act.put, List.getElem_toArray, List.getElem_cons_succ, List.getElem_cons_zero, List.setIfInBounds_toArray, List.set_cons_zero, List.set_cons_succ]
    refine wpAnyH_ready (rs := [3]) (by kernel_rfl) (by simp) ?_
    refine AllReadyH.cons rfl (fun KK hKK => ?_) AllReadyH.nil
    go_simp
    refine (PT.out _ A1 n1 c1 hu1).mono ?_
    rintro e w2 ⟨A2, n2, c2, rfl, hu2, hb2⟩
    go_wp2_with fail
    refine hKK.out _ _ (⟨hHeld.1.keep hb2, hHeld.2.trans (hb2.mono hHeld.2.size)⟩) (fun _ => ?_)
    clear hKK KK hHeld; rename_i hHeld
    try simp only [Act.put, List.getElem_toArray, List.getElem_cons_succ, List.getElem_cons_zero, List.setIfInBounds_toArray, List.set_cons_zero, List.set_cons_succ]
    refine wpAnyH_ready (rs := [6]) (by kernel_rfl) (by simp) ?_
    refine AllReadyH.cons rfl (fun KK hKK => ?_) AllReadyH.nil
    go_simp
    refine (TT.out _ A2 n2 c2 ?_ hu2).mono ?_; exact hHeld.2
    rintro e w3 ⟨A3, n3, c3, rfl, hu3, hb3⟩
    go_wp2_with fail
    refine hKK.out _ _ (⟨hHeld.1.keep hb3, hHeld.2.trans (hb3.mono hHeld.2.size)⟩) (fun _ => ?_)
    clear hKK KK hHeld; rename_i hHeld
    try simp only [Act.put, List.getElem_toArray, List.getElem_cons_succ, List.getElem_cons_zero, List.setIfInBounds_toArray, List.set_cons_zero, List.set_cons_succ]
    refine wpAnyH_take (i := 7) (v := ?_) rfl (by kernel_rfl) (by kernel_rfl) (by kernel_rfl) (fun _ _ _ h => h) (Or.inl ⟨by rfl, ?_⟩) (by assumption) ?_
    rotate_left
    · (intro W2 hSw; go_simp; (try with_reducible rfl))
    try simp only [Act.put, List.getElem_toArray, List.getElem_cons_succ, List.getElem_cons_zero, List.setIfInBounds_toArray, List.set_cons_zero, List.set_cons_succ]
    refine wpAnyH_done (by kernel_rfl) ?_ _
    have LB3 := Lib.hid hHeld.2
    have LG0_3 := Lib.hid hHeld.1
    have HU3 := Lib.hid hu3
    have hn3 := hu3.len_le HAK.out
    clear hHeld hu1 hu2 hu3 hb1 hb2 hb3 HSM PT TT LB0 LG0_0
    obtain ⟨la, hla⟩ : ∃ x, blen a = x := ⟨_, rfl⟩
    obtain ⟨lp, hlp⟩ : ∃ x, blen p = x := ⟨_, rfl⟩
    have H1 := Lib.hid (len_v A3 n3 c3 w3 HU3.out)
    have H2 := Lib.hid (len_v A n c w3 (HU.out.below LB3.out))
    rw [hla] at H1 PA PB ba
    rw [hlp] at H2 PA PB bp
    clear hla hlp
    have q0_0 : _ = some (.bool false : Value) := LG0_3.out.cell 0
    have q0_1 : _ = some (.slice A n c : Value) := LG0_3.out.cell 1
    have q0_2 : _ = some (.slice B m d : Value) := LG0_3.out.cell 2
    by_cases ho : (lp : Int) + 1 < (la : Int) + (-1074)
    · have hr := PA.out ho
      clear PA PB HR
      go_wp2_with fail
      refine H1.out.mono ?_
      rintro e w4 ⟨rfl, rfl⟩
      go_wp2_with fail
      refine H2.out.mono ?_
      rintro e w4 ⟨rfl, rfl⟩
      have HRR := Lib.hid hr
      clear hr
      go_wp2
      go_ret
      exact ⟨ret_int HRR.out.symm, LB3.out⟩
    · by_cases hu : (la : Int) + (-1074) < (lp : Int) - 1
      · have hr := PB.out hu
        clear PA PB HR
        go_wp2_with fail
        refine H1.out.mono ?_
        rintro e w4 ⟨rfl, rfl⟩
        go_wp2_with fail
        refine H2.out.mono ?_
        rintro e w4 ⟨rfl, rfl⟩
        go_wp2_with fail
        refine H1.out.mono ?_
        rintro e w4 ⟨rfl, rfl⟩
        go_wp2_with fail
        refine H2.out.mono ?_
        rintro e w4 ⟨rfl, rfl⟩
        have HRR := Lib.hid hr
        clear hr
        go_wp2
        go_ret
        exact ⟨ret_int HRR.out.symm, LB3.out⟩
      · clear PA PB
        go_wp2_with fail
        refine H1.out.mono ?_
        rintro e w4 ⟨rfl, rfl⟩
        go_wp2_with fail
        refine H2.out.mono ?_
        rintro e w4 ⟨rfl, rfl⟩
        go_wp2_with fail
        refine H1.out.mono ?_
        rintro e w4 ⟨rfl, rfl⟩
        go_wp2_with fail
        refine H2.out.mono ?_
        rintro e w4 ⟨rfl, rfl⟩
        clear H1 H2
        obtain ⟨g, hg⟩ : ∃ g : Nat, g = 1074 := ⟨_, rfl⟩
        have hr := HR.out
        rw [show ((-1074) : Int).toNat = 0 from by omega, show (-(-1074) : Int).toNat = g from by omega, Nat.pow_zero, Nat.mul_one] at hr
        have HLL := Lib.hid (left_v (v := p) A n c g w3 (HU.out.below LB3.out) (by omega) (by omega))
        rw [show ((g : Nat) : Int) = 1074 from by omega] at HLL
        clear hg
        have HRR := Lib.hid hr
        clear hr HR
        go_wp2_with fail
        refine HLL.out.mono ?_
        rintro e w5 ⟨A5, n5, c5, rfl, hu5, hb5⟩
        have HC := Lib.hid (cmp_v A3 A5 n3 c3 n5 c5 w5 (HU3.out.below hb5) hu5)
        have LB5 := Lib.hid (LB3.out.trans (hb5.mono LB3.out.size))
        rw [HRR.out] at HC
        clear hb5 hu5 HLL
        go_wp2_with fail
        refine HC.out.mono ?_
        rintro e w6 ⟨rfl, kk, rfl⟩
        go_wp2
        go_ret
        exact ⟨rfl, below_drewN LB5.out kk⟩

end Go.Proofs.YtmjkmoahkanblaaGreat

namespace Go.Proofs.YtmjkmoahkanblaaGreat
open Go.RowKit

set_option maxHeartbeats 3200000 in
theorem turned_any (K : Nat) (s1 : Int) (g1 : Bool) (A1 : Option Addr) (n1 c1 : Nat) (B1 : Option Addr) (m1 d1 : Nat) (x1 : Rat) (w : World) (h1 : RatV w K g1 (.slice A1 n1 c1) (.slice B1 m1 d1) x1) (hK : K ≤ 1073741824) (hs : -1 ≤ s1 ∧ s1 ≤ 1) :
    Calls Tryz.prog 128 #[.agg #[.int .i64 s1, .bool g1, .slice A1 n1 c1, .slice B1 m1 d1]] w (NewEnd w K (-s1) (-x1)) := by
  have HN := Lib.hid fun W (hW : Below w.heap.size w W) => (rneg_any K g1 _ _ x1 W (h1.below hW) hK).mono fun _ _ h => h.s
  have hw : IntKind.i64.wrap (-s1) = -s1 := by rw [IntKind.wrap_i64]; omega
  clear h1 hs
  have LB0 := Lib.hid (show Below w.heap.size w ((w.alloc (.cells #[.int .i64 s1, .bool g1, .slice A1 n1 c1, .slice B1 m1 d1] 67)).alloc (.cells #[.int .i64 0, .bool false, .slice none 0 0, .slice none 0 0] 67)) from ((below_alloc w _).alloc (by simp <;> omega) _))
  have LG0_0 := Lib.hid (((Blk.at (W := w) (g := w.heap.size) (by simp <;> omega) 67 #[.int .i64 s1, .bool g1, .slice A1 n1 c1, .slice B1 m1 d1]).alloc (.cells #[.int .i64 0, .bool false, .slice none 0 0, .slice none 0 0] 67)))
  have LR0 := Lib.hid (HasBlk.of (n := 4) (Blk.at (W := (w.alloc (.cells #[.int .i64 s1, .bool g1, .slice A1 n1 c1, .slice B1 m1 d1] 67))) (g := (w.heap.size + 1)) (by simp <;> omega) 67 #[.int .i64 0, .bool false, .slice none 0 0, .slice none 0 0]) rfl rfl)
  go_enter Tryz.func128, Tryz.ntmps128
  go_wp2_with fail
  refine wp_region_held_drew (S := fun W' => Blk W' w.heap.size 67 #[.int .i64 s1, .bool g1, .slice A1 n1 c1, .slice B1 m1 d1] ∧ HasBlk W' (w.heap.size + 1) 67 4 ∧ Below w.heap.size w W') (by kernel_rfl) (by exact ⟨LG0_0.out.drew, LR0.out.drew, LB0.out.drew⟩) (fun hHeld => ?_)
  refine wpAnyH_take (i := 0) (v := ?_) rfl (by kernel_rfl) (by kernel_rfl) (by kernel_rfl) (fun _ _ _ h => h) (Or.inl ⟨by rfl, ?_⟩) (by assumption) ?_
  rotate_left
  · (intro W2 hSw; go_simp; (try with_reducible rfl))
  try simp only [Act.put, List.setIfInBounds_toArray, List.set_cons_zero, List.set_cons_succ]
  refine wpAnyH_take (i := 1) (v := ?_) rfl (by kernel_rfl) (by kernel_rfl) (by kernel_rfl) (fun _ _ _ h => h) (Or.inl ⟨by rfl, ?_⟩) (by assumption) ?_
  rotate_left
  · (intro W2 hSw; (try dsimp only at hSw); have q0 : _ = some (.int .i64 s1 : Value) := hSw.1.cell 0; have q1 : _ = some (.bool g1 : Value) := hSw.1.cell 1; have q2 : _ = some (.slice A1 n1 c1 : Value) := hSw.1.cell 2; have q3 : _ = some (.slice B1 m1 d1 : Value) := hSw.1.cell 3; go_simp; (try with_reducible rfl))
  try simp only [Act.put, List.setIfInBounds_toArray, List.set_cons_zero, List.set_cons_succ]
  refine wpAnyH_take (i := 2) (v := ?_) rfl (by kernel_rfl) (by kernel_rfl) (by kernel_rfl) (fun _ _ _ h => h) (Or.inl ⟨by rfl, ?_⟩) (by assumption) ?_
  rotate_left
  · (intro W2 hSw; go_simp; (try with_reducible rfl))
  try simp only [Act.put, List.setIfInBounds_toArray, List.set_cons_zero, List.set_cons_succ]
  refine wpAnyH_take (i := 3) (v := ?_) rfl (by kernel_rfl) (by kernel_rfl) (by kernel_rfl) (fun _ _ _ h => h) (Or.inl ⟨by rfl, ?_⟩) (by assumption) ?_
  rotate_left
  · (intro W2 hSw; go_simp; (try with_reducible rfl))
  try simp only [Act.put, List.setIfInBounds_toArray, List.set_cons_zero, List.set_cons_succ]
  refine wpAnyH_take (i := 4) (v := ?_) rfl (by kernel_rfl) (by kernel_rfl) (by kernel_rfl) (fun _ _ _ h => h) (Or.inl ⟨by rfl, ?_⟩) (by assumption) ?_
  rotate_left
  · (intro W2 hSw; (try dsimp only at hSw); have q0 : _ = some (.int .i64 s1 : Value) := hSw.1.cell 0; have q1 : _ = some (.bool g1 : Value) := hSw.1.cell 1; have q2 : _ = some (.slice A1 n1 c1 : Value) := hSw.1.cell 2; have q3 : _ = some (.slice B1 m1 d1 : Value) := hSw.1.cell 3; go_simp; (try with_reducible rfl))
  try simp only [Act.put, List.setIfInBounds_toArray, List.set_cons_zero, List.set_cons_succ]
  refine wpAnyH_ready (rs := [5]) (by kernel_rfl) (by simp) ?_
  refine AllReadyH.cons rfl (fun KK hKK => ?_) AllReadyH.nil
  go_simp
  refine (HN.out _ ?_).mono ?_; exact hHeld.2.2
  rintro e w1 ⟨g2, A2, n2, c2, B2, m2, d2, rfl, h2, hb2⟩
  go_wp2_with fail
  refine hKK.out _ _ (⟨hHeld.1.keep hb2, hHeld.2.1.keep hb2, hHeld.2.2.trans (hb2.mono hHeld.2.2.size)⟩) (fun _ => ?_)
  clear hKK KK hHeld; rename_i hHeld
  try simp only [Act.put, List.setIfInBounds_toArray, List.set_cons_zero, List.set_cons_succ]
  refine wpAnyH_take (i := 6) (v := ?_) rfl (by kernel_rfl) (by kernel_rfl) (by kernel_rfl) (fun _ _ _ h => h) (Or.inl ⟨by rfl, ?_⟩) (by assumption) ?_
  rotate_left
  · (intro W2 hSw; go_simp; (try with_reducible rfl))
  try simp only [Act.put, List.setIfInBounds_toArray, List.set_cons_zero, List.set_cons_succ]
  refine wpAnyH_ready (rs := [7]) (by kernel_rfl) (by simp) ?_
  refine AllReadyH.cons rfl (fun KK hKK => ?_) AllReadyH.nil
  have ha0 := hHeld.2.1.someCell 0 (by decide); have hf0 := hHeld.2.1.frozen 0; have ha1 := hHeld.2.1.someCell 1 (by decide); have hf1 := hHeld.2.1.frozen 1; have ha2 := hHeld.2.1.someCell 2 (by decide); have hf2 := hHeld.2.1.frozen 2; have ha3 := hHeld.2.1.someCell 3 (by decide); have hf3 := hHeld.2.1.frozen 3; have HK := Lib.hid (hHeld.2.1.setCell [.int .i64 (-s1), .bool g2, .slice A2 n2 c2, .slice B2 m2 d2] rfl); have F := Lib.hid (below_sets (w0 := w) (r := (w.heap.size + 1)) (by omega) [.int .i64 (-s1), .bool g2, .slice A2 n2 c2, .slice B2 m2 d2] 0 _ hHeld.2.2); have FR := Lib.hid (hHeld.2.1.rat h2 [.int .i64 (-s1), .bool g2, .slice A2 n2 c2, .slice B2 m2 d2])
  go_simp
  refine hKK.out _ _ (⟨hHeld.1.other (by omega) 0 [.int .i64 (-s1), .bool g2, .slice A2 n2 c2, .slice B2 m2 d2], hHeld.2.1.sets [.int .i64 (-s1), .bool g2, .slice A2 n2 c2, .slice B2 m2 d2] rfl rfl, below_sets (by omega) [.int .i64 (-s1), .bool g2, .slice A2 n2 c2, .slice B2 m2 d2] 0 _ hHeld.2.2⟩) (fun _ => ?_)
  clear hKK KK hHeld; rename_i hHeld
  try simp only [Act.put, List.setIfInBounds_toArray, List.set_cons_zero, List.set_cons_succ]
  refine wpAnyH_done (by kernel_rfl) ?_ _
  have hk0 := HK.out 0 (by decide)
  have hk1 := HK.out 1 (by decide)
  have hk2 := HK.out 2 (by decide)
  have hk3 := HK.out 3 (by decide)
  simp [sets] at hk0 hk1 hk2 hk3
  clear hHeld HK
  go_wp2
  refine bodyPost_ret (v := .agg #[.int .i64 (-s1), .bool g2, .slice A2 n2 c2, .slice B2 m2 d2]) (by simp [results, Tryz.results128, go_sem, hk0, hk1, hk2, hk3]) rfl ?_
  exact ⟨_, _, _, _, _, _, _, rfl, FR.out, F.out⟩

end Go.Proofs.YtmjkmoahkanblaaGreat
