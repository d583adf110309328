/-
Walks: package vergeref3, rounded, Bits.
Walks: package vergeref3, Bits.
Walks: package vergeref6, Least, Neg.
Walks: package vergeref6, Neg.
Plain: the one rounded answer of a rational number; an end of a piece (a number, or an infinity) and its two neighbours.
-/
import Derived.Test.YtmjkmoahkanblaaGreatPGoA
import Derived.Test.YtmjkmoahkanblaaGreatM05
import Derived.Test.YtmjkmoahkanblaaGreatM08
import Derived.Deep.DeepCutAuto
import Derived.Test.YtmjkmoahkanblaaGreatM03
import Derived.Test.YtmjkmoahkanblaaGreatM06
set_option linter.unusedSimpArgs false
set_option linter.unusedVariables false
set_option maxHeartbeats 12800000

namespace Go.Proofs.YtmjkmoahkanblaaGreat
open Go.RowKit
theorem by_v {a b : Nat} (A B : Option Addr) (n c m d : Nat) (w : World) (hx : U32s w A n c (digs a)) (hy : U32s w B m d (digs b)) (hs : n ≤ 1073741824) (hm : m ≤ 1073741824) (h0 : 0 < b) :
    Calls Tryz.prog 206 #[.slice A n c, .slice B m d] w (NewU32s w (digs (a / b)) (digs (a % b))) := by
  rcases Nat.lt_or_ge a b with h | h
  · have := by_less A B n c m d _ _ w hx hy (by omega) (by rw [num_digs, num_digs]; exact h)
    rw [num_digs] at this
    rw [Nat.div_eq_of_lt h, Nat.mod_eq_of_lt h, digs_zero]
    exact this
  · have := by_main A B n c m d _ _ w hx hy hs hm (by rw [num_digs]; exact h0) (by rw [num_digs, num_digs]; exact h)
    rw [num_digs, num_digs] at this
    exact this
theorem len_v {a : Nat} (A : Option Addr) (n c : Nat) (w : World) (hx : U32s w A n c (digs a)) :
    Calls Tryz.prog 203 #[.slice A n c] w fun e w' => e = .returned (.int .i64 (blen a : Int)) ∧ w = w' := by
  have := len_any A n c _ w hx
  rw [num_digs] at this
  exact this
theorem cmp_v {a b : Nat} (A B : Option Addr) (n c m d : Nat) (w : World) (hx : U32s w A n c (digs a)) (hy : U32s w B m d (digs b)) :
    Calls Tryz.prog 142 #[.slice A n c, .slice B m d] w fun e w' => e = .returned (.int .i64 (cmp3 a b)) ∧ ∃ k, w' = w.drewN k := by
  have := cmp_any A B n c m d _ _ w hx hy
  rw [num_digs, num_digs] at this
  exact this
theorem word_v {a : Nat} (A : Option Addr) (n c : Nat) (w : World) (hx : U32s w A n c (digs a)) (h : a < 18446744073709551616) :
    Calls Tryz.prog 207 #[.slice A n c] w fun e w' => e = .returned (.tuple #[.int .u64 (a : Int), .bool true]) ∧ w = w' := by
  have h2 : n ≤ 2 := hx.len_le (k := 2) (Nat.lt_of_lt_of_le h (by decide))
  have := word_any A n c _ w hx (by have := wlen_le (digs a); have := hx.len; omega)
  rw [num_digs] at this
  exact this
def fdec (p q : Nat) (f : Int) : Bool := if 0 ≤ f then decide (p < q * 2^f.toNat) else decide (p * 2^(-f).toNat < q)
def fout (p q : Nat) (f : Int) : Int := if fdec p q f then f - 1 else f
theorem fout_sc {p q : Nat} {f : Int} (hp : 0 < p) (hq : 0 < q) (hf : f = (blen p : Int) - blen q) : Sc p q (fout p q f) := by
  unfold fout
  by_cases h : fdec p q f = true
  · rw [if_pos h]
    unfold fdec at h
    refine scale_down hp hq hf (fun h0 => ?_) (fun h0 => ?_)
    · rw [if_pos h0] at h; exact of_decide_eq_true h
    · rw [if_neg (by omega)] at h; exact of_decide_eq_true h
  · rw [if_neg h]
    unfold fdec at h
    refine scale_keep hp hq hf (fun h0 => ?_) (fun h0 => ?_)
    · rw [if_pos h0] at h; simp at h; exact h
    · rw [if_neg (by omega)] at h; simp at h; exact h
theorem cmp3_lt_iff {a b : Nat} : decide (cmp3 a b < 0) = decide (a < b) := by
  rw [decide_eq_decide]
  unfold cmp3
  split
  · constructor <;> intro <;> omega
  · split <;> constructor <;> intro <;> omega
theorem upN_lt {p K : Nat} {E : Int} (hp : p < 2^(32 * K)) (hE : -1074 ≤ E) : upN p E < 2^(32 * (K + 34)) := by
  unfold upN
  calc p * 2^(-E).toNat < 2^(32 * K) * 2^(-E).toNat := Nat.mul_lt_mul_of_pos_right hp (Nat.two_pow_pos _)
    _ = 2^(32 * K + (-E).toNat) := by rw [← Nat.pow_add]
    _ ≤ 2^(32 * (K + 34)) := Nat.pow_le_pow_right (by omega) (by omega)
theorem upM_lt {p K : Nat} {E : Int} (hp : p < 2^(32 * K)) (hE : E ≤ 971) : upM p E < 2^(32 * (K + 34)) := by
  unfold upM
  calc p * 2^E.toNat < 2^(32 * K) * 2^E.toNat := Nat.mul_lt_mul_of_pos_right hp (Nat.two_pow_pos _)
    _ = 2^(32 * K + E.toNat) := by rw [← Nat.pow_add]
    _ ≤ 2^(32 * (K + 34)) := Nat.pow_le_pow_right (by omega) (by omega)
set_option maxRecDepth 8000 in
theorem rounded_pos (K : Nat) (neg : Bool) (A B : Option Addr) (n c m d p q : Nat) (dd : Int) (w : World) (hu : U32s w A n c (digs p)) (hv : U32s w B m d (digs q)) (hp : 0 < p) (hq : 0 < q) (hpK : p < 2^(32 * K)) (hqK : q < 2^(32 * K)) (hK : K ≤ 1048576) (hd : dd = -1 ∨ dd = 1) :
    Calls Tryz.prog 144 #[.int .i64 dd, .agg #[.bool neg, .slice A n c, .slice B m d], .int .i64 53, .int .i64 1023] w fun e w' =>
      e = .returned (.int .u64 (pat (sg neg (ansT p q (fout p q ((blen p : Int) - blen q)) (decide (dd = 1) != neg))) : Int)) ∧ Below w.heap.size w w' := by
  have hr : RatV w K neg (.slice A n c) (.slice B m d) (rv neg p q) := ⟨p, q, A, n, c, B, m, d, rfl, rfl, hu, hv, hq, fun h => by omega, hpK, hqK, rfl⟩
  have ba := below_alloc w (.cells #[.bool neg, .slice A n c, .slice B m d] 60)
  have HS := Lib.hid fun W (hW : Below w.heap.size w W) => rsign_any K neg _ _ _ W (hr.below hW) (by omega)
  rw [rsg_rv hq (fun h => by omega), if_neg (by omega)] at HS
  have HL1 := Lib.hid fun W (hW : Below w.heap.size w W) => len_v A n c W (hu.below hW)
  have HL2 := Lib.hid fun W (hW : Below w.heap.size w W) => len_v B m d W (hv.below hW)
  have bp : blen p ≤ 33554432 := Nat.le_trans (blen_le_iff.2 hpK) (by omega)
  have bq : blen q ≤ 33554432 := Nat.le_trans (blen_le_iff.2 hqK) (by omega)
  obtain ⟨f0, hf0⟩ : ∃ f0, (blen p : Int) - blen q = f0 := ⟨_, rfl⟩
  have hsc := fout_sc hp hq hf0.symm
  rw [hf0]
  obtain ⟨s, hs⟩ : ∃ s : Int, (if neg = true then -1 else 1) = s := ⟨_, rfl⟩
  rw [hs] at HS
  have hs0 : (s == 0) = false := by rw [← hs]; cases neg <;> rfl
  obtain ⟨away, haw⟩ : ∃ a, (decide (dd = 1) != neg) = a := ⟨_, rfl⟩
  rw [haw]
  obtain ⟨f, hff⟩ : ∃ f, fout p q f0 = f := ⟨_, rfl⟩
  rw [hff] at hsc ⊢
  obtain ⟨PP, hPP⟩ : ∃ P, pat (sg neg (ansT p q f away)) = P := ⟨_, rfl⟩
  rw [hPP]
  have HPP := Lib.hid hPP
  have HFF := Lib.hid hff
  clear hPP hff
  have hn1 := hu.len_le hpK
  have hm1 := hv.len_le hqK
  have HU := Lib.hid hu
  have HV := Lib.hid hv
  have G0 := Lib.hid (Blk.new w 60 #[.bool neg, .slice A n c, .slice B m d])
  have BA := Lib.hid ba
  have HF0 := Lib.hid hf0
  have HAW := Lib.hid haw
  have HSS := Lib.hid hs
  have HSC := Lib.hid hsc
  have HPK := Lib.hid hpK
  have HQK := Lib.hid hqK
  have HP := Lib.hid hp
  have HQ := Lib.hid hq
  clear hr ba hu hv hsc haw hs hpK hqK hp hq
  have HHd := Lib.hid hd
  clear hd
  go_enter Tryz.func144, Tryz.ntmps144
  go_wp2_with fail
  refine (HS.out _ BA.out).mono ?_
  rintro e w1 ⟨rfl, hb1⟩
  have B1 := Lib.hid (BA.out.trans (hb1.mono BA.out.size))
  have G1 := Lib.hid (G0.out.keep hb1)
  clear hb1 BA G0 HS
  go_upto_region 4 with fail
  go_cut [10] (fun s10 wx => s10 = .bool away ∧ wx = w1)
  case first =>
    have haw := HAW.out
    have hs := HSS.out
    rcases HHd.out with rfl | rfl <;> cases neg <;> simp at haw hs <;> subst haw <;> subst hs <;> (go_wp2_with fail; go_meet; exact ⟨rfl, rfl⟩)
  case rest =>
  obtain ⟨rfl, rfl⟩ := hcut
  go_upto_region 5 with fail
  go_cut [11] (fun s11 wx => s11 = .bool false ∧ wc = wx)
  case first =>
    rcases HHd.out with rfl | rfl <;> (go_wp2_with fail; go_meet; exact ⟨rfl, rfl⟩)
  case rest =>
  obtain ⟨rfl, rfl⟩ := hcut
  have q1 := G1.out.cell 1
  have q2 := G1.out.cell 2
  simp at q1 q2
  go_wp2_with fail
  refine (HL1.out _ B1.out).mono ?_
  rintro e w2 ⟨rfl, rfl⟩
  go_wp2_with fail
  refine (HL2.out _ B1.out).mono ?_
  rintro e w2 ⟨rfl, rfl⟩
  obtain ⟨dec, hdec⟩ : ∃ b, fdec p q f0 = b := ⟨_, rfl⟩
  have HDEC := Lib.hid hdec
  clear hdec q1 q2
  have HLf := Lib.hid fun (g : Nat) W (hg : g ≤ 33554432) (hW : Below w.heap.size w W) => left_v (v := q) B m d g W (HV.out.below hW) (by omega) (by omega)
  have HLg := Lib.hid fun (g : Nat) W (hg : g ≤ 33554432) (hW : Below w.heap.size w W) => left_v (v := p) A n c g W (HU.out.below hW) (by omega) (by omega)
  go_upto_region 9 with fail
  go_cut [76] (fun s76 wx => s76 = .bool dec ∧ Below w.heap.size w wx)
  case first =>
    rcases Int.lt_or_le f0 0 with h0 | h0
    · obtain ⟨g, hg⟩ : ∃ g : Nat, -f0 = g := ⟨(-f0).toNat, by omega⟩
      have hg2 : g ≤ 33554432 := by omega
      have hd := HDEC.out
      unfold fdec at hd
      rw [if_neg (by omega), show (-f0).toNat = g from by omega, ← cmp3_lt_iff] at hd
      have c1 : decide (0 ≤ f0) = false := by simp; omega
      have c2 : decide (f0 < 0) = true := by simp; omega
      obtain ⟨cv, hcv⟩ : ∃ cv, cmp3 (p * 2^g) q = cv := ⟨_, rfl⟩
      rw [hcv] at hd
      have HCV := Lib.hid hcv
      clear hcv h0 hf0
      go_wp2_with fail
      refine (HLg.out g _ hg2 B1.out).mono ?_
      rintro e w3 ⟨A3, n3, c3, rfl, hu3, hb3⟩
      have B3 := Lib.hid (B1.out.trans (hb3.mono B1.out.size))
      have HC := Lib.hid (cmp_v A3 B n3 c3 m d w3 hu3 (HV.out.below B3.out))
      rw [HCV.out] at HC
      clear hu3 hb3
      go_wp2_with fail
      refine HC.out.mono ?_
      rintro e w4 ⟨rfl, k, rfl⟩
      cases dec <;> (go_wp2_with fail; go_meet; exact ⟨rfl, below_drewN B3.out k⟩)
    · obtain ⟨g, hg⟩ : ∃ g : Nat, f0 = g := ⟨f0.toNat, by omega⟩
      subst hg
      have hg2 : g ≤ 33554432 := by omega
      have hd := HDEC.out
      unfold fdec at hd
      rw [if_pos h0, Int.toNat_natCast, ← cmp3_lt_iff] at hd
      obtain ⟨cv, hcv⟩ : ∃ cv, cmp3 p (q * 2^g) = cv := ⟨_, rfl⟩
      rw [hcv] at hd
      have c2 : decide ((g : Int) < 0) = false := by simp
      have HCV := Lib.hid hcv
      clear hcv h0 hf0
      go_wp2_with fail
      refine (HLf.out g _ hg2 B1.out).mono ?_
      rintro e w3 ⟨A3, n3, c3, rfl, hu3, hb3⟩
      have B3 := Lib.hid (B1.out.trans (hb3.mono B1.out.size))
      have HC := Lib.hid (cmp_v A A3 n c n3 c3 w3 (HU.out.below B3.out) hu3)
      rw [HCV.out] at HC
      clear hu3 hb3
      go_wp2_with fail
      refine HC.out.mono ?_
      rintro e w4 ⟨rfl, k, rfl⟩
      cases dec <;> (go_wp2_with fail; go_meet; exact ⟨rfl, below_drewN B3.out k⟩)
  case rest =>
  obtain ⟨rfl, hbc⟩ := hcut
  have B4 := Lib.hid hbc
  clear hbc B1 G1 HLf HLg
  have hfo : (if dec = true then f0 - 1 else f0) = f := by rw [← HFF.out]; unfold fout; rw [HDEC.out]
  have HFO := Lib.hid hfo
  clear hfo
  go_upto_if 76 with fail
  go_cut [14] (fun s14 wx => s14 = .int .i64 f ∧ Below w.heap.size w wx)
  case first =>
    have hfo := HFO.out
    cases dec
    · rw [if_neg (by decide)] at hfo
      go_wp2_with fail
      go_meet
      exact ⟨by first | rfl | rw [hfo], B4.out⟩
    · rw [if_pos rfl] at hfo
      go_wp2_with fail
      go_meet
      exact ⟨by first | rfl | rw [hfo], B4.out⟩
  case rest =>
  obtain ⟨rfl, hbc⟩ := hcut
  have B5 := Lib.hid hbc
  clear hbc B4
  have hfb : -33554434 ≤ f ∧ f ≤ 33554433 := by
    have := HFO.out
    split at this <;> omega
  have hsn : decide (s < 0) = neg := by rw [← HSS.out]; cases neg <;> rfl
  clear HL1 HL2 hf0
  by_cases hov : 1023 < f
  · have hpp := HPP.out
    unfold ansT at hpp
    rw [if_pos hov] at hpp
    have HI := Lib.hid fun W => infinite_any neg W
    have HG := Lib.hid fun W => greatest_any neg W
    cases away
    · rw [if_neg (by decide)] at hpp
      rw [hpp] at HG
      clear hpp
      go_wp2_with fail
      refine (HG.out _).mono ?_
      rintro e w6 ⟨rfl, rfl⟩
      go_wp2
      go_ret
      exact ⟨rfl, B5.out⟩
    · rw [if_pos rfl] at hpp
      rw [hpp] at HI
      clear hpp
      go_wp2_with fail
      refine (HI.out _).mono ?_
      rintro e w6 ⟨rfl, rfl⟩
      go_wp2
      go_ret
      exact ⟨rfl, B5.out⟩
  · have hov2 : f ≤ 1023 := by omega
    have hov3 : decide (1023 < f) = false := by simp; omega
    obtain ⟨E, hE⟩ : ∃ E, lastBit f = E := ⟨_, rfl⟩
    have hEb := lastBit_bounds hov2
    rw [hE] at hEb
    have hpp := HPP.out
    unfold ansT at hpp
    rw [if_neg hov, hE] at hpp
    have HPP := Lib.hid hpp
    have HE := Lib.hid hE
    have HOV2 := Lib.hid hov2
    clear hpp hE hov hov2
    go_upto_if 103 with fail
    go_cut [15] (fun s15 wx => s15 = .int .i64 E ∧ wc = wx)
    case first =>
      have hE := HE.out
      unfold lastBit at hE
      by_cases h : f - 52 < -1074
      · rw [if_pos h] at hE
        have h2 : decide (f - 53 + 1 < -1074) = true := by simp; omega
        go_wp2_with fail
        go_meet
        exact ⟨by first | rfl | rw [hE], rfl⟩
      · rw [if_neg h] at hE
        have h2 : decide (f - 53 + 1 < -1074) = false := by simp; omega
        have h3 : f - 53 + 1 = E := by omega
        go_wp2_with fail
        go_meet
        exact ⟨by first | rfl | rw [h3], rfl⟩
    case rest =>
    obtain ⟨rfl, rfl⟩ := hcut
    have HLm := Lib.hid fun (g : Nat) W (hg : g ≤ 33554432) (hW : Below w.heap.size w W) => left_v (v := q) B m d g W (HV.out.below hW) (by omega) (by omega)
    have HLn := Lib.hid fun (g : Nat) W (hg : g ≤ 33554432) (hW : Below w.heap.size w W) => left_v (v := p) A n c g W (HU.out.below hW) (by omega) (by omega)
    go_upto_if 109 with fail
    go_cut [12, 13] (fun s12 s13 wx => ∃ A1 n1 c1 B1 m1 d1, s12 = .slice A1 n1 c1 ∧ s13 = .slice B1 m1 d1 ∧ U32s wx A1 n1 c1 (digs (upN p E)) ∧ U32s wx B1 m1 d1 (digs (upM q E)) ∧ Below w.heap.size w wx)
    case first =>
      rcases Int.lt_or_le E 0 with h0 | h0
      · obtain ⟨g, hg⟩ : ∃ g : Nat, -E = g := ⟨(-E).toNat, by omega⟩
        have hg2 : g ≤ 33554432 := by omega
        have e1 : upN p E = p * 2^g := by unfold upN; rw [show (-E).toNat = g from by omega]
        have e2 : upM q E = q := by unfold upM; rw [show E.toNat = 0 from by omega, Nat.pow_zero, Nat.mul_one]
        have E1 := Lib.hid e1
        have E2 := Lib.hid e2
        have c1 : decide (0 ≤ E) = false := by simp; omega
        have c2 : ¬ (0 ≤ E) := by omega
        clear e1 e2
        go_wp2_with fail
        refine (HLn.out g _ hg2 B5.out).mono ?_
        rintro e w6 ⟨A3, n3, c3, rfl, hu3, hb3⟩
        have HU3 := Lib.hid hu3
        have B6 := Lib.hid (B5.out.trans (hb3.mono B5.out.size))
        clear hu3 hb3
        go_wp2_with fail
        go_meet
        exact ⟨A3, n3, c3, B, m, d, rfl, rfl, by rw [E1.out]; exact HU3.out, by rw [E2.out]; exact HV.out.below B6.out, B6.out⟩
      · obtain ⟨g, hg⟩ : ∃ g : Nat, E = g := ⟨E.toNat, by omega⟩
        subst hg
        have hg2 : g ≤ 33554432 := by omega
        have e1 : upM q (g : Int) = q * 2^g := by unfold upM; rw [Int.toNat_natCast]
        have e2 : upN p (g : Int) = p := by unfold upN; rw [show (-(g : Int)).toNat = 0 from by omega, Nat.pow_zero, Nat.mul_one]
        have E1 := Lib.hid e1
        have E2 := Lib.hid e2
        clear e1 e2 h0
        go_wp2_with fail
        refine (HLm.out g _ hg2 B5.out).mono ?_
        rintro e w6 ⟨A3, n3, c3, rfl, hu3, hb3⟩
        have HU3 := Lib.hid hu3
        have B6 := Lib.hid (B5.out.trans (hb3.mono B5.out.size))
        clear hu3 hb3
        go_wp2_with fail
        go_meet
        exact ⟨A, n, c, A3, n3, c3, rfl, rfl, by rw [E2.out]; exact HU.out.below B6.out, by rw [E1.out]; exact HU3.out, B6.out⟩
    case rest =>
    obtain ⟨A1, n1, c1, B1, m1, d1, rfl, rfl, hu1, hv1, hb1⟩ := hcut
    have ln1 := hu1.len_le (upN_lt HPK.out hEb.1)
    have lm1 := hv1.len_le (upM_lt HQK.out hEb.2)
    have hwlt := w_lt HQ.out HSC.out
    have hwge := w_ge HQ.out HSC.out
    rw [HE.out] at hwlt hwge
    have hM : 0 < upM q E := Nat.mul_pos HQ.out (Nat.two_pow_pos _)
    have hpp := HPP.out
    unfold capT cutT at hpp
    obtain ⟨a, ha⟩ : ∃ a, upN p E = a := ⟨_, rfl⟩
    obtain ⟨b, hb⟩ : ∃ a, upM q E = a := ⟨_, rfl⟩
    rw [ha] at hu1 hwlt hwge hpp
    rw [hb] at hv1 hwlt hwge hpp hM
    have HBY := Lib.hid (by_v A1 B1 n1 c1 m1 d1 wc hu1 hv1 (by omega) (by omega) hM)
    obtain ⟨W, hW⟩ : ∃ x, a / b = x := ⟨_, rfl⟩
    obtain ⟨R, hR⟩ : ∃ x, a % b = x := ⟨_, rfl⟩
    rw [hW] at hwlt hwge hpp HBY
    rw [hR] at hpp HBY
    have hRlt : R < 2^(32 * (K + 34)) := by
      have h1 := Nat.mod_lt a hM
      have h2 := upM_lt HQK.out hEb.2
      rw [hb] at h2
      omega
    obtain ⟨k, hk⟩ : ∃ k : Nat, (E + 1074).toNat = k := ⟨_, rfl⟩
    rw [hk] at hpp
    have hEk : ((k : Int) - 1074) = E := by omega
    have hk2 : k ≤ 2045 := by omega
    have hform : k = 0 ∨ 4503599627370496 ≤ W := by
      by_cases h : -1074 < E
      · right; exact hwge h
      · left; omega
    have hWlt : W < 9007199254740992 := hwlt
    have HRLT := Lib.hid hRlt
    have HPP3 := Lib.hid hpp
    have B7 := Lib.hid hb1
    have HV1 := Lib.hid hv1
    have HB0 := Lib.hid hM
    clear hu1 hv1 hb1 hwlt hwge hM hpp ha hb hW hR hRlt hk HPP HE HLm HLn HPK HQK HP HQ HSC HU HV HDEC HFO HFF HF0 HHd HAW HSS HOV2
    have HI := Lib.hid fun W => infinite_any neg W
    have HMD := Lib.hid fun (sg : Nat) X (h1 : sg ≤ 9007199254740992) (h2 : k = 0 ∨ 4503599627370496 ≤ sg) (h3 : k * 4503599627370496 + sg < 9218868437227405312) => made_any neg sg k X h1 hk2 h2 h3
    rw [hEk] at HMD
    have HEk := Lib.hid hEk
    have HK2 := Lib.hid hk2
    have HFM := Lib.hid hform
    clear hEk hk2 hform
    go_wp2_with fail
    refine HBY.out.mono ?_
    rintro e w7 ⟨A2, n2, c2, A3, n3, c3, rfl, hu2, hu3, hb7⟩
    have B8 := Lib.hid (B7.out.trans (hb7.mono B7.out.size))
    have HWD := Lib.hid (word_v A2 n2 c2 w7 hu2 (by omega))
    have hn3 := hu3.len_le HRLT.out
    have hn0 : n3 = 0 ↔ R = 0 := by
      have := @digs_length_eq_zero R
      rw [hu3.len] at this; exact this
    have HL3 := Lib.hid (left_v (v := R) A3 n3 c3 1 w7 hu3 (by omega) (by omega))
    have HV7 := Lib.hid (HV1.out.below hb7)
    have HN0 := Lib.hid hn0
    clear hu2 hu3 hb7 hn0 HBY HV1
    go_wp2_with fail
    refine HWD.out.mono ?_
    rintro e w8 ⟨rfl, rfl⟩
    go_wp2_with fail
    refine HL3.out.mono ?_
    rintro e w8 ⟨A4, n4, c4, rfl, hu4, hb8⟩
    have B9 := Lib.hid (B8.out.trans (hb8.mono B8.out.size))
    have HC4 := Lib.hid (cmp_v A4 B1 n4 c4 m1 d1 w8 hu4 (HV7.out.below hb8))
    clear hu4 hb8 HWD HL3
    obtain ⟨hf, hhf⟩ : ∃ x, cmp3 (R * 2^1) b = x := ⟨_, rfl⟩
    rw [hhf] at HC4
    clear hhf
    go_wp2_with fail
    refine HC4.out.mono ?_
    rintro e w9 ⟨rfl, kk, rfl⟩
    clear HC4
    have hpp := HPP3.out
    have hEk := HEk.out
    have hk2 := HK2.out
    cases away
    · rw [if_neg (by decide)] at hpp
      have hc : ((W : Int) == 9007199254740992) = false := by simp; omega
      have HM1 := Lib.hid fun X => HMD.out W X (by omega) HFM.out (by omega)
      rw [show k * 4503599627370496 + W = k * 2^52 + W from rfl, hpp] at HM1
      clear hpp hEk hk2 HFM HMD HPP3
      go_wp2_with fail
      refine (HM1.out _).mono ?_
      rintro e w10 ⟨rfl, rfl⟩
      go_wp2
      go_ret
      exact ⟨rfl, below_drewN B9.out _⟩
    · rw [if_pos rfl] at hpp
      rcases Nat.eq_zero_or_pos R with hR | hR
      · rw [if_pos hR, Nat.add_zero] at hpp
        obtain rfl : n3 = 0 := HN0.out.2 hR
        clear hR
        have hc : ((W : Int) == 9007199254740992) = false := by simp; omega
        have HM1 := Lib.hid fun X => HMD.out W X (by omega) HFM.out (by omega)
        rw [show k * 4503599627370496 + W = k * 2^52 + W from rfl, hpp] at HM1
        clear hpp hEk hk2 HFM HMD HPP3
        go_wp2_with fail
        refine (HM1.out _).mono ?_
        rintro e w10 ⟨rfl, rfl⟩
        go_wp2
        go_ret
        exact ⟨rfl, below_drewN B9.out _⟩
      · rw [if_neg (by omega)] at hpp
        have hn30 : 0 < n3 := by
          rcases Nat.eq_zero_or_pos n3 with h | h
          · have := HN0.out.1 h; omega
          · exact h
        have hn31 : decide (0 < n3) = true := by simp; exact hn30
        have hn32 : decide ((0 : Int) < (n3 : Int)) = true := by simp; exact hn30
        clear hR
        by_cases h53 : W + 1 = 9007199254740992
        · have hc : ((W : Int) + 1 == 9007199254740992) = true := by simp; omega
          by_cases hov : 970 < E
          · have hc2 : decide (1023 < E + 53) = true := by simp; omega
            have HI1 := HI
            have hk3 : k = 2045 := by omega
            have e3 : 2045 * 2^52 + 9007199254740992 = M := by decide
            rw [h53, hk3, e3] at hpp
            rw [hpp] at HI1
            clear hpp hEk hk2 HFM HMD HPP3 HI
            go_wp2_with fail
            refine (HI1.out _).mono ?_
            rintro e w10 ⟨rfl, rfl⟩
            go_wp2
            go_ret
            exact ⟨rfl, below_drewN B9.out _⟩
          · have hc2 : decide (1023 < E + 53) = false := by simp; omega
            have HM1 := Lib.hid fun X => HMD.out (W + 1) X (by omega) (by have := HFM.out; omega) (by omega)
            rw [show k * 4503599627370496 + (W + 1) = k * 2^52 + (W + 1) from rfl, hpp, show ((W + 1 : Nat) : Int) = (W : Int) + 1 from by omega] at HM1
            clear hpp hEk hk2 HFM HMD HPP3
            go_wp2_with fail
            refine (HM1.out _).mono ?_
            rintro e w10 ⟨rfl, rfl⟩
            go_wp2
            go_ret
            exact ⟨rfl, below_drewN B9.out _⟩
        · have hc : ((W : Int) + 1 == 9007199254740992) = false := by simp; omega
          have HM1 := Lib.hid fun X => HMD.out (W + 1) X (by omega) (by have := HFM.out; omega) (by omega)
          rw [show k * 4503599627370496 + (W + 1) = k * 2^52 + (W + 1) from rfl, hpp, show ((W + 1 : Nat) : Int) = (W : Int) + 1 from by omega] at HM1
          clear hpp hEk hk2 HFM HMD HPP3
          go_wp2_with fail
          refine (HM1.out _).mono ?_
          rintro e w10 ⟨rfl, rfl⟩
          go_wp2
          go_ret
          exact ⟨rfl, below_drewN B9.out _⟩
end Go.Proofs.YtmjkmoahkanblaaGreat

namespace Go.Proofs.YtmjkmoahkanblaaGreat
open Go.RowKit
set_option maxRecDepth 8000 in
theorem rounded_zero (K : Nat) (neg : Bool) (A B : Option Addr) (n c m d : Nat) (dd : Int) (w : World) (h : RatV w K neg (.slice A n c) (.slice B m d) 0) (hK : K ≤ 1048576) :
    Calls Tryz.prog 144 #[.int .i64 dd, .agg #[.bool neg, .slice A n c, .slice B m d], .int .i64 53, .int .i64 1023] w fun e w' => e = .returned (.int .u64 0) ∧ Below w.heap.size w w' := by
  have ba := below_alloc w (.cells #[.bool neg, .slice A n c, .slice B m d] 60)
  have HS := Lib.hid fun W (hW : Below w.heap.size w W) => rsign_any K neg _ _ _ W (h.below hW) (by omega)
  rw [show rsg 0 = 0 from rfl] at HS
  have BA := Lib.hid ba
  clear ba h
  go_enter Tryz.func144, Tryz.ntmps144
  go_wp2_with fail
  refine (HS.out _ BA.out).mono ?_
  rintro e w1 ⟨rfl, hb1⟩
  have B1 := Lib.hid (BA.out.trans (hb1.mono BA.out.size))
  clear hb1
  go_wp2
  go_ret
  exact ⟨rfl, B1.out⟩
def IsRnd (w : World) (d : Int) (x : Rat) (e : Ending) (w' : World) : Prop := ∃ i, e = .returned (.int .u64 (pat i : Int)) ∧ Rnd d x i ∧ Below w.heap.size w w'
theorem rounded_any (K : Nat) (neg : Bool) (A B : Option Addr) (n c m d : Nat) (x : Rat) (dd : Int) (w : World) (h : RatV w K neg (.slice A n c) (.slice B m d) x) (hK : K ≤ 1048576) (hd : dd = -1 ∨ dd = 1) :
    Calls Tryz.prog 144 #[.int .i64 dd, .agg #[.bool neg, .slice A n c, .slice B m d], .int .i64 53, .int .i64 1023] w (IsRnd w dd x) := by
  have h' := h
  obtain ⟨p, q, A', n', c', B', m', d', e1, e2, hu, hv, hq, h0, hpK, hqK, rfl⟩ := h'
  cases e1; cases e2
  rcases Nat.eq_zero_or_pos p with hp | hp
  · subst hp
    rw [rv_zero] at h
    refine (rounded_zero K neg A B n c m d dd w h hK).mono ?_
    rintro e w' ⟨rfl, hb⟩
    refine ⟨0, rfl, ?_, hb⟩
    rw [rv_zero]
    exact rnd_zero hd
  · refine (rounded_pos K neg A B n c m d p q dd w hu hv hp hq hpK hqK hK hd).mono ?_
    rintro e w' ⟨rfl, hb⟩
    exact ⟨_, rfl, rnd_ans hp hq (fout_sc hp hq rfl) hd, hb⟩
theorem bits_any (K : Nat) (neg : Bool) (A B : Option Addr) (n c m d : Nat) (x : Rat) (dd : Int) (w : World) (h : RatV w K neg (.slice A n c) (.slice B m d) x) (hK : K ≤ 1048576) (hd : dd = -1 ∨ dd = 1) :
    Calls Tryz.prog 72 #[.int .i64 dd, .agg #[.bool neg, .slice A n c, .slice B m d]] w (IsRnd w dd x) := by
  have ba := below_alloc w (.cells #[.bool neg, .slice A n c, .slice B m d] 60)
  have HS := Lib.hid fun W (hW : Below w.heap.size w W) => rounded_any K neg A B n c m d x dd W (h.below hW) hK hd
  have BA := Lib.hid ba
  clear ba h hd
  go_enter Tryz.func72, Tryz.ntmps72
  go_wp2_with fail
  refine (HS.out _ BA.out).mono ?_
  rintro e w1 ⟨i, rfl, hr, hb1⟩
  have B1 := Lib.hid (BA.out.trans (hb1.mono BA.out.size))
  have HR := Lib.hid hr
  clear hb1 hr
  go_wp2
  go_ret
  exact ⟨i, rfl, HR.out, B1.out⟩
end Go.Proofs.YtmjkmoahkanblaaGreat

namespace Go.Proofs.YtmjkmoahkanblaaGreat
open Go.RowKit
def NewLeast (w : World) (s : Int) (x : Rat) (t : Int) (y : Rat) (e : Ending) (w' : World) : Prop :=
  ∃ i j, e = .returned (.agg #[.int .u64 (pat i : Int), .int .u64 (pat j : Int)]) ∧ (s = 0 → Rnd (-1) x i) ∧ (s ≠ 0 → i = -(M : Int)) ∧ (t = 0 → Rnd 1 y j) ∧ (t ≠ 0 → j = M) ∧ Below w.heap.size w w'
theorem least_none (s1 : Int) (g1 : Bool) (A1 : Option Addr) (n1 c1 : Nat) (B1 : Option Addr) (m1 d1 : Nat) (x1 : Rat) (s2 : Int) (g2 : Bool) (A2 : Option Addr) (n2 c2 : Nat) (B2 : Option Addr) (m2 d2 : Nat) (x2 : Rat) (w : World) :
    Calls Tryz.prog 121 #[.agg #[.bool true, .int .i64 s1, .bool g1, .slice A1 n1 c1, .slice B1 m1 d1, .int .i64 s2, .bool g2, .slice A2 n2 c2, .slice B2 m2 d2]] w fun e w' => e = .returned (.agg #[.int .u64 9218868437227405312, .int .u64 18442240474082181120]) ∧ Below w.heap.size w w' := by
  have HE := Lib.hid empty6
  obtain ⟨LB0, LG0_0, LR⟩ := bx2 w #[.bool true, .int .i64 s1, .bool g1, .slice A1 n1 c1, .slice B1 m1 d1, .int .i64 s2, .bool g2, .slice A2 n2 c2, .slice B2 m2 d2] 69 #[.int .u64 0, .int .u64 0] 24
  have LR0 := Lib.hid (HasBlk.of (n := 2) LR.out rfl rfl)
  clear LR
  go_enter Tryz.func121, Tryz.ntmps121
  go_wp2_with fail
  refine (HE.out _).mono ?_
  rintro e w1 ⟨rfl, hb1⟩
  have LB1 := stB LB0 hb1 LB0.out.size
  have LR1 := stR LR0 hb1
  have LG0_1 := stG LG0_0 hb1
  clear LB0 LR0 LG0_0
  obtain ⟨ha0, hf0, ha1, hf1⟩ := LR1.out.sf2
  obtain ⟨hk0, hk1⟩ := LR1.out.sc2 (.int .u64 9218868437227405312) (.int .u64 18442240474082181120)
  have F := Lib.hid (below_sets (w0 := w) (r := (w.heap.size + 1)) (by omega) [.int .u64 9218868437227405312, .int .u64 18442240474082181120] 0 _ LB1.out)
  simp [sets] at hk0 hk1
  clear hb1
  go_wp2
  refine bodyPost_ret (v := .agg #[.int .u64 9218868437227405312, .int .u64 18442240474082181120]) (by simp [results, Tryz.results121, go_sem, hk0, hk1]) rfl ?_
  exact ⟨rfl, F.out⟩
theorem least_some (K : Nat) (s1 : Int) (g1 : Bool) (A1 : Option Addr) (n1 c1 : Nat) (B1 : Option Addr) (m1 d1 : Nat) (x1 : Rat) (s2 : Int) (g2 : Bool) (A2 : Option Addr) (n2 c2 : Nat) (B2 : Option Addr) (m2 d2 : Nat) (x2 : Rat) (w : World) (h1 : RatV w K g1 (.slice A1 n1 c1) (.slice B1 m1 d1) x1) (h2 : RatV w K g2 (.slice A2 n2 c2) (.slice B2 m2 d2) x2) (hK : K ≤ 1048576) :
    Calls Tryz.prog 121 #[.agg #[.bool false, .int .i64 s1, .bool g1, .slice A1 n1 c1, .slice B1 m1 d1, .int .i64 s2, .bool g2, .slice A2 n2 c2, .slice B2 m2 d2]] w (NewLeast w s1 x1 s2 x2) := by
  have HE := Lib.hid entire6
  have T1 := Lib.hid fun W (hW : Below w.heap.size w W) => bits_any K g1 A1 B1 n1 c1 m1 d1 x1 (-1) W (h1.below hW) hK (.inl rfl)
  have T2 := Lib.hid fun W (hW : Below w.heap.size w W) => bits_any K g2 A2 B2 n2 c2 m2 d2 x2 1 W (h2.below hW) hK (.inr rfl)
  clear h1 h2
  by_cases ha : s1 = 0
  · subst ha
    by_cases hb : s2 = 0
    · subst hb
      obtain ⟨LB0, LG0_0, LR⟩ := bx2 w #[.bool false, .int .i64 0, .bool g1, .slice A1 n1 c1, .slice B1 m1 d1, .int .i64 0, .bool g2, .slice A2 n2 c2, .slice B2 m2 d2] 69 #[.int .u64 0, .int .u64 0] 24
      have LR0 := Lib.hid (HasBlk.of (n := 2) LR.out rfl rfl)
      clear LR
      go_enter Tryz.func121, Tryz.ntmps121
      go_wp2_with fail
      refine (HE.out _).mono ?_
      rintro e w1 ⟨rfl, hb1⟩
      have LB1 := stB LB0 hb1 LB0.out.size
      have LR1 := stR LR0 hb1
      have LG0_1 := stG LG0_0 hb1
      clear LB0 LR0 LG0_0
      have hlo := LB1.out.size
      have hlr := LR1.out.lt
      have hlt2 := LR1.out.lt
      have LB2 := Lib.hid (LB1.out.alloc LB1.out.size (.cells #[.int .u64 18442240474082181120, .int .u64 9218868437227405312] 24))
      have LR2 := Lib.hid (LR1.out.alloc (.cells #[.int .u64 18442240474082181120, .int .u64 9218868437227405312] 24))
      have LG0_2 := Lib.hid (LG0_1.out.alloc (.cells #[.int .u64 18442240474082181120, .int .u64 9218868437227405312] 24))
      have LG1_2 := Lib.hid (Blk.new w1 24 #[.int .u64 18442240474082181120, .int .u64 9218868437227405312])
      clear LB1 LR1 LG0_1
      clear hb1
      go_upto_region 4 with fail
      obtain ⟨V2, hV2⟩ : ∃ X, (w1.alloc (.cells #[.int .u64 18442240474082181120, .int .u64 9218868437227405312] 24)) = X := ⟨_, rfl⟩
      rw [hV2] at LB2 LR2 LG0_2 LG1_2 ⊢
      clear hV2
      obtain ⟨q0_0, q0_1, q0_2, q0_3, q0_4, q0_5, q0_6, q0_7, q0_8⟩ := LG0_2.out.c9
      go_wp2_with fail
      refine (T1.out _ LB2.out).mono ?_
      rintro e w2 ⟨i, rfl, hi, hb2⟩
      have LB3 := stB LB2 hb2 LB2.out.size
      have LR3 := stR LR2 hb2
      have LG0_3 := stG LG0_2 hb2
      have LG1_3 := stG LG1_2 hb2
      clear LB2 LR2 LG0_2 LG1_2
      have HI := Lib.hid hi
      clear hi hb2 q0_0 q0_1 q0_2 q0_3 q0_4 q0_5 q0_6 q0_7 q0_8
      have q1_0 := LG1_3.out.ce 0 rfl
      have hf1 := LG1_3.out.frozen 0
      go_upto_region 6 with fail
      clear q1_0 hf1
      have LB4 := Lib.hid (LB3.out.setCell (p := ⟨w1.heap.size, 0, none⟩) (by first | exact Nat.le_refl _ | (show w.heap.size ≤ _ + _; omega) | (show w.heap.size ≤ _; omega)) (.int .u64 (pat i : Int)))
      have LR4 := Lib.hid (show HasBlk (w2.setCell ⟨w1.heap.size, 0, none⟩ (.int .u64 (pat i : Int))) (w.heap.size + 1) 24 2 from LR3.out.other (by omega) 0 [.int .u64 (pat i : Int)])
      have LG0_4 := Lib.hid (show Blk (w2.setCell ⟨w1.heap.size, 0, none⟩ (.int .u64 (pat i : Int))) w.heap.size 69 #[.bool false, .int .i64 0, .bool g1, .slice A1 n1 c1, .slice B1 m1 d1, .int .i64 0, .bool g2, .slice A2 n2 c2, .slice B2 m2 d2] from LG0_3.out.other (by omega) 0 [.int .u64 (pat i : Int)])
      have LG1_4 := Lib.hid (LG1_3.out.set 0 (.int .u64 (pat i : Int)))
      clear LB3 LR3 LG0_3 LG1_3
      obtain ⟨V3, hV3⟩ : ∃ X, w2.setCell ⟨w1.heap.size, 0, none⟩ (.int .u64 (pat i : Int)) = X := ⟨_, rfl⟩
      rw [hV3] at LB4 LR4 LG0_4 LG1_4 ⊢
      clear hV3
      obtain ⟨q0_0, q0_1, q0_2, q0_3, q0_4, q0_5, q0_6, q0_7, q0_8⟩ := LG0_4.out.c9
      go_wp2_with fail
      refine (T2.out _ LB4.out).mono ?_
      rintro e w3 ⟨j, rfl, hj, hb3⟩
      have LB5 := stB LB4 hb3 LB4.out.size
      have LR5 := stR LR4 hb3
      have LG0_5 := stG LG0_4 hb3
      have LG1_5 := stG LG1_4 hb3
      clear LB4 LR4 LG0_4 LG1_4
      have HJ := Lib.hid hj
      clear hj hb3 q0_0 q0_1 q0_2 q0_3 q0_4 q0_5 q0_6 q0_7 q0_8
      have q1_1 := LG1_5.out.ce 1 rfl
      have hf1 := LG1_5.out.frozen 1
      go_upto_region 8 with fail
      clear q1_1 hf1
      have LB6 := Lib.hid (LB5.out.setCell (p := ⟨w1.heap.size, 1, none⟩) (by first | exact Nat.le_refl _ | (show w.heap.size ≤ _ + _; omega) | (show w.heap.size ≤ _; omega)) (.int .u64 (pat j : Int)))
      have LR6 := Lib.hid (show HasBlk (w3.setCell ⟨w1.heap.size, 1, none⟩ (.int .u64 (pat j : Int))) (w.heap.size + 1) 24 2 from LR5.out.other (by omega) 1 [.int .u64 (pat j : Int)])
      have LG0_6 := Lib.hid (show Blk (w3.setCell ⟨w1.heap.size, 1, none⟩ (.int .u64 (pat j : Int))) w.heap.size 69 #[.bool false, .int .i64 0, .bool g1, .slice A1 n1 c1, .slice B1 m1 d1, .int .i64 0, .bool g2, .slice A2 n2 c2, .slice B2 m2 d2] from LG0_5.out.other (by omega) 1 [.int .u64 (pat j : Int)])
      have LG1_6 := Lib.hid (LG1_5.out.set 1 (.int .u64 (pat j : Int)))
      clear LB5 LR5 LG0_5 LG1_5
      obtain ⟨V4, hV4⟩ : ∃ X, w3.setCell ⟨w1.heap.size, 1, none⟩ (.int .u64 (pat j : Int)) = X := ⟨_, rfl⟩
      rw [hV4] at LB6 LR6 LG0_6 LG1_6 ⊢
      clear hV4
      obtain ⟨q1_0, q1_1⟩ := LG1_6.out.c2
      obtain ⟨ha0, hf0, ha1, hf1⟩ := LR6.out.sf2
      obtain ⟨hk0, hk1⟩ := LR6.out.sc2 (.int .u64 (pat i : Int)) (.int .u64 (pat j : Int))
      have F := Lib.hid (below_sets (w0 := w) (r := (w.heap.size + 1)) (by omega) [.int .u64 (pat i : Int), .int .u64 (pat j : Int)] 0 _ LB6.out)
      simp [sets] at hk0 hk1
      clear T1 T2 HE
      have hfin : NewLeast w 0 x1 0 x2 (.returned (.agg #[.int .u64 (pat i : Int), .int .u64 (pat j : Int)])) _ := ⟨i, j, rfl, fun _ => HI.out, fun h => absurd rfl h, fun _ => HJ.out, fun h => absurd rfl h, F.out⟩
      have HFIN := Lib.hid hfin
      clear hfin
      go_wp2
      refine bodyPost_ret (v := .agg #[.int .u64 (pat i : Int), .int .u64 (pat j : Int)]) (by simp [results, Tryz.results121, go_sem, hk0, hk1]) rfl ?_
      exact HFIN.out
    · have hqb : (s2 == 0) = false := by simp; omega
      obtain ⟨LB0, LG0_0, LR⟩ := bx2 w #[.bool false, .int .i64 0, .bool g1, .slice A1 n1 c1, .slice B1 m1 d1, .int .i64 s2, .bool g2, .slice A2 n2 c2, .slice B2 m2 d2] 69 #[.int .u64 0, .int .u64 0] 24
      have LR0 := Lib.hid (HasBlk.of (n := 2) LR.out rfl rfl)
      clear LR
      go_enter Tryz.func121, Tryz.ntmps121
      go_wp2_with fail
      refine (HE.out _).mono ?_
      rintro e w1 ⟨rfl, hb1⟩
      have LB1 := stB LB0 hb1 LB0.out.size
      have LR1 := stR LR0 hb1
      have LG0_1 := stG LG0_0 hb1
      clear LB0 LR0 LG0_0
      have hlo := LB1.out.size
      have hlr := LR1.out.lt
      have hlt2 := LR1.out.lt
      have LB2 := Lib.hid (LB1.out.alloc LB1.out.size (.cells #[.int .u64 18442240474082181120, .int .u64 9218868437227405312] 24))
      have LR2 := Lib.hid (LR1.out.alloc (.cells #[.int .u64 18442240474082181120, .int .u64 9218868437227405312] 24))
      have LG0_2 := Lib.hid (LG0_1.out.alloc (.cells #[.int .u64 18442240474082181120, .int .u64 9218868437227405312] 24))
      have LG1_2 := Lib.hid (Blk.new w1 24 #[.int .u64 18442240474082181120, .int .u64 9218868437227405312])
      clear LB1 LR1 LG0_1
      clear hb1
      go_upto_region 4 with fail
      obtain ⟨V2, hV2⟩ : ∃ X, (w1.alloc (.cells #[.int .u64 18442240474082181120, .int .u64 9218868437227405312] 24)) = X := ⟨_, rfl⟩
      rw [hV2] at LB2 LR2 LG0_2 LG1_2 ⊢
      clear hV2
      obtain ⟨q0_0, q0_1, q0_2, q0_3, q0_4, q0_5, q0_6, q0_7, q0_8⟩ := LG0_2.out.c9
      go_wp2_with fail
      refine (T1.out _ LB2.out).mono ?_
      rintro e w2 ⟨i, rfl, hi, hb2⟩
      have LB3 := stB LB2 hb2 LB2.out.size
      have LR3 := stR LR2 hb2
      have LG0_3 := stG LG0_2 hb2
      have LG1_3 := stG LG1_2 hb2
      clear LB2 LR2 LG0_2 LG1_2
      have HI := Lib.hid hi
      clear hi hb2 q0_0 q0_1 q0_2 q0_3 q0_4 q0_5 q0_6 q0_7 q0_8
      have q1_0 := LG1_3.out.ce 0 rfl
      have hf1 := LG1_3.out.frozen 0
      go_upto_region 6 with fail
      clear q1_0 hf1
      have LB4 := Lib.hid (LB3.out.setCell (p := ⟨w1.heap.size, 0, none⟩) (by first | exact Nat.le_refl _ | (show w.heap.size ≤ _ + _; omega) | (show w.heap.size ≤ _; omega)) (.int .u64 (pat i : Int)))
      have LR4 := Lib.hid (show HasBlk (w2.setCell ⟨w1.heap.size, 0, none⟩ (.int .u64 (pat i : Int))) (w.heap.size + 1) 24 2 from LR3.out.other (by omega) 0 [.int .u64 (pat i : Int)])
      have LG0_4 := Lib.hid (show Blk (w2.setCell ⟨w1.heap.size, 0, none⟩ (.int .u64 (pat i : Int))) w.heap.size 69 #[.bool false, .int .i64 0, .bool g1, .slice A1 n1 c1, .slice B1 m1 d1, .int .i64 s2, .bool g2, .slice A2 n2 c2, .slice B2 m2 d2] from LG0_3.out.other (by omega) 0 [.int .u64 (pat i : Int)])
      have LG1_4 := Lib.hid (LG1_3.out.set 0 (.int .u64 (pat i : Int)))
      clear LB3 LR3 LG0_3 LG1_3
      obtain ⟨V3, hV3⟩ : ∃ X, w2.setCell ⟨w1.heap.size, 0, none⟩ (.int .u64 (pat i : Int)) = X := ⟨_, rfl⟩
      rw [hV3] at LB4 LR4 LG0_4 LG1_4 ⊢
      clear hV3
      obtain ⟨q0_0, q0_1, q0_2, q0_3, q0_4, q0_5, q0_6, q0_7, q0_8⟩ := LG0_4.out.c9
      obtain ⟨q1_0, q1_1⟩ := LG1_4.out.c2
      obtain ⟨ha0, hf0, ha1, hf1⟩ := LR4.out.sf2
      obtain ⟨hk0, hk1⟩ := LR4.out.sc2 (.int .u64 (pat i : Int)) (.int .u64 9218868437227405312)
      have F := Lib.hid (below_sets (w0 := w) (r := (w.heap.size + 1)) (by omega) [.int .u64 (pat i : Int), .int .u64 9218868437227405312] 0 _ LB4.out)
      simp [sets] at hk0 hk1
      clear T1 T2 HE
      have hfin : NewLeast w 0 x1 s2 x2 (.returned (.agg #[.int .u64 (pat i : Int), .int .u64 9218868437227405312])) _ := ⟨i, (M : Int), by rw [pat_max]; rfl, fun _ => HI.out, fun h => absurd rfl h, fun h => absurd h hb, fun _ => rfl, F.out⟩
      have HFIN := Lib.hid hfin
      clear hfin
      go_wp2
      refine bodyPost_ret (v := .agg #[.int .u64 (pat i : Int), .int .u64 9218868437227405312]) (by simp [results, Tryz.results121, go_sem, hk0, hk1]) rfl ?_
      exact HFIN.out
  · have hqa : (s1 == 0) = false := by simp; omega
    by_cases hb : s2 = 0
    · subst hb
      obtain ⟨LB0, LG0_0, LR⟩ := bx2 w #[.bool false, .int .i64 s1, .bool g1, .slice A1 n1 c1, .slice B1 m1 d1, .int .i64 0, .bool g2, .slice A2 n2 c2, .slice B2 m2 d2] 69 #[.int .u64 0, .int .u64 0] 24
      have LR0 := Lib.hid (HasBlk.of (n := 2) LR.out rfl rfl)
      clear LR
      go_enter Tryz.func121, Tryz.ntmps121
      go_wp2_with fail
      refine (HE.out _).mono ?_
      rintro e w1 ⟨rfl, hb1⟩
      have LB1 := stB LB0 hb1 LB0.out.size
      have LR1 := stR LR0 hb1
      have LG0_1 := stG LG0_0 hb1
      clear LB0 LR0 LG0_0
      have hlo := LB1.out.size
      have hlr := LR1.out.lt
      have hlt2 := LR1.out.lt
      have LB2 := Lib.hid (LB1.out.alloc LB1.out.size (.cells #[.int .u64 18442240474082181120, .int .u64 9218868437227405312] 24))
      have LR2 := Lib.hid (LR1.out.alloc (.cells #[.int .u64 18442240474082181120, .int .u64 9218868437227405312] 24))
      have LG0_2 := Lib.hid (LG0_1.out.alloc (.cells #[.int .u64 18442240474082181120, .int .u64 9218868437227405312] 24))
      have LG1_2 := Lib.hid (Blk.new w1 24 #[.int .u64 18442240474082181120, .int .u64 9218868437227405312])
      clear LB1 LR1 LG0_1
      clear hb1
      go_upto_region 4 with fail
      obtain ⟨V2, hV2⟩ : ∃ X, (w1.alloc (.cells #[.int .u64 18442240474082181120, .int .u64 9218868437227405312] 24)) = X := ⟨_, rfl⟩
      rw [hV2] at LB2 LR2 LG0_2 LG1_2 ⊢
      clear hV2
      obtain ⟨q0_0, q0_1, q0_2, q0_3, q0_4, q0_5, q0_6, q0_7, q0_8⟩ := LG0_2.out.c9
      go_wp2_with fail
      refine (T2.out _ LB2.out).mono ?_
      rintro e w3 ⟨j, rfl, hj, hb3⟩
      have LB3 := stB LB2 hb3 LB2.out.size
      have LR3 := stR LR2 hb3
      have LG0_3 := stG LG0_2 hb3
      have LG1_3 := stG LG1_2 hb3
      clear LB2 LR2 LG0_2 LG1_2
      have HJ := Lib.hid hj
      clear hj hb3 q0_0 q0_1 q0_2 q0_3 q0_4 q0_5 q0_6 q0_7 q0_8
      have q1_1 := LG1_3.out.ce 1 rfl
      have hf1 := LG1_3.out.frozen 1
      go_upto_region 8 with fail
      clear q1_1 hf1
      have LB4 := Lib.hid (LB3.out.setCell (p := ⟨w1.heap.size, 1, none⟩) (by first | exact Nat.le_refl _ | (show w.heap.size ≤ _ + _; omega) | (show w.heap.size ≤ _; omega)) (.int .u64 (pat j : Int)))
      have LR4 := Lib.hid (show HasBlk (w3.setCell ⟨w1.heap.size, 1, none⟩ (.int .u64 (pat j : Int))) (w.heap.size + 1) 24 2 from LR3.out.other (by omega) 1 [.int .u64 (pat j : Int)])
      have LG0_4 := Lib.hid (show Blk (w3.setCell ⟨w1.heap.size, 1, none⟩ (.int .u64 (pat j : Int))) w.heap.size 69 #[.bool false, .int .i64 s1, .bool g1, .slice A1 n1 c1, .slice B1 m1 d1, .int .i64 0, .bool g2, .slice A2 n2 c2, .slice B2 m2 d2] from LG0_3.out.other (by omega) 1 [.int .u64 (pat j : Int)])
      have LG1_4 := Lib.hid (LG1_3.out.set 1 (.int .u64 (pat j : Int)))
      clear LB3 LR3 LG0_3 LG1_3
      obtain ⟨V4, hV4⟩ : ∃ X, w3.setCell ⟨w1.heap.size, 1, none⟩ (.int .u64 (pat j : Int)) = X := ⟨_, rfl⟩
      rw [hV4] at LB4 LR4 LG0_4 LG1_4 ⊢
      clear hV4
      obtain ⟨q1_0, q1_1⟩ := LG1_4.out.c2
      obtain ⟨ha0, hf0, ha1, hf1⟩ := LR4.out.sf2
      obtain ⟨hk0, hk1⟩ := LR4.out.sc2 (.int .u64 18442240474082181120) (.int .u64 (pat j : Int))
      have F := Lib.hid (below_sets (w0 := w) (r := (w.heap.size + 1)) (by omega) [.int .u64 18442240474082181120, .int .u64 (pat j : Int)] 0 _ LB4.out)
      simp [sets] at hk0 hk1
      clear T1 T2 HE
      have hfin : NewLeast w s1 x1 0 x2 (.returned (.agg #[.int .u64 18442240474082181120, .int .u64 (pat j : Int)])) _ := ⟨(-(M : Int)), j, by rw [pat_min]; rfl, fun h => absurd h ha, fun _ => rfl, fun _ => HJ.out, fun h => absurd rfl h, F.out⟩
      have HFIN := Lib.hid hfin
      clear hfin
      go_wp2
      refine bodyPost_ret (v := .agg #[.int .u64 18442240474082181120, .int .u64 (pat j : Int)]) (by simp [results, Tryz.results121, go_sem, hk0, hk1]) rfl ?_
      exact HFIN.out
    · have hqb : (s2 == 0) = false := by simp; omega
      obtain ⟨LB0, LG0_0, LR⟩ := bx2 w #[.bool false, .int .i64 s1, .bool g1, .slice A1 n1 c1, .slice B1 m1 d1, .int .i64 s2, .bool g2, .slice A2 n2 c2, .slice B2 m2 d2] 69 #[.int .u64 0, .int .u64 0] 24
      have LR0 := Lib.hid (HasBlk.of (n := 2) LR.out rfl rfl)
      clear LR
      go_enter Tryz.func121, Tryz.ntmps121
      go_wp2_with fail
      refine (HE.out _).mono ?_
      rintro e w1 ⟨rfl, hb1⟩
      have LB1 := stB LB0 hb1 LB0.out.size
      have LR1 := stR LR0 hb1
      have LG0_1 := stG LG0_0 hb1
      clear LB0 LR0 LG0_0
      have hlo := LB1.out.size
      have hlr := LR1.out.lt
      have hlt2 := LR1.out.lt
      have LB2 := Lib.hid (LB1.out.alloc LB1.out.size (.cells #[.int .u64 18442240474082181120, .int .u64 9218868437227405312] 24))
      have LR2 := Lib.hid (LR1.out.alloc (.cells #[.int .u64 18442240474082181120, .int .u64 9218868437227405312] 24))
      have LG0_2 := Lib.hid (LG0_1.out.alloc (.cells #[.int .u64 18442240474082181120, .int .u64 9218868437227405312] 24))
      have LG1_2 := Lib.hid (Blk.new w1 24 #[.int .u64 18442240474082181120, .int .u64 9218868437227405312])
      clear LB1 LR1 LG0_1
      clear hb1
      go_upto_region 4 with fail
      obtain ⟨V2, hV2⟩ : ∃ X, (w1.alloc (.cells #[.int .u64 18442240474082181120, .int .u64 9218868437227405312] 24)) = X := ⟨_, rfl⟩
      rw [hV2] at LB2 LR2 LG0_2 LG1_2 ⊢
      clear hV2
      obtain ⟨q0_0, q0_1, q0_2, q0_3, q0_4, q0_5, q0_6, q0_7, q0_8⟩ := LG0_2.out.c9
      obtain ⟨q1_0, q1_1⟩ := LG1_2.out.c2
      obtain ⟨ha0, hf0, ha1, hf1⟩ := LR2.out.sf2
      obtain ⟨hk0, hk1⟩ := LR2.out.sc2 (.int .u64 18442240474082181120) (.int .u64 9218868437227405312)
      have F := Lib.hid (below_sets (w0 := w) (r := (w.heap.size + 1)) (by omega) [.int .u64 18442240474082181120, .int .u64 9218868437227405312] 0 _ LB2.out)
      simp [sets] at hk0 hk1
      clear T1 T2 HE
      have hfin : NewLeast w s1 x1 s2 x2 (.returned (.agg #[.int .u64 18442240474082181120, .int .u64 9218868437227405312])) _ := ⟨(-(M : Int)), (M : Int), by rw [pat_min, pat_max]; rfl, fun h => absurd h ha, fun _ => rfl, fun h => absurd h hb, fun _ => rfl, F.out⟩
      have HFIN := Lib.hid hfin
      clear hfin
      go_wp2
      refine bodyPost_ret (v := .agg #[.int .u64 18442240474082181120, .int .u64 9218868437227405312]) (by simp [results, Tryz.results121, go_sem, hk0, hk1]) rfl ?_
      exact HFIN.out
end Go.Proofs.YtmjkmoahkanblaaGreat

namespace Go.Proofs.YtmjkmoahkanblaaGreat
open Go.RowKit
theorem es_bounds (i : Int) : -1 ≤ es i ∧ es i ≤ 1 := by unfold es; split <;> (try split) <;> omega
theorem es_zero {i : Int} (h : es i = 0) : i ≠ M ∧ i ≠ -(M : Int) := by
  unfold es at h
  split at h
  · cases h
  · split at h
    · cases h
    · exact ⟨by assumption, by assumption⟩
theorem ex_zero {i : Int} (h : es i = 0) : ex i = fl i := by unfold ex; rw [if_pos h]
theorem least_lo {i k : Int} (h0 : -(M : Int) ≤ i) (h1 : i < M) (h2 : es i = 0 → Rnd (-1) (ex i) k) (h3 : es i ≠ 0 → k = -(M : Int)) : k = i := by
  by_cases h : es i = 0
  · have h4 := h2 h
    rw [ex_zero h] at h4
    have := es_zero h
    exact h4.exact (by omega) h1
  · rw [h3 h]
    unfold es at h
    rw [if_neg (by omega)] at h
    by_cases hc : i = -(M : Int)
    · exact hc.symm
    · rw [if_neg hc] at h; exact absurd rfl h
theorem least_hi {i k : Int} (h0 : -(M : Int) < i) (h1 : i ≤ M) (h2 : es i = 0 → Rnd 1 (ex i) k) (h3 : es i ≠ 0 → k = M) : k = i := by
  by_cases h : es i = 0
  · have h4 := h2 h
    rw [ex_zero h] at h4
    have := es_zero h
    exact h4.exact h0 (by omega)
  · rw [h3 h]
    unfold es at h
    by_cases hc : i = M
    · exact hc.symm
    · rw [if_neg hc, if_neg (by omega)] at h; exact absurd rfl h
theorem es_neg (i : Int) : es (-i) = - es i := by
  have hM : (0 : Int) < M := by rw [M_val]; omega
  unfold es
  by_cases h1 : i = M
  · rw [if_pos h1, if_neg (by omega), if_pos (by omega)]
  · by_cases h2 : i = -(M : Int)
    · rw [if_neg h1, if_pos h2, if_pos (by omega)]; rfl
    · rw [if_neg h1, if_neg h2, if_neg (by omega), if_neg (by omega)]; rfl
theorem ex_neg (i : Int) : ex (-i) = - ex i := by
  unfold ex
  rw [es_neg]
  by_cases h : es i = 0
  · rw [if_pos h, if_pos (by omega), fl_neg]
  · rw [if_neg h, if_neg (by omega)]; rfl
end Go.Proofs.YtmjkmoahkanblaaGreat

namespace Go.Proofs.YtmjkmoahkanblaaGreat
open Go.RowKit
theorem num_neg_iff {x : Rat} : x.num < 0 ↔ x < 0 := by rw [← Int.not_le, Rat.num_nonneg, Rat.not_le]
theorem rat_rv (x : Rat) : rv (decide (x < 0)) x.num.natAbs x.den = x := by
  have h : (x.num : Rat) / (x.den : Rat) = x := by rw [← Rat.mkRat_eq_div, Rat.mkRat_self]
  unfold rv
  by_cases h0 : x < 0
  · have h1 : x.num < 0 := num_neg_iff.2 h0
    have h2 : ((x.num.natAbs : Nat) : Int) = -x.num := by omega
    have h3 : ((x.num.natAbs : Nat) : Rat) = -(x.num : Rat) := by rw [← Rat.intCast_natCast, h2, Rat.intCast_neg]
    simp only [h0, decide_true, if_true, h3, Rat.neg_neg]
    exact h
  · have h1 : ¬ x.num < 0 := fun h => h0 (num_neg_iff.1 h)
    have h2 : ((x.num.natAbs : Nat) : Int) = x.num := by omega
    have h3 : ((x.num.natAbs : Nat) : Rat) = (x.num : Rat) := by rw [← Rat.intCast_natCast, h2]
    simp only [h0, decide_false, h3]
    exact h
theorem Rnd.dir {d : Int} {x : Rat} {i : Int} (h : Rnd d x i) : d = -1 ∨ d = 1 := by
  rcases h with ⟨h, _⟩ | ⟨h, _⟩
  · exact .inl h
  · exact .inr h
theorem Rnd.unique {d : Int} {x : Rat} {i j : Int} (h : Rnd d x i) (h' : Rnd d x j) : i = j := by
  rcases h with ⟨rfl, a1, a2, a3⟩ | ⟨rfl, a1, a2, a3⟩
  · rcases h' with ⟨-, b1, b2, b3⟩ | ⟨h, _⟩
    · rcases Int.lt_trichotomy i j with h | h | h
      · have := (a3 j (by omega) b2).2 ((b3 j (by omega) b2).1 (Int.le_refl _)); omega
      · exact h
      · have := (b3 i (by omega) a2).2 ((a3 i (by omega) a2).1 (Int.le_refl _)); omega
    · omega
  · rcases h' with ⟨h, _⟩ | ⟨-, b1, b2, b3⟩
    · omega
    · rcases Int.lt_trichotomy i j with h | h | h
      · have := (b3 i a1 (by omega)).2 ((a3 i a1 (by omega)).1 (Int.le_refl _)); omega
      · exact h
      · have := (a3 j b1 (by omega)).2 ((b3 j b1 (by omega)).1 (Int.le_refl _)); omega
def rndI (d : Int) (x : Rat) : Int :=
  if x = 0 then 0 else sg (decide (x < 0)) (ansT x.num.natAbs x.den (fout x.num.natAbs x.den ((blen x.num.natAbs : Int) - blen x.den)) (decide (d = 1) != decide (x < 0)))
theorem rnd_rndI {d : Int} (hd : d = -1 ∨ d = 1) (x : Rat) : Rnd d x (rndI d x) := by
  unfold rndI
  by_cases h0 : x = 0
  · rw [if_pos h0, h0]; exact rnd_zero hd
  · rw [if_neg h0]
    have hp : 0 < x.num.natAbs := by
      have : x.num ≠ 0 := fun h => h0 (Rat.num_eq_zero.1 h)
      omega
    have h := rnd_ans (neg := decide (x < 0)) hp x.den_pos (fout_sc hp x.den_pos rfl) hd
    rw [rat_rv] at h
    exact h
theorem Rnd.eq {d : Int} {x : Rat} {i : Int} (h : Rnd d x i) : i = rndI d x := h.unique (rnd_rndI h.dir x)
theorem rndI_neg {d : Int} (hd : d = -1 ∨ d = 1) (x : Rat) : rndI (-d) (-x) = - rndI d x := ((rnd_rndI hd x).neg.eq).symm
theorem rndI_fl {d a : Int} (hd : d = -1 ∨ d = 1) (h0 : -(M : Int) < a) (h1 : a < M) : rndI d (fl a) = a := (rnd_rndI hd (fl a)).exact h0 h1
theorem rndI_zero {d : Int} (hd : d = -1 ∨ d = 1) : rndI d 0 = 0 := (rnd_zero hd).eq.symm
theorem rndI_down (x : Rat) : -(M : Int) ≤ rndI (-1) x ∧ rndI (-1) x < M ∧ ∀ j : Int, -(M : Int) < j → j < M → (j ≤ rndI (-1) x ↔ fl j ≤ x) := by
  rcases rnd_rndI (.inl rfl) x with ⟨-, h⟩ | ⟨h, _⟩
  · exact h
  · omega
theorem rndI_up (x : Rat) : -(M : Int) < rndI 1 x ∧ rndI 1 x ≤ M ∧ ∀ j : Int, -(M : Int) < j → j < M → (rndI 1 x ≤ j ↔ x ≤ fl j) := by
  rcases rnd_rndI (.inr rfl) x with ⟨h, _⟩ | ⟨-, h⟩
  · omega
  · exact h
theorem rndI_mono {d : Int} (hd : d = -1 ∨ d = 1) {x y : Rat} (h : x ≤ y) : rndI d x ≤ rndI d y := by
  rcases hd with rfl | rfl
  · have h1 := rndI_down x
    have h2 := rndI_down y
    by_cases hc : rndI (-1) x ≤ rndI (-1) y
    · exact hc
    · have h3 := (h1.2.2 (rndI (-1) x) (by omega) h1.2.1).1 (Int.le_refl _)
      exact (h2.2.2 _ (by omega) h1.2.1).2 (Rat.le_trans h3 h)
  · have h1 := rndI_up x
    have h2 := rndI_up y
    by_cases hc : rndI 1 x ≤ rndI 1 y
    · exact hc
    · have h3 := (h2.2.2 (rndI 1 y) h2.1 (by omega)).1 (Int.le_refl _)
      exact (h1.2.2 _ h2.1 (by omega)).2 (Rat.le_trans h h3)
theorem rndI_le (x : Rat) : rndI (-1) x ≤ rndI 1 x := by
  have h1 := rndI_down x
  have h2 := rndI_up x
  by_cases hc : rndI (-1) x ≤ rndI 1 x
  · exact hc
  · have h3 := (h2.2.2 (rndI 1 x) h2.1 (by omega)).1 (Int.le_refl _)
    by_cases h4 : rndI 1 x < rndI (-1) x
    · have h5 := (h1.2.2 (rndI (-1) x) (by omega) h1.2.1).1 (Int.le_refl _)
      have := fl_lt_iff.2 h4
      grind
    · omega
def dn (s : Int) (x : Rat) : Int := if s = 0 then rndI (-1) x else s * M
def up (s : Int) (x : Rat) : Int := if s = 0 then rndI 1 x else s * M
theorem dn_zero (x : Rat) : dn 0 x = rndI (-1) x := rfl
theorem up_zero (x : Rat) : up 0 x = rndI 1 x := rfl
theorem dn_idx {a : Int} (h : -(M : Int) ≤ a ∧ a ≤ M) : dn (es a) (ex a) = a := by
  unfold dn
  by_cases h0 : es a = 0
  · have h1 := es_zero h0
    rw [if_pos h0, ex_zero h0, rndI_fl (.inl rfl) (by omega) (by omega)]
  · rw [if_neg h0]
    unfold es at *
    split at h0 <;> simp_all
theorem up_idx {a : Int} (h : -(M : Int) ≤ a ∧ a ≤ M) : up (es a) (ex a) = a := by
  unfold up
  by_cases h0 : es a = 0
  · have h1 := es_zero h0
    rw [if_pos h0, ex_zero h0, rndI_fl (.inr rfl) (by omega) (by omega)]
  · rw [if_neg h0]
    unfold es at *
    split at h0 <;> simp_all
theorem rc_neg_iff {x y : Rat} : rc x y < 0 ↔ x < y := by
  unfold rc
  by_cases h : x < y
  · simp [h]
  · rw [if_neg h]
    by_cases h' : y < x <;> simp [h, h']
theorem rc_pos_iff {x y : Rat} : 0 < rc x y ↔ y < x := by
  unfold rc
  by_cases h : x < y
  · have : ¬ y < x := by grind
    simp [h, this]
  · rw [if_neg h]
    by_cases h' : y < x <;> simp [h']
theorem ec_hi {i s : Int} {x : Rat} (hi : -(M : Int) ≤ i ∧ i < M) (hs : s = 0 ∨ s = 1) : 0 < ec (es i) (ex i) s x ↔ dn s x < i := by
  have hM : M = 9218868437227405312 := rfl
  rcases hs with rfl | rfl
  · rw [dn_zero]
    have h := rndI_down x
    by_cases h0 : i = -(M : Int)
    · subst h0
      rw [es_min, ec_lt _ _ (by omega)]; omega
    · rw [es_mid (by omega) hi.2, ec_zero, ex_mid (by omega) hi.2, rc_pos_iff]
      have h1 := h.2.2 i (by omega) hi.2
      rw [← Int.not_le, h1]; grind
  · have h1 : es i < 1 := by have := es_bounds i; unfold es; split <;> (try split) <;> omega
    rw [ec_lt _ _ h1]
    unfold dn
    rw [if_neg (by omega)]; omega
theorem ec_lo {j s : Int} {x : Rat} (hj : -(M : Int) < j ∧ j ≤ M) (hs : s = 0 ∨ s = -1) : ec (es j) (ex j) s x < 0 ↔ j < up s x := by
  have hM : M = 9218868437227405312 := rfl
  rcases hs with rfl | rfl
  · rw [up_zero]
    have h := rndI_up x
    by_cases h0 : j = (M : Int)
    · subst h0
      rw [es_max, ec_gt _ _ (by omega)]; omega
    · rw [es_mid (by omega) (by omega), ec_zero, ex_mid (by omega) (by omega), rc_neg_iff]
      have h1 := h.2.2 j hj.1 (by omega)
      rw [← Int.not_le, h1]; grind
  · have h1 : -1 < es j := by unfold es; split <;> (try split) <;> omega
    rw [ec_gt _ _ h1]
    unfold up
    rw [if_neg (by omega)]; omega
theorem ec_lo_at {i s : Int} {x : Rat} (hi : -(M : Int) ≤ i ∧ i < M) (hs : s = 0 ∨ s = -1) : (if ec (es i) (ex i) s x < 0 then rndI (-1) x else i) = max i (dn s x) := by
  have hM : M = 9218868437227405312 := rfl
  rcases hs with rfl | rfl
  · rw [dn_zero]
    have h := rndI_down x
    by_cases h0 : i = -(M : Int)
    · subst h0
      rw [es_min, ec_lt _ _ (by omega), if_pos (by omega)]; omega
    · rw [es_mid (by omega) hi.2, ec_zero, ex_mid (by omega) hi.2]
      have h1 := h.2.2 i (by omega) hi.2
      by_cases hc : fl i < x
      · rw [if_pos (rc_neg_iff.2 hc)]
        have := h1.2 (by grind); omega
      · rw [if_neg (fun h => hc (rc_neg_iff.1 h))]
        have : rndI (-1) x ≤ i := by
          by_cases h2 : rndI (-1) x = -(M : Int)
          · omega
          · have h3 := (h.2.2 (rndI (-1) x) (by omega) h.2.1).1 (Int.le_refl _)
            rw [← fl_le_iff]; grind
        omega
  · have h1 : -1 ≤ es i := (es_bounds i).1
    have h2 : ¬ ec (es i) (ex i) (-1) x < 0 := by
      by_cases h3 : es i = -1
      · rw [ec_inf _ _ h3 (by omega)]; omega
      · rw [ec_gt _ _ (by omega)]; omega
    rw [if_neg h2]
    unfold dn
    rw [if_neg (by omega)]; omega
theorem ec_hi_at {j s : Int} {x : Rat} (hj : -(M : Int) < j ∧ j ≤ M) (hs : s = 0 ∨ s = 1) : (if 0 < ec (es j) (ex j) s x then rndI 1 x else j) = min j (up s x) := by
  have hM : M = 9218868437227405312 := rfl
  rcases hs with rfl | rfl
  · rw [up_zero]
    have h := rndI_up x
    by_cases h0 : j = (M : Int)
    · subst h0
      rw [es_max, ec_gt _ _ (by omega), if_pos (by omega)]; omega
    · rw [es_mid (by omega) (by omega), ec_zero, ex_mid (by omega) (by omega)]
      have h1 := h.2.2 j hj.1 (by omega)
      by_cases hc : x < fl j
      · rw [if_pos (rc_pos_iff.2 hc)]
        have := h1.2 (by grind); omega
      · rw [if_neg (fun h => hc (rc_pos_iff.1 h))]
        have : j ≤ rndI 1 x := by
          by_cases h2 : rndI 1 x = (M : Int)
          · omega
          · have h3 := (h.2.2 (rndI 1 x) h.1 (by omega)).1 (Int.le_refl _)
            rw [← fl_le_iff]; grind
        omega
  · have h1 : es j ≤ 1 := (es_bounds j).2
    have h2 : ¬ 0 < ec (es j) (ex j) 1 x := by
      by_cases h3 : es j = 1
      · rw [ec_inf _ _ h3 (by omega)]; omega
      · rw [ec_lt _ _ (by omega)]; omega
    rw [if_neg h2]
    unfold up
    rw [if_neg (by omega)]; omega
theorem ec_hi_open {i s : Int} {x : Rat} (hi : -(M : Int) ≤ i ∧ i < M) (hs : s = 1) : ec (es i) (ex i) s x ≠ 0 := by
  have h1 : es i < s := by unfold es; split <;> (try split) <;> omega
  rw [ec_lt _ _ h1]; omega
theorem ec_lo_open {j s : Int} {x : Rat} (hj : -(M : Int) < j ∧ j ≤ M) (hs : s = -1) : ec (es j) (ex j) s x ≠ 0 := by
  have hM : M = 9218868437227405312 := rfl
  have h1 : s < es j := by unfold es; split <;> (try split) <;> omega
  rw [ec_gt _ _ h1]; omega
def ct (i j pd pu qd qu : Int) : Int × Int := if qd < i ∨ j < pu then ((M : Int), -(M : Int)) else (max i pd, min j qu)
end Go.Proofs.YtmjkmoahkanblaaGreat
