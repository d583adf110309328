/-
Walks: package round, beyond, of.
Plain: the digits of a quotient; what is too small for the least number.
Walks: package round, hold, long (where no digit is wanted), Ratio.
Walks: package rev, sign of an exact number, at, over.
Walks: package vergeref2, RMul, RQuo; package vergeref6, Sign; package vergeref10, ratio.
-/
import Derived.Test.YthlmlmfebpjgdaaGreatDoorM17
import Derived.Deep.DeepCutAuto
import Derived.Deep.CutBlock
import Derived.Test.YthlmlmfebpjgdaaGreatDoorPGoA
import Derived.Test.YthlmlmfebpjgdaaGreatDoorPMathT
import Derived.Test.YthlmlmfebpjgdaaGreatDoorM04
import Derived.Test.YthlmlmfebpjgdaaGreatDoorPNwT
import Derived.Test.YthlmlmfebpjgdaaGreatDoorM09
set_option linter.unusedSimpArgs false
set_option linter.unusedVariables false
set_option maxHeartbeats 12800000

namespace Go.Proofs.YthlmlmfebpjgdaaGreatDoor
open Go.RowKit Ieee
attribute [local go_sem] run_store_float run_frombits run_bitsof run_negf
theorem neg_pat {i : Int} (h0 : -(M : Int) ≤ i) (h1 : i ≤ M) (hi : i ≠ 0) : Op.negFloat .f64 (pat i) = pat (-i) := by
  have h := negFloat_val (pat_lt h0 h1)
  rw [idx_pat h0 h1, rung_pat h0 h1] at h
  have hM : M = 9218868437227405312 := rfl
  have h2 := pl_real h.1 (by omega)
  rw [h.2.2] at h2
  have hc := pat_cases h.1
  unfold pl at h2
  rw [if_neg (by omega), if_neg (by omega)] at h2
  exact h2
theorem beyond_any (d : Int) (neg : Bool) (w : World) (hd : d = -1 ∨ d = 1) :
    Calls Tryz.prog 253 #[.int .i64 d, .bool neg] w fun e w' => e = .returned (.float .f64 (pat (sg neg (if (decide (d = 1) != neg) then M else M - 1)))) ∧ w = w' := by
  have HP := Lib.hid (inf_pos w)
  have n1 : Op.negFloat .f64 9218868437227405312 = 18442240474082181120 := by decide
  have n2 : Op.negFloat .f64 9218868437227405311 = 18442240474082181119 := by decide
  rcases hd with rfl | rfl <;> cases neg
  · rw [show pat (sg false (if (decide ((-1 : Int) = 1) != false) then M else M - 1)) = 9218868437227405311 from by decide]
    go_enter Tryz.func253, Tryz.ntmps253
    go_wp2_with fail
    refine HP.out.mono ?_
    rintro e w' ⟨rfl, rfl⟩
    go_wp2
    go_ret
    exact ⟨rfl, rfl⟩
  · rw [show pat (sg true (if (decide ((-1 : Int) = 1) != true) then M else M - 1)) = 18442240474082181120 from by decide]
    go_enter Tryz.func253, Tryz.ntmps253
    go_wp2_with fail
    refine HP.out.mono ?_
    rintro e w' ⟨rfl, rfl⟩
    go_wp2
    go_ret
    exact ⟨rfl, rfl⟩
  · rw [show pat (sg false (if (decide ((1 : Int) = 1) != false) then M else M - 1)) = 9218868437227405312 from by decide]
    go_enter Tryz.func253, Tryz.ntmps253
    go_wp2_with fail
    refine HP.out.mono ?_
    rintro e w' ⟨rfl, rfl⟩
    go_wp2
    go_ret
    exact ⟨rfl, rfl⟩
  · rw [show pat (sg true (if (decide ((1 : Int) = 1) != true) then M else M - 1)) = 18442240474082181119 from by decide]
    go_enter Tryz.func253, Tryz.ntmps253
    go_wp2_with fail
    refine HP.out.mono ?_
    rintro e w' ⟨rfl, rfl⟩
    go_wp2
    go_ret
    exact ⟨rfl, rfl⟩
theorem of_nought (d : Int) (neg more : Bool) (A : Option Addr) (n c : Nat) (xs : List Nat) (exp : Int) (w : World) (hx : U32s w A n c xs) (h0 : num xs = 0) :
    Calls Tryz.prog 230 #[.int .i64 d, .bool neg, .slice A n c, .int .i64 exp, .bool more] w fun e w' => e = .returned (.float .f64 0) ∧ w = w' := by
  have HL := Lib.hid (nlen_any A n c xs w hx)
  rw [h0, blen_zero] at HL
  go_enter Tryz.func230, Tryz.ntmps230
  go_wp2_with fail
  refine HL.out.mono ?_
  rintro e w' ⟨rfl, rfl⟩
  go_wp2
  go_ret
  exact ⟨rfl, rfl⟩
def Cutd (S : Nat) (exp E : Int) (v : Nat) (lost more : Bool) : Prop :=
  (0 ≤ E - 2 - exp → v = S / 2^(E - 2 - exp).toNat ∧ (lost = true ↔ S % 2^(E - 2 - exp).toNat ≠ 0)) ∧ (E - 2 - exp < 0 → v = S * 2^(-(E - 2 - exp)).toNat ∧ lost = false ∧ more = false)
theorem of_pos (d : Int) (neg more : Bool) (A : Option Addr) (n c S p q : Nat) (xs : List Nat) (exp : Int) (w : World) (hx : U32s w A n c xs) (hS : num xs = S) (hS0 : 0 < S) (hl : wlen xs ≤ 16384) (hd : d = -1 ∨ d = 1)
    (hD : Dg S p q exp more) (hq : 0 < q) (hmore : more = true → 55 ≤ blen S) (he1 : -1000000 ≤ exp) (he2 : exp ≤ 1099511627776) :
    Calls Tryz.prog 230 #[.int .i64 d, .bool neg, .slice A n c, .int .i64 exp, .bool more] w fun e w' => e = .returned (.float .f64 (pat (rndI d (rv neg p q)))) ∧ Below w.heap.size w w' := by
  have hL := nlen_any A n c xs w hx
  rw [hS] at hL
  have hsc := hD.sc hS0
  have hp : 0 < p := by
    obtain ⟨U, h1, h2, h3, h4, -⟩ := hD
    rcases Nat.eq_zero_or_pos p with h | h
    · subst h
      have : 0 < S * 2^(exp + U).toNat * q := Nat.mul_pos (Nat.mul_pos hS0 (Nat.two_pow_pos _)) hq
      omega
    · exact h
  have hrnd := (rnd_ans (neg := neg) hp hq hsc hd).eq
  rw [← hrnd]
  have hbl : blen S ≤ 524288 := by
    obtain ⟨K, hK⟩ : ∃ K, K = 524288 := ⟨_, rfl⟩
    have h1 := num_lt_wlen hx.w32
    rw [hS] at h1
    rw [← hK]
    exact blen_le_iff.2 (Nat.lt_of_lt_of_le h1 (Nat.pow_le_pow_right (by omega) (by omega)))
  have hb0 : 0 < blen S := by
    rcases Nat.eq_zero_or_pos (blen S) with h | h
    · rw [blen_eq_zero] at h; omega
    · exact h
  obtain ⟨b, hb⟩ : ∃ b, blen S = b := ⟨_, rfl⟩
  obtain ⟨f, hf⟩ : ∃ f : Int, (b : Int) - 1 + exp = f := ⟨_, rfl⟩
  rw [hb] at hL hsc hmore hbl hb0 hrnd ⊢
  rw [hf] at hsc hrnd ⊢
  obtain ⟨away, haw⟩ : ∃ a, (decide (d = 1) != neg) = a := ⟨_, rfl⟩
  have HBY := Lib.hid (beyond_any d neg w hd)
  rw [haw] at HBY ⊢
  have HL := Lib.hid hL
  have HSC := Lib.hid hsc
  have HX := Lib.hid hx
  have HD := Lib.hid hD
  have HAW := Lib.hid haw
  have HS := Lib.hid hS
  have HHD := Lib.hid hd
  have hqe : ((b : Int) == 0) = false := by simp; omega
  clear hL hsc hx hD haw hS hd hrnd hp
  by_cases hov : 1023 < f
  · have hP : ansT p q f away = if away then M else M - 1 := by unfold ansT; rw [if_pos hov]
    rw [← hP] at HBY
    obtain ⟨T, hT⟩ : ∃ T, pat (sg neg (ansT p q f away)) = T := ⟨_, rfl⟩
    rw [hT] at HBY ⊢
    clear hP hT
    go_enter Tryz.func230, Tryz.ntmps230
    go_wp2_with fail
    refine HL.out.mono ?_
    rintro e w' ⟨rfl, rfl⟩
    go_wp2_with fail
    refine HBY.out.mono ?_
    rintro e w' ⟨rfl, rfl⟩
    go_wp2
    go_ret
    exact ⟨rfl, Below.refl _ _⟩
  · have hfe := lastBit_bounds (f := f) (by omega)
    have hwlt := w_lt hq HSC.out
    have hwge := w_ge hq HSC.out
    have hP : ansT p q f away = if away then capT p q (lastBit f) else cutT p q (lastBit f) := by unfold ansT; rw [if_neg hov]
    obtain ⟨E, hE⟩ : ∃ E, lastBit f = E := ⟨_, rfl⟩
    rw [hE] at hfe hwlt hwge hP
    have hE2 : max ((b : Int) - 53 + exp) (-1074) = E := by unfold lastBit at hE; split at hE <;> omega
    have HP := Lib.hid hP
    obtain ⟨C, hC⟩ : ∃ C, E - 2 - exp = C := ⟨_, rfl⟩
    have HC := Lib.hid hC
    obtain ⟨AA, hAA⟩ : ∃ AA, pat (sg neg (ansT p q f away)) = AA := ⟨_, rfl⟩
    rw [hAA]
    have HAA := Lib.hid hAA
    clear hP hE hAA
    go_enter Tryz.func230, Tryz.ntmps230
    go_wp2_with fail
    refine HL.out.mono ?_
    rintro e w' ⟨rfl, rfl⟩
    go_upto_if 44 with fail
    clear hC
    obtain ⟨cb, hcb⟩ : ∃ x, decide (0 < C) = x := ⟨_, rfl⟩
    rw [hcb]
    have HCB := Lib.hid hcb
    clear hcb
    go_cut [14, 15] from 45 to 58 (fun s14 s15 wx => ∃ A1 n1 c1 lost v, s14 = .slice A1 n1 c1 ∧ s15 = .bool lost ∧ U32s wx A1 n1 c1 (digs v) ∧ Cutd S exp E v lost more ∧ Below w.heap.size w wx)
    case first =>
      have hC := HC.out
      by_cases hc : 0 < C
      · obtain ⟨k, hk⟩ : ∃ k : Nat, E - 2 - exp = k := ⟨(E - 2 - exp).toNat, by omega⟩
        obtain rfl : C = k := by omega
        obtain rfl : cb = true := by rw [← HCB.out]; exact decide_eq_true hc
        have HSH := Lib.hid (nshr_any A n c k xs w HX.out hl (by omega))
        rw [HS.out] at HSH
        have HCU := Lib.hid (show Cutd S exp E (S / 2^k) (decide (S % 2^k ≠ 0)) more from ⟨fun _ => by rw [hk, Int.toNat_natCast]; exact ⟨rfl, by simp⟩, fun h => by omega⟩)
        obtain ⟨lost, hlo⟩ : ∃ l, decide (S % 2^k ≠ 0) = l := ⟨_, rfl⟩
        obtain ⟨v, hv⟩ : ∃ l, S / 2^k = l := ⟨_, rfl⟩
        rw [hlo, hv] at HSH HCU
        clear hc HCB hk hC HC hlo hv hE2 hfe hwlt hwge hf hov hmore he1 he2
        go_wp2_with fail
        refine HSH.out.mono ?_
        rintro e w1 ⟨A2, n2, c2, rfl, hu, hb⟩
        have HU := Lib.hid hu
        have HB := Lib.hid hb
        clear hu hb
        go_wp2_with fail
        go_meet
        exact ⟨A2, n2, c2, lost, v, rfl, rfl, HU.out, HCU.out, HB.out⟩
      · obtain ⟨k, hk⟩ : ∃ k : Nat, -(E - 2 - exp) = k := ⟨(-(E - 2 - exp)).toNat, by omega⟩
        have hmf : E - 2 - exp < 0 → more = false := by
          intro h
          cases more with
          | false => rfl
          | true => have := hmore rfl; omega
        have HSH := Lib.hid (nshl_any A n c k xs w HX.out hl (by rw [HS.out, hb]; omega))
        rw [HS.out] at HSH
        have HCU := Lib.hid (show Cutd S exp E (S * 2^k) false more from ⟨fun h => by
          have hk0 : k = 0 := by omega
          rw [show (E - 2 - exp).toNat = 0 from by omega, hk0]
          simp [Nat.mod_one], fun h => ⟨by rw [hk, Int.toNat_natCast], rfl, hmf h⟩⟩)
        obtain ⟨v, hv⟩ : ∃ l, S * 2^k = l := ⟨_, rfl⟩
        rw [hv] at HSH HCU
        have hkb : k ≤ 2000 := by omega
        obtain rfl : C = -(k : Int) := by omega
        obtain rfl : cb = false := by rw [← HCB.out]; exact decide_eq_false hc
        clear hc
        clear HCB hk hC HC hv hmf hE2 hfe hwlt hwge hf hov hmore he1 he2
        go_wp2_with fail
        refine HSH.out.mono ?_
        rintro e w1 ⟨A2, n2, c2, rfl, hu, hb⟩
        have HU := Lib.hid hu
        have HB := Lib.hid hb
        clear hu hb
        go_wp2_with fail
        go_meet
        exact ⟨A2, n2, c2, false, v, rfl, rfl, HU.out, HCU.out, HB.out⟩
    case rest =>
    obtain ⟨A1, n1, c1, lost, v, rfl, rfl, hu, hcu, hb1⟩ := hcut
    have hda := digits_at HD.out hq hfe.1 hcu.1 hcu.2
    obtain ⟨V, hV⟩ : ∃ V, marked v (lost || more) = V := ⟨_, rfl⟩
    have hvv : v / 4 = V / 4 := by rw [← hV, marked_div]
    rw [hV] at hda
    have hv64 : v < 18446744073709551616 := by have := hda.1; omega
    have hV64 : V < 18446744073709551616 := by have := hda.1; omega
    have HWD := Lib.hid (nword_any A1 n1 c1 (digs v) wc hu (by
      rw [wlen_digs]; exact digs_length_le (k := 2) (by omega)))
    rw [num_digs] at HWD
    have HB1 := Lib.hid hb1
    have HV := Lib.hid hV
    have HDA := Lib.hid hda
    clear hu hcu hb1 hV hda
    go_wp2_with fail
    refine HWD.out.mono ?_
    rintro e w2 ⟨rfl, z, hz⟩
    have HB2 := Lib.hid (show Below w.heap.size w w2 from by rw [hz]; exact below_drewN HB1.out z)
    clear hz HB1 HWD
    go_upto_region 13 with fail
    go_cut [67] from 64 to 66 (fun s67 wx => s67 = .bool (lost || more) ∧ wx = w2)
    case first =>
      cases lost <;> cases more <;> (go_wp2_with fail; go_meet; exact ⟨rfl, rfl⟩)
    case rest =>
    obtain ⟨rfl, rfl⟩ := hcut
    obtain ⟨L, hL⟩ : ∃ L, (lost || more) = L := ⟨_, rfl⟩
    rw [hL] at HV ⊢
    clear hL
    go_upto_if 67 with fail
    go_cut [16] from 68 to 69 (fun s16 wx => s16 = .int .u64 (V : Int) ∧ wc = wx)
    case first =>
      have hor : bits .or .u64 (v : Int) 1 = ((2 * (v / 2) + 1 : Nat) : Int) := by
        have h := u64_or_nat v 1 hv64 (by omega)
        rw [or_one] at h; exact h
      have hv := HV.out
      cases L
      · have e : v = V := by rw [← hv]; rfl
        subst e
        go_wp2_with fail
        go_meet
        exact ⟨rfl, rfl⟩
      · have e : 2 * (v / 2) + 1 = V := by rw [← hv]; rfl
        rw [e] at hor
        go_wp2_with fail
        go_meet
        exact ⟨rfl, rfl⟩
    case rest =>
    obtain ⟨rfl, rfl⟩ := hcut
    have h3 : bits .and .u64 (V : Int) 3 = ((V % 4 : Nat) : Int) := by
      have h := u64_and_nat V 3 hV64 (by omega)
      rw [show (3 : Nat) = 2^2 - 1 from rfl, Nat.and_two_pow_sub_one_eq_mod] at h
      exact h
    obtain ⟨R, hR⟩ : ∃ R, V % 4 = R := ⟨_, rfl⟩
    obtain ⟨W, hW⟩ : ∃ W, V / 4 = W := ⟨_, rfl⟩
    rw [hR] at h3
    have hda := HDA.out
    rw [hR, hW] at hda
    rw [← hda.1] at hwlt hwge
    have h4 : (V : Int) / 4 = (W : Int) := by omega
    obtain ⟨Z, hZ⟩ : ∃ Z, W + (if away = true ∧ R ≠ 0 then 1 else 0) = Z := ⟨_, rfl⟩
    have hT : ansT p q f away = (E + 1074).toNat * 4503599627370496 + Z := by
      rw [HP.out, ← hZ, hda.1]
      unfold capT cutT
      by_cases hr : R = 0
      · have h5 := hda.2.1 hr
        rw [if_pos h5]
        cases away <;> simp [hr]
      · have h5 : ¬ upN p E % upM q E = 0 := fun h => hr (hda.2.2 h)
        rw [if_neg h5]
        cases away <;> simp [hr]
    have hZ1 : Z ≤ 9007199254740992 := by rw [← hZ]; split <;> omega
    have hZ2 : E = -1074 ∨ 4503599627370496 ≤ Z := by
      by_cases h : -1074 < E
      · right
        have h6 := hwge h
        rw [← hZ]; split <;> omega
      · left; omega
    have HLD := Lib.hid fun W' => ldexp_any Z E W' hZ1 hfe hZ2
    obtain ⟨T, hTT⟩ : ∃ T, (E + 1074).toNat * 4503599627370496 + Z = T := ⟨_, rfl⟩
    have hTM : T ≤ M := by
      have hM : M = 2045 * 4503599627370496 + 9007199254740992 := rfl
      rw [← hTT, hM]
      exact Nat.add_le_add (Nat.mul_le_mul_right _ (by omega)) hZ1
    rw [hTT] at HLD hT
    have HT := Lib.hid hT
    have HZ := Lib.hid hZ
    have hWb : W < 9007199254740992 := hwlt
    clear hT hZ hTT hda hR hW hwlt hwge hZ2 hvv HV hfe HDA HP
    go_upto_block 0 with fail
    go_cut [18] from 74 to 104 (fun s18 wx => s18 = .int .u64 (Z : Int) ∧ wc = wx)
    case first =>
      have haw := HAW.out
      have hz := HZ.out
      rcases Nat.eq_zero_or_pos R with hr | hr
      · subst hr
        have hz2 : Z = W := by rw [← hz]; simp
        subst hz2
        clear haw hz
        rcases HHD.out with rfl | rfl <;> cases neg <;> (go_wp2_with fail; go_meet; exact ⟨rfl, rfl⟩)
      · have hr2 : ¬ R = 0 := by omega
        rcases HHD.out with rfl | rfl <;> cases neg <;> simp at haw <;> subst haw <;> simp [hr2] at hz <;> subst hz <;> clear hr2 <;> (go_wp2_with fail; go_meet; exact ⟨rfl, rfl⟩)
    case rest =>
    obtain ⟨rfl, rfl⟩ := hcut
    clear HZ HAW
    go_wp2_with fail
    refine (HLD.out _).mono ?_
    rintro e w3 ⟨rfl, rfl⟩
    have hTr := rung_idx (b := T) (by have hM : M = 9218868437227405312 := rfl; omega)
    have hpt : pat (T : Int) = T := by rw [pat_nn (by omega)]; rfl
    have haa := HAA.out
    rw [HT.out] at haa
    cases neg
    · have e := Lib.hid (show T = AA by rw [← haa]; exact hpt.symm)
      clear haa hpt hTr hTM
      go_wp2
      go_ret
      exact ⟨by rw [← e.out]; rfl, HB2.out⟩
    · rcases Nat.eq_zero_or_pos T with h0 | h0
      · subst h0
        have ho := ord_eq (a := 0) (b := 0) real_zero real_zero rfl
        have e := Lib.hid (show 0 = AA by rw [← haa]; rfl)
        have hqz : (FloatKind.f64.format.order 0 0 != some Ordering.eq) = false := by rw [ho]; rfl
        clear haa hpt hTr hTM ho
        go_wp2
        go_ret
        exact ⟨by rw [← e.out]; rfl, HB2.out⟩
      · have ho := ord_gt (a := T) (b := 0) (by omega) real_zero (by rw [idx_zero]; omega)
        have hn := neg_pat (i := (T : Int)) (by omega) (by omega) (by omega)
        rw [hpt] at hn
        have e := Lib.hid (show Op.negFloat .f64 T = AA by rw [← haa]; exact hn)
        clear hn hpt hTr h0 hTM haa
        go_wp2
        go_ret
        exact ⟨by rw [← e.out]; rfl, HB2.out⟩
end Go.Proofs.YthlmlmfebpjgdaaGreatDoor

namespace Go.Proofs.YthlmlmfebpjgdaaGreatDoor
open Go.RowKit
theorem Dg.quo {N D k : Nat} {exp : Int} (hD : 0 < D) : Dg (N * 2^k / D) (N * 2^exp.toNat) (D * 2^(-exp).toNat) (exp - k) (decide (0 < N * 2^k % D)) := by
  obtain ⟨U, hU⟩ : ∃ U, 3000 + exp.natAbs + k = U := ⟨_, rfl⟩
  refine ⟨U, by omega, by omega, ?_⟩
  obtain ⟨E, hE⟩ : ∃ E, (exp - k + U).toNat = E := ⟨_, rfl⟩
  have e1 : N * 2^exp.toNat * 2^U = N * 2^k * (2^E * 2^(-exp).toNat) := by
    rw [Nat.mul_assoc, Nat.mul_assoc, ← Nat.pow_add, ← Nat.pow_add, ← Nat.pow_add]; congr 2; omega
  have e2 : ∀ s : Nat, s * 2^E * (D * 2^(-exp).toNat) = s * D * (2^E * 2^(-exp).toNat) := fun s => by ac_rfl
  have hc : 0 < 2^E * 2^(-exp).toNat := Nat.mul_pos (Nat.two_pow_pos _) (Nat.two_pow_pos _)
  rw [hE, e1, e2, e2]
  have h1 := Nat.div_add_mod (N * 2^k) D
  have h2 := Nat.mod_lt (N * 2^k) hD
  rw [Nat.mul_comm] at h1
  refine ⟨Nat.mul_le_mul_right _ (by omega), (Nat.mul_lt_mul_right hc).2 (by rw [Nat.add_mul]; omega), ?_⟩
  rw [Nat.mul_left_inj (by omega)]
  simp only [decide_eq_false_iff_not]
  omega
theorem quo_blen {N D k n m t : Nat} (hN : 0 < N) (hD : 0 < D) (hn : blen N = n) (hm : blen D = m) (h : m + t ≤ n + k) (ht : 0 < t) : t ≤ blen (N * 2^k / D) := by
  have h1 := pow_blen_le hN
  have h2 := lt_pow_blen D
  rw [hn] at h1
  rw [hm] at h2
  have hn0 : 0 < n := by
    rcases Nat.eq_zero_or_pos n with h0 | h0
    · rw [h0, blen_eq_zero] at hn; omega
    · exact h0
  have h3 : 2^(t - 1) * D ≤ N * 2^k := by
    have a1 : 2^(t - 1) * D ≤ 2^(t - 1) * 2^m := Nat.mul_le_mul_left _ (by omega)
    have a2 : 2^(n - 1) * 2^k ≤ N * 2^k := Nat.mul_le_mul_right _ h1
    have a3 : 2^(t - 1) * 2^m ≤ 2^(n - 1) * 2^k := by
      rw [← Nat.pow_add, ← Nat.pow_add]; exact Nat.pow_le_pow_right (by omega) (by omega)
    omega
  have h4 : 2^(t - 1) ≤ N * 2^k / D := (Nat.le_div_iff_mul_le hD).2 h3
  rcases Nat.lt_or_ge (blen (N * 2^k / D)) t with h5 | h5
  · exfalso
    have h6 := lt_pow_blen (N * 2^k / D)
    have h7 : 2^blen (N * 2^k / D) ≤ 2^(t - 1) := Nat.pow_le_pow_right (by omega) (by omega)
    omega
  · exact h5
theorem quo_blen_le {N D k n b : Nat} (hn : blen N = n) (h : n + k ≤ b) : blen (N * 2^k / D) ≤ b := by
  rw [blen_le_iff]
  have h1 := lt_pow_blen N
  rw [hn] at h1
  have h2 : N * 2^k / D ≤ N * 2^k := Nat.div_le_self _ _
  have h3 : N * 2^k < 2^n * 2^k := (Nat.mul_lt_mul_right (Nat.two_pow_pos _)).2 h1
  rw [← Nat.pow_add] at h3
  have h4 : 2^(n + k) ≤ 2^b := Nat.pow_le_pow_right (by omega) h
  omega
end Go.Proofs.YthlmlmfebpjgdaaGreatDoor

namespace Go.Proofs.YthlmlmfebpjgdaaGreatDoor
open Go.RowKit Ieee
attribute [local go_sem] run_store_float
def RtOf (w : World) (d : Int) (neg : Bool) (N D : Nat) (exp : Int) (e : Ending) (w' : World) : Prop :=
  e = .returned (.float .f64 (pat (rndI d (rv neg N D * 2^exp)))) ∧ Below w.heap.size w w'
theorem of_quo (d : Int) (neg : Bool) (A : Option Addr) (n c N D k : Nat) (exp : Int) (w : World) (hN : 0 < N) (hD : 0 < D) (hb : blen N ≤ 300000) (hk : k ≤ 200000) (h57 : blen D + 57 ≤ blen N + k) (hu : U32s w A n c (digs (N * 2^k / D))) (hd : d = -1 ∨ d = 1)
    (he1 : -700000 ≤ exp) (he2 : exp ≤ 1099511627776) :
    Calls Tryz.prog 230 #[.int .i64 d, .bool neg, .slice A n c, .int .i64 (exp - (k : Int)), .bool (decide (0 < N * 2^k % D))] w (RtOf w d neg N D exp) := by
  have h1 := quo_blen (t := 57) hN hD rfl rfl h57 (by omega)
  have h2 := quo_blen_le (D := D) (b := 500000) (k := k) (N := N) rfl (by omega)
  have hS : 0 < N * 2^k / D := by
    rcases Nat.eq_zero_or_pos (N * 2^k / D) with h | h
    · rw [h, blen_zero] at h1; omega
    · exact h
  have hl := wlen_digs_le (K := 16384) (S := N * 2^k / D) (by omega)
  have h := of_pos d neg (decide (0 < N * 2^k % D)) A n c (N * 2^k / D) (N * 2^exp.toNat) (D * 2^(-exp).toNat) _ (exp - (k : Int)) w hu (num_digs _) hS hl hd (Dg.quo hD) (Nat.mul_pos hD (Nat.two_pow_pos _)) (fun _ => by omega) (by omega) (by omega)
  rw [rv_scale neg hD exp] at h
  exact h
end Go.Proofs.YthlmlmfebpjgdaaGreatDoor

namespace Go.Proofs.YthlmlmfebpjgdaaGreatDoor
open Go.RowKit
attribute [local go_sem] run_store_float run_negf
def esg (s : Int) (g : Bool) (n : Nat) : Int := if s ≠ 0 then s else if n = 0 then 0 else if g then -1 else 1
theorem at_any (b : Nat) (w : World) : Calls Tryz.prog 88 #[.float .f64 b] w fun e w' => e = .returned (.agg #[.float .f64 b, .float .f64 b]) ∧ Below w.heap.size w w' := by
  obtain ⟨LB0, LR⟩ := bx1 w #[.float .f64 0, .float .f64 0] 78
  have LR0 := Lib.hid (HasBlk.of (n := 2) LR.out rfl rfl)
  clear LR
  go_enter Tryz.func88, Tryz.ntmps88
  obtain ⟨ha0, hf0, ha1, hf1⟩ := LR0.out.sf2
  obtain ⟨hk0, hk1⟩ := LR0.out.sc2 (.float .f64 b) (.float .f64 b)
  have F := Lib.hid (below_sets (w0 := w) (r := w.heap.size) (by omega) [.float .f64 b, .float .f64 b] 0 _ LB0.out)
  simp [sets] at hk0 hk1
  go_wp2
  refine bodyPost_ret (v := .agg #[.float .f64 b, .float .f64 b]) (by simp [results, Tryz.results88, go_sem, hk0, hk1]) rfl ?_
  exact ⟨rfl, below_alloc _ _⟩
def ExI (w : World) (s : Int) (g : Bool) (A : Option Addr) (n c : Nat) (E : Int) (x : Rat) : Prop :=
  (s = 0 ∨ s = 1 ∨ s = -1) ∧ (s = 0 → ∃ S, U32s w A n c (digs S) ∧ blen S ≤ 5000 ∧ -1074 ≤ E ∧ E ≤ 971 ∧ x = rv g S 1 * 2^E)
theorem ExI.below {w w' : World} {s : Int} {g : Bool} {A : Option Addr} {n c : Nat} {E : Int} {x : Rat} (h : ExI w s g A n c E x) (hb : Below w.heap.size w w') : ExI w' s g A n c E x :=
  ⟨h.1, fun h0 => by obtain ⟨S, h1, h2⟩ := h.2 h0; exact ⟨S, h1.below hb, h2⟩⟩
theorem ExI.keep {w w' : World} {s : Int} {g : Bool} {A : Option Addr} {n c : Nat} {E : Int} {x : Rat} (h : ExI w s g A n c E x) (hs : ∀ xs, U32s w A n c xs → U32s w' A n c xs) : ExI w' s g A n c E x :=
  ⟨h.1, fun h0 => by obtain ⟨S, h1, h2⟩ := h.2 h0; exact ⟨S, hs _ h1, h2⟩⟩
def esx (s : Int) (x : Rat) : Int := if s ≠ 0 then s else rsg x
theorem rv_pow_pos {S : Nat} {E : Int} (hS : 0 < S) : 0 < rv false S 1 * 2^E := by
  have h1 : 0 < rv false S 1 := by
    have h1 := mt (rv_le_false (p := S) (p' := 0) (q := 1) (by omega) (q' := 1) (by omega)).1 (by omega)
    rw [rv_zero] at h1
    grind
  exact Rat.mul_pos h1 (zpow_pos E)
theorem ExI.sg {w : World} {s : Int} {g : Bool} {A : Option Addr} {n c : Nat} {E : Int} {x : Rat} (h : ExI w s g A n c E x) : esg s g n = esx s x := by
  unfold esg esx
  by_cases hs : s = 0
  · subst hs
    simp only [ne_eq, not_true_eq_false, if_false]
    obtain ⟨S, hu, -, -, -, rfl⟩ := h.2 rfl
    rcases Nat.eq_zero_or_pos S with h0 | h0
    · subst h0
      have := hu.len
      rw [digs_zero] at this
      rw [if_pos (show n = 0 from this.symm), rv_zero]; simp [rsg]
    · have hn := digs_len_pos h0 hu.len
      have hp := rv_pow_pos (E := E) h0
      rw [if_neg (by omega)]
      unfold rsg
      cases g
      · have a1 : ¬ rv false S 1 * 2^E = 0 := by grind
        have a2 : ¬ rv false S 1 * 2^E < 0 := by grind
        rw [if_neg a1, if_neg a2]; rfl
      · rw [rv_true, Rat.neg_mul]
        have a1 : ¬ -(rv false S 1 * 2^E) = 0 := by grind
        have a2 : -(rv false S 1 * 2^E) < 0 := by grind
        rw [if_neg a1, if_pos a2]; rfl
  · rw [if_pos hs, if_pos hs]
def ov (s : Int) (x : Rat) (j : Int) : Int × Int := if s ≠ 0 then (s * M, s * M) else if x = 0 ∨ j = M then (0, 0) else (rndI (-1) (x / fl j), rndI 1 (x / fl j))
end Go.Proofs.YthlmlmfebpjgdaaGreatDoor

namespace Go.Proofs.YthlmlmfebpjgdaaGreatDoor
open Go.RowKit
theorem times_q (A B : Option Addr) (n c m d a b : Nat) (w : World) (hx : U32s w A n c (digs a)) (hy : U32s w B m d (digs b)) (hs1 : n ≤ 8589934592) (hs2 : m ≤ 8589934592) :
    Calls Tryz.prog 95 #[.slice A n c, .slice B m d] w (NewU32 w (digs (a * b))) := by
  have h := times_any A B n c m d _ _ w hx hy hs1 hs2
  rw [num_digs, num_digs] at h; exact h
theorem pow_mm {K : Nat} (a b : Nat) (ha : a < 2^(32 * K)) (hb : b < 2^(32 * K)) : a * b < 2^(32 * (2 * K)) := by
  have h : 2^(32 * (2 * K)) = 2^(32 * K) * 2^(32 * K) := by rw [← Nat.pow_add]; congr 1; omega
  rw [h]
  exact Nat.mul_lt_mul'' ha hb
theorem rv_mul (g1 g2 : Bool) (p1 q1 p2 q2 : Nat) : rv g1 p1 q1 * rv g2 p2 q2 = rv (g1 != g2) (p1 * p2) (q1 * q2) := by
  unfold rv
  cases g1 <;> cases g2 <;> simp [Rat.div_def, Rat.natCast_mul, Rat.inv_mul_rev] <;> grind
theorem rmul_walk (K : Nat) (g1 g2 : Bool) (p1 q1 p2 q2 : Nat) (A1 : Option Addr) (n1 c1 : Nat) (B1 : Option Addr) (m1 d1 : Nat) (A2 : Option Addr) (n2 c2 : Nat) (B2 : Option Addr) (m2 d2 : Nat) (w : World) (u1 : U32s w A1 n1 c1 (digs p1)) (v1 : U32s w B1 m1 d1 (digs q1)) (u2 : U32s w A2 n2 c2 (digs p2)) (v2 : U32s w B2 m2 d2 (digs q2)) (l1 : n1 ≤ 8589934592) (l2 : m1 ≤ 8589934592) (l3 : n2 ≤ 8589934592) (l4 : m2 ≤ 8589934592) (hD : 0 < q1 * q2) (k1 : p1 * p2 < 2^(32 * K)) (k2 : q1 * q2 < 2^(32 * K)) (hK : 1 ≤ K) (hK2 : K ≤ 1073741824) :
    Calls Tryz.prog 36 #[.agg #[.bool g1, .slice A1 n1 c1, .slice B1 m1 d1], .agg #[.bool g2, .slice A2 n2 c2, .slice B2 m2 d2]] w (NewRat w K (rv (g1 != g2) (p1 * p2) (q1 * q2))) := by
  have T1 := Lib.hid fun W (hW : Below w.heap.size w W) => times_q A1 A2 n1 c1 n2 c2 p1 p2 W (u1.below hW) (u2.below hW) l1 l3
  have T2 := Lib.hid fun W (hW : Below w.heap.size w W) => times_q B1 B2 m1 d1 m2 d2 q1 q2 W (v1.below hW) (v2.below hW) l2 l4
  obtain ⟨X, eX⟩ : ∃ x, p1 * p2 = x := ⟨_, rfl⟩
  obtain ⟨D, eD⟩ : ∃ x, q1 * q2 = x := ⟨_, rfl⟩
  rw [eX] at T1 k1 ⊢
  rw [eD] at T2 k2 hD ⊢
  have T3 := Lib.hid fun g W (A : Option Addr) (n c : Nat) (B : Option Addr) (m d : Nat) (hx : U32s W A n c (digs X)) (hy : U32s W B m d (digs D)) => frac_plain g A B n c m d K X D W hx hy hD k1 k2 hK hK2
  clear u1 v1 u2 v2 l1 l2 l3 l4 hD k1 k2 hK hK2 eX eD
  obtain ⟨LB0, LG0_0, LG1_0, LR⟩ := bx3 w #[.bool g1, .slice A1 n1 c1, .slice B1 m1 d1] 42 #[.bool g2, .slice A2 n2 c2, .slice B2 m2 d2] 42 #[.bool false, .slice none 0 0, .slice none 0 0] 42
  have LR0 := Lib.hid (HasBlk.of (n := 3) LR.out rfl rfl)
  clear LR
  go_enter Tryz.func36, Tryz.ntmps36
  go_wp2_with fail
  refine wp_region_held_drew (S := fun W' => Blk W' w.heap.size 42 #[.bool g1, .slice A1 n1 c1, .slice B1 m1 d1] ∧ Blk W' (w.heap.size + 1) 42 #[.bool g2, .slice A2 n2 c2, .slice B2 m2 d2] ∧ HasBlk W' (w.heap.size + 2) 42 3 ∧ Below w.heap.size w W') (by kernel_rfl) (by exact ⟨LG0_0.out.drew, LG1_0.out.drew, LR0.out.drew, LB0.out.drew⟩) (fun hHeld => ?_)
  refine tk 0 ?_
  try simp only [Act.put, lay]
  refine tk 1 ?_ (hv := by intro W2 hSw; obtain ⟨q0, q1, q2⟩ := hSw.1.c3; go_simp; (try with_reducible rfl))
  try simp only [Act.put, lay]
  refine tk 2 ?_
  try simp only [Act.put, lay]
  refine tk 3 ?_ (hv := by intro W2 hSw; obtain ⟨q0, q1, q2⟩ := hSw.2.1.c3; go_simp; (try with_reducible rfl))
  try simp only [Act.put, lay]
  refine tk 4 ?_
  try simp only [Act.put, lay]
  refine tk 5 ?_
  try simp only [Act.put, lay]
  refine tk 6 ?_ (hv := by intro W2 hSw; obtain ⟨q0, q1, q2⟩ := hSw.1.c3; go_simp; (try with_reducible rfl))
  try simp only [Act.put, lay]
  refine tk 7 ?_
  try simp only [Act.put, lay]
  refine tk 8 ?_ (hv := by intro W2 hSw; obtain ⟨q0, q1, q2⟩ := hSw.2.1.c3; go_simp; (try with_reducible rfl))
  try simp only [Act.put, lay]
  refine tk 10 ?_
  try simp only [Act.put, lay]
  refine tk 11 ?_ (hv := by intro W2 hSw; obtain ⟨q0, q1, q2⟩ := hSw.1.c3; go_simp; (try with_reducible rfl))
  try simp only [Act.put, lay]
  refine tk 12 ?_
  try simp only [Act.put, lay]
  refine tk 13 ?_ (hv := by intro W2 hSw; obtain ⟨q0, q1, q2⟩ := hSw.2.1.c3; go_simp; (try with_reducible rfl))
  try simp only [Act.put, lay]
  refine rdy 9 (fun KK hKK => ?_)
  go_simp
  refine (T1.out _ hHeld.2.2.2).mono ?_
  rintro e w1 ⟨AX, nX, cX, rfl, hX, hbA⟩
  go_wp2_with fail
  refine hKK.out _ _ (⟨hHeld.1.keep hbA, hHeld.2.1.keep hbA, hHeld.2.2.1.keep hbA, hHeld.2.2.2.trans (hbA.mono hHeld.2.2.2.size)⟩) (fun _ => ?_)
  clear hKK KK hHeld; rename_i hHeld
  try simp only [Act.put, lay]
  refine rdy 14 (fun KK hKK => ?_)
  go_simp
  refine (T2.out _ hHeld.2.2.2).mono ?_
  rintro e w2 ⟨AY, nY, cY, rfl, hY, hbB⟩
  go_wp2_with fail
  refine hKK.out _ _ (⟨hHeld.1.keep hbB, hHeld.2.1.keep hbB, hHeld.2.2.1.keep hbB, hHeld.2.2.2.trans (hbB.mono hHeld.2.2.2.size)⟩) (fun _ => ?_)
  clear hKK KK hHeld; rename_i hHeld
  try simp only [Act.put, lay]
  refine rdy 15 (fun KK hKK => ?_)
  go_simp
  refine (T3.out _ _ _ _ _ _ _ _ (hX.below hbB) hY).mono ?_
  rintro e w3 ⟨gz, vn, vd, rfl, hR, hbC⟩; obtain ⟨AZ, nZ, cZ, BZ, mZ, dZ, rfl, rfl⟩ := hR.shape
  go_wp2_with fail
  refine hKK.out _ _ (⟨hHeld.1.keep hbC, hHeld.2.1.keep hbC, hHeld.2.2.1.keep hbC, hHeld.2.2.2.trans (hbC.mono hHeld.2.2.2.size)⟩) (fun _ => ?_)
  clear hKK KK hHeld; rename_i hHeld
  try simp only [Act.put, lay]
  refine rdy 16 (fun KK hKK => ?_)
  have ha0 := hHeld.2.2.1.someCell 0 (by decide); have hf0 := hHeld.2.2.1.frozen 0; have ha1 := hHeld.2.2.1.someCell 1 (by decide); have hf1 := hHeld.2.2.1.frozen 1; have ha2 := hHeld.2.2.1.someCell 2 (by decide); have hf2 := hHeld.2.2.1.frozen 2; have HK := Lib.hid (hHeld.2.2.1.setCell [.bool gz, .slice AZ nZ cZ, .slice BZ mZ dZ] rfl); have F := Lib.hid (below_sets (w0 := w) (r := (w.heap.size + 2)) (by omega) [.bool gz, .slice AZ nZ cZ, .slice BZ mZ dZ] 0 _ hHeld.2.2.2); have FR := Lib.hid (hHeld.2.2.1.rat hR [.bool gz, .slice AZ nZ cZ, .slice BZ mZ dZ])
  go_simp
  refine hKK.out _ _ (⟨hHeld.1.other (by omega) 0 [.bool gz, .slice AZ nZ cZ, .slice BZ mZ dZ], hHeld.2.1.other (by omega) 0 [.bool gz, .slice AZ nZ cZ, .slice BZ mZ dZ], hHeld.2.2.1.sets [.bool gz, .slice AZ nZ cZ, .slice BZ mZ dZ] rfl rfl, below_sets (by omega) [.bool gz, .slice AZ nZ cZ, .slice BZ mZ dZ] 0 _ hHeld.2.2.2⟩) (fun _ => ?_)
  clear hKK KK hHeld; rename_i hHeld
  try simp only [Act.put, lay]
  refine wpAnyH_done (by kernel_rfl) ?_ _
  have hk0 := HK.out 0 (by decide)
  have hk1 := HK.out 1 (by decide)
  have hk2 := HK.out 2 (by decide)
  simp [sets] at hk0 hk1 hk2
  clear hHeld HK hX hbA hY hbB hR hbC
  clear LB0 LR0 LG0_0 LG1_0
  go_wp2
  refine bodyPost_ret (v := .agg #[.bool gz, .slice AZ nZ cZ, .slice BZ mZ dZ]) (by simp [results, Tryz.results36, go_sem, hk0, hk1, hk2]) rfl ?_
  exact ⟨_, _, _, rfl, FR.out, F.out⟩
theorem rmul_v (K : Nat) (g1 : Bool) (vn1 vd1 : Value) (x1 : Rat) (g2 : Bool) (vn2 vd2 : Value) (x2 : Rat) (w : World) (h1 : RatV w K g1 vn1 vd1 x1) (h2 : RatV w K g2 vn2 vd2 x2) (hK0 : 1 ≤ K) (hK : K ≤ 1048576) :
    Calls Tryz.prog 36 #[.agg #[.bool g1, vn1, vd1], .agg #[.bool g2, vn2, vd2]] w (NewRat w (2 * K) (x1 * x2)) := by
  obtain ⟨p1, q1, A1, n1, c1, B1, m1, d1, rfl, rfl, u1, v1, hq1, -, k1, k2, rfl⟩ := h1
  obtain ⟨p2, q2, A2, n2, c2, B2, m2, d2, rfl, rfl, u2, v2, hq2, -, k3, k4, rfl⟩ := h2
  have l1 := u1.len_le k1
  have l2 := v1.len_le k2
  have l3 := u2.len_le k3
  have l4 := v2.len_le k4
  rw [rv_mul]
  exact rmul_walk (2 * K) g1 g2 p1 q1 p2 q2 A1 n1 c1 B1 m1 d1 A2 n2 c2 B2 m2 d2 w u1 v1 u2 v2 (by omega) (by omega) (by omega) (by omega) (Nat.mul_pos hq1 hq2) (pow_mm _ _ k1 k3) (pow_mm _ _ k2 k4) (by omega) (by omega)
theorem sign6_any (K : Nat) (s1 : Int) (g1 : Bool) (A1 : Option Addr) (n1 c1 : Nat) (B1 : Option Addr) (m1 d1 : Nat) (x1 : Rat) (w : World) (h1 : RatV w K g1 (.slice A1 n1 c1) (.slice B1 m1 d1) x1) (hK : K ≤ 1073741824) :
    Calls Tryz.prog 152 #[.agg #[.int .i64 s1, .bool g1, .slice A1 n1 c1, .slice B1 m1 d1]] w fun e w' => e = .returned (.int .i64 (esx s1 x1)) ∧ Below w.heap.size w w' := by
  have HS := Lib.hid fun W (hW : Below w.heap.size w W) => rsign_any K g1 (.slice A1 n1 c1) (.slice B1 m1 d1) x1 W (h1.below hW) hK
  unfold esx
  clear h1 hK
  obtain ⟨LB0, LG0_0⟩ := bx1 w #[.int .i64 s1, .bool g1, .slice A1 n1 c1, .slice B1 m1 d1] 87
  by_cases hs : s1 = 0
  · subst hs
    simp only [ne_eq, not_true_eq_false, if_false]
    obtain ⟨r, hr⟩ : ∃ r, rsg x1 = r := ⟨_, rfl⟩
    rw [hr] at HS ⊢
    clear hr
    go_enter Tryz.func152, Tryz.ntmps152
    obtain ⟨q0_0, q0_1, q0_2, q0_3⟩ := LG0_0.out.c4
    go_wp2_with fail
    refine (HS.out _ LB0.out).mono ?_
    rintro e w1 ⟨rfl, hb1⟩
    have F := Lib.hid (LB0.out.trans (hb1.mono LB0.out.size))
    clear hb1
    go_wp2
    go_ret
    exact ⟨rfl, F.out⟩
  · rw [if_pos hs]
    have hz : (s1 == 0) = false := by simpa using hs
    have hz2 : (s1 != 0) = true := by simp [hs]
    clear hs HS
    have F := Lib.hid LB0.out
    go_enter Tryz.func152, Tryz.ntmps152
    obtain ⟨q0_0, q0_1, q0_2, q0_3⟩ := LG0_0.out.c4
    go_wp2
    go_ret
    exact ⟨rfl, F.out⟩
theorem NewBd.up {w w' : World} {K K' : Nat} {s : Int} {x : Rat} {N : Int} {o : Bool} {e : Ending} (h : NewBd w K s x N o e w') (hk : K ≤ K') : NewBd w K' s x N o e w' := by
  obtain ⟨g, A, n, c, B, m, d, rfl, hr, hb⟩ := h
  exact ⟨g, A, n, c, B, m, d, rfl, hr.mono hk, hb⟩
end Go.Proofs.YthlmlmfebpjgdaaGreatDoor
