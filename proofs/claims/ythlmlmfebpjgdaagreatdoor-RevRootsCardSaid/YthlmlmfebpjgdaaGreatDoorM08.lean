/-
Walks: package vergeref10, power (of exponent one).
Walks: package vergeref6, sets.
Walks: package vergeref6, intervals as sets.
Walks: package vergeref6, sets: negatives, hulls.
-/
import Derived.Test.YthlmlmfebpjgdaaGreatDoorM04
import Derived.Test.YthlmlmfebpjgdaaGreatDoorM07
import Derived.Test.YthlmlmfebpjgdaaGreatDoorM02
import Derived.Deep.DeepCutAuto
import Derived.Test.YthlmlmfebpjgdaaGreatDoorM06
set_option linter.unusedSimpArgs false
set_option linter.unusedVariables false
set_option maxHeartbeats 12800000

namespace Go.Proofs.YthlmlmfebpjgdaaGreatDoor
open Go.RowKit
theorem rc_false {p q p' q' : Nat} (hq : 0 < q) (hq' : 0 < q') : rc (rv false p q) (rv false p' q') = cmp3 (p * q') (p' * q) := by
  have h1 := rv_lt_false (p := p) (p' := p') hq hq'
  have h2 := rv_lt_false (p := p') (p' := p) hq' hq
  unfold rc cmp3
  by_cases a : p * q' < p' * q
  · rw [if_pos (h1.2 a), if_pos a]
  · rw [if_neg (fun h => a (h1.1 h)), if_neg a]
    by_cases b : p' * q < p * q'
    · rw [if_pos (h2.2 b), if_pos b]
    · rw [if_neg (fun h => b (h2.1 h)), if_neg b]
theorem pw_above {a b : Nat} {E : Int} (ha : 0 < a) (h : (blen b : Int) + 1 < (blen a : Int) + E) : cmp3 (a * 2^E.toNat) (b * 2^(-E).toNat) = 1 := by
  refine cmp3_gt ?_
  obtain ⟨L, e1, a1, a2⟩ := blen_bounds ha
  have b2 := lt_pow_blen b
  rcases Int.lt_or_le E 0 with h0 | h0
  · rw [show E.toNat = 0 from by omega, Nat.pow_zero, Nat.mul_one]
    calc b * 2^(-E).toNat < 2^(blen b) * 2^(-E).toNat := Nat.mul_lt_mul_of_pos_right b2 (Nat.two_pow_pos _)
      _ = 2^(blen b + (-E).toNat) := by rw [← Nat.pow_add]
      _ ≤ 2^L := Nat.pow_le_pow_right (by omega) (by omega)
      _ ≤ a := a1
  · rw [show (-E).toNat = 0 from by omega, Nat.pow_zero, Nat.mul_one]
    calc b < 2^(blen b) := b2
      _ ≤ 2^(L + E.toNat) := Nat.pow_le_pow_right (by omega) (by omega)
      _ = 2^L * 2^E.toNat := by rw [Nat.pow_add]
      _ ≤ a * 2^E.toNat := Nat.mul_le_mul_right _ a1
theorem pw_below {a b : Nat} {E : Int} (h : (blen a : Int) + E < (blen b : Int) - 1) (hb : 0 < b) : cmp3 (a * 2^E.toNat) (b * 2^(-E).toNat) = -1 := by
  refine cmp3_lt ?_
  obtain ⟨L, e1, b1, b2⟩ := blen_bounds hb
  have a2 := lt_pow_blen a
  rcases Int.lt_or_le E 0 with h0 | h0
  · rw [show E.toNat = 0 from by omega, Nat.pow_zero, Nat.mul_one]
    calc a < 2^(blen a) := a2
      _ ≤ 2^(L + (-E).toNat) := Nat.pow_le_pow_right (by omega) (by omega)
      _ = 2^L * 2^(-E).toNat := by rw [Nat.pow_add]
      _ ≤ b * 2^(-E).toNat := Nat.mul_le_mul_right _ b1
  · rw [show (-E).toNat = 0 from by omega, Nat.pow_zero, Nat.mul_one]
    calc a * 2^E.toNat < 2^(blen a) * 2^E.toNat := Nat.mul_lt_mul_of_pos_right a2 (Nat.two_pow_pos _)
      _ = 2^(blen a + E.toNat) := by rw [← Nat.pow_add]
      _ ≤ 2^L := Nat.pow_le_pow_right (by omega) (by omega)
      _ ≤ b := b1
theorem pw_rc {F p q : Nat} {E : Int} {x : Rat} (hq : 0 < q) (hx : x = rv false F 1 * 2^E) : rc x (rv false p q) = cmp3 (F * q * 2^E.toNat) (p * 2^(-E).toNat) := by
  have := rv_scale false (p := F) (q := 1) (by omega) E
  rw [Nat.one_mul] at this
  rw [hx, ← this, rc_false (Nat.two_pow_pos _) hq]
  congr 1
  rw [Nat.mul_assoc, Nat.mul_comm (2^E.toNat) q, ← Nat.mul_assoc]
set_option maxRecDepth 4000 in
theorem power_fin (K b : Nat) (A B : Option Addr) (n c m d p q : Nat) (w : World) (hb : b < 9218868437227405312) (hb0 : 0 < b) (hu : U32s w A n c (digs p)) (hv : U32s w B m d (digs q)) (hp : 0 < p) (hq : 0 < q) (hpK : p < 2^(32 * K)) (hqK : q < 2^(32 * K)) (hK : K ≤ 1048576) :
    Calls Tryz.prog 236 #[.int .u64 (b : Int), .int .i64 1, .agg #[.bool false, .slice A n c, .slice B m d]] w fun e w' => e = .returned (.int .i64 (rc (fl (b : Int)) (rv false p q))) ∧ Below w.heap.size w w' := by
  have hc := pat_cases (b := b) (by omega)
  have hfin : fin b := by show rungOf b < M; rw [M_val]; omega
  have hidx : idx b = (b : Int) := by omega
  have hsg : sgn b = false := by
    rcases hc with h | h
    · exact h.2.2.1
    · omega
  obtain ⟨e0, he⟩ : ∃ e, b / 4503599627370496 % 2048 = e := ⟨_, rfl⟩
  obtain ⟨f0, hff⟩ : ∃ f, b % 4503599627370496 = f := ⟨_, rfl⟩
  obtain ⟨he1, hf1, v1, v2⟩ := fl_parts hfin he hff hsg
  rw [hidx] at v1 v2
  have he' : b / 4503599627370496 = e0 := by omega
  have m1 : (b : Int) / 4503599627370496 = (e0 : Int) := by omega
  have m2 := mask52_u64 (x := b) (by omega)
  rw [hff] at m2
  obtain ⟨F, E, hF0, hF, hE1, hE2, hfl, hFe⟩ : ∃ (F : Nat) (E : Int), 0 < F ∧ F < 9007199254740992 ∧ -1074 ≤ E ∧ E ≤ 971 ∧ fl (b : Int) = rv false F 1 * 2^E ∧ ((0 < e0 ∧ F = f0 + 4503599627370496 ∧ (e0 : Int) - 1 - 1074 = E) ∨ (e0 = 0 ∧ F = f0 ∧ (e0 : Int) - 1074 = E)) := by
    rcases Nat.eq_zero_or_pos e0 with h | h
    · exact ⟨f0, (e0 : Int) - 1074, by omega, by omega, by omega, by omega, v2 h, .inr ⟨h, rfl, rfl⟩⟩
    · exact ⟨f0 + 4503599627370496, (e0 : Int) - 1 - 1074, by omega, by omega, by omega, by omega, v1 h, .inl ⟨h, rfl, rfl⟩⟩
  rw [pw_rc hq hfl]
  have hn1 := hu.len_le hpK
  have hm1 := hv.len_le hqK
  have HU := Lib.hid hu
  have HV := Lib.hid hv
  have haK : F * q < 2^(32 * (K + 2)) := by
    calc F * q < 2^64 * 2^(32 * K) := Nat.mul_lt_mul'' (by omega) hqK
      _ = 2^(32 * (K + 2)) := by rw [← Nat.pow_add]; congr 1; omega
  have bp : blen p ≤ 33554432 := Nat.le_trans (blen_le_iff.2 hpK) (by omega)
  have ba : blen (F * q) ≤ 33554496 := Nat.le_trans (blen_le_iff.2 haK) (by omega)
  have hab : 0 < F * q := Nat.mul_pos hF0 hq
  have HSM := Lib.hid fun W => small_any F W (by omega)
  obtain ⟨a, ha⟩ : ∃ a, F * q = a := ⟨_, rfl⟩
  have T0 : ∀ (W : World) (A1 : Option Addr) (n1 c1 : Nat), Below w.heap.size w W → U32s W A1 n1 c1 (digs F) → Calls Tryz.prog 95 #[.slice A1 n1 c1, .slice B m d] W (NewU32 W (digs a)) := by
    intro W A1 n1 c1 hW h1
    have := times_any A1 B n1 c1 m d _ _ W h1 (HV.out.below hW) (by have := h1.len_le (k := 2) (Nat.lt_of_lt_of_le hF (by decide)); omega) (by omega)
    rw [num_digs, num_digs, ha] at this
    exact this
  have P0 : ∀ (W : World) (A1 : Option Addr) (n1 c1 : Nat), U32s W A1 n1 c1 (digs F) → Calls Tryz.prog 120 #[.slice A1 n1 c1, .int .i64 1] W (NewU32 W (digs F)) := by
    intro W A1 n1 c1 h1
    have h2 : F < 2^(32 * 2) := Nat.lt_of_lt_of_le hF (by decide)
    have := power_any A1 n1 c1 1 2 _ W h1 (by have := h1.len_le h2; omega) (by rw [num_digs]; exact hF0) (by rw [num_digs]; exact h2) (by rw [num_digs, Nat.pow_one]; exact h2) (by omega) (by omega)
    rw [num_digs, Nat.pow_one] at this
    exact this
  rw [ha] at haK ba hab ⊢
  have TT := Lib.hid T0
  have PT := Lib.hid P0
  have PA := Lib.hid fun h => pw_above (b := p) (E := E) hab h
  have PB := Lib.hid fun h => pw_below (a := a) (E := E) h hp
  obtain ⟨r, hr⟩ : ∃ r, cmp3 (a * 2^E.toNat) (p * 2^(-E).toNat) = r := ⟨_, rfl⟩
  rw [hr] at PA PB ⊢
  have HR := Lib.hid hr
  obtain ⟨K2, hK2⟩ : ∃ x, K + 2 = x := ⟨_, rfl⟩
  rw [hK2] at haK
  have hK3 : K2 ≤ 1048578 := by omega
  have HAK := Lib.hid haK
  clear hK2
  have HFE := Lib.hid hFe
  clear hr T0 P0 haK hab hFe hfl v1 v2 hc hfin hidx hsg he hff he' hu hv hp hq hpK hqK ha hF0
  rcases HFE.out with ⟨h0, hFF, hEE⟩ | ⟨h0, hFF, hEE⟩
  · skip
    obtain ⟨LB0, LG0_0⟩ := bx1 w #[.bool false, .slice A n c, .slice B m d] 42
    have h1 : (f0 : Int) + 4503599627370496 = (F : Int) := by omega
    have h3 : (0 : Int) < (e0 : Int) := by omega
    clear hFF h0
    clear HFE
    go_enter Tryz.func236, Tryz.ntmps236
    go_upto_region 7 with fail
    refine wp_region_held_drew (S := fun W' => Blk W' w.heap.size 42 #[.bool false, .slice A n c, .slice B m d] ∧ Below w.heap.size w W') (by kernel_rfl) (by exact ⟨LG0_0.out.drew, LB0.out.drew⟩) (fun hHeld => ?_)
    refine tk 0 ?_
    try simp only [Act.put, lay]
    refine tk 2 ?_
    try simp only [Act.put, lay]
    refine tk 4 ?_
    try simp only [Act.put, lay]
    refine tk 5 ?_ (hv := by intro W2 hSw; obtain ⟨q0, q1, q2⟩ := hSw.1.c3; go_simp; (try with_reducible rfl))
    try simp only [Act.put, lay]
    refine rdy 1 (fun KK hKK => ?_)
    go_simp
    refine (HSM.out _).mono ?_
    rintro e w1 ⟨A1, n1, c1, rfl, hu1, hb1⟩
    go_wp2_with fail
    refine hKK.out _ _ (⟨hHeld.1.keep hb1, hHeld.2.trans (hb1.mono hHeld.2.size)⟩) (fun _ => ?_)
    clear hKK KK hHeld; rename_i hHeld
    try simp only [Act.put, lay]
    refine rdy 3 (fun KK hKK => ?_)
    go_simp
    refine (PT.out _ A1 n1 c1 hu1).mono ?_
    rintro e w2 ⟨A2, n2, c2, rfl, hu2, hb2⟩
    go_wp2_with fail
    refine hKK.out _ _ (⟨hHeld.1.keep hb2, hHeld.2.trans (hb2.mono hHeld.2.size)⟩) (fun _ => ?_)
    clear hKK KK hHeld; rename_i hHeld
    try simp only [Act.put, lay]
    refine rdy 6 (fun KK hKK => ?_)
    go_simp
    refine (TT.out _ A2 n2 c2 ?_ hu2).mono ?_; exact hHeld.2
    rintro e w3 ⟨A3, n3, c3, rfl, hu3, hb3⟩
    go_wp2_with fail
    refine hKK.out _ _ (⟨hHeld.1.keep hb3, hHeld.2.trans (hb3.mono hHeld.2.size)⟩) (fun _ => ?_)
    clear hKK KK hHeld; rename_i hHeld
    try simp only [Act.put, lay]
    refine tk 7 ?_
    try simp only [Act.put, lay]
    refine wpAnyH_done (by kernel_rfl) ?_ _
    have LB3 := Lib.hid hHeld.2
    have LG0_3 := Lib.hid hHeld.1
    have HU3 := Lib.hid hu3
    have hn3 := hu3.len_le HAK.out
    clear hHeld hu1 hu2 hu3 hb1 hb2 hb3 HSM PT TT LB0 LG0_0
    obtain ⟨la, hla⟩ : ∃ x, blen a = x := ⟨_, rfl⟩
    obtain ⟨lp, hlp⟩ : ∃ x, blen p = x := ⟨_, rfl⟩
    have H1 := Lib.hid (len_v A3 n3 c3 w3 HU3.out)
    have H2 := Lib.hid (len_v A n c w3 (HU.out.below LB3.out))
    rw [hla] at H1 PA PB ba
    rw [hlp] at H2 PA PB bp
    clear hla hlp
    obtain ⟨q0_0, q0_1, q0_2⟩ := LG0_3.out.c3
    by_cases ho : (lp : Int) + 1 < (la : Int) + E
    · have hr := PA.out ho
      clear PA PB HR
      go_wp2_with fail
      refine H1.out.mono ?_
      rintro e w4 ⟨rfl, rfl⟩
      go_wp2_with fail
      refine H2.out.mono ?_
      rintro e w4 ⟨rfl, rfl⟩
      have HRR := Lib.hid hr
      clear hr
      go_wp2
      go_ret
      exact ⟨ret_int HRR.out.symm, LB3.out⟩
    · by_cases hu : (la : Int) + E < (lp : Int) - 1
      · have hr := PB.out hu
        clear PA PB HR
        go_wp2_with fail
        refine H1.out.mono ?_
        rintro e w4 ⟨rfl, rfl⟩
        go_wp2_with fail
        refine H2.out.mono ?_
        rintro e w4 ⟨rfl, rfl⟩
        go_wp2_with fail
        refine H1.out.mono ?_
        rintro e w4 ⟨rfl, rfl⟩
        go_wp2_with fail
        refine H2.out.mono ?_
        rintro e w4 ⟨rfl, rfl⟩
        have HRR := Lib.hid hr
        clear hr
        go_wp2
        go_ret
        exact ⟨ret_int HRR.out.symm, LB3.out⟩
      · clear PA PB
        go_wp2_with fail
        refine H1.out.mono ?_
        rintro e w4 ⟨rfl, rfl⟩
        go_wp2_with fail
        refine H2.out.mono ?_
        rintro e w4 ⟨rfl, rfl⟩
        go_wp2_with fail
        refine H1.out.mono ?_
        rintro e w4 ⟨rfl, rfl⟩
        go_wp2_with fail
        refine H2.out.mono ?_
        rintro e w4 ⟨rfl, rfl⟩
        clear H1 H2
        by_cases hE : 0 ≤ E
        · skip
          obtain ⟨g, hg⟩ : ∃ g : Nat, E = g := ⟨E.toNat, by omega⟩
          subst hg
          have hg2 : g ≤ 971 := by omega
          have hr := HR.out
          rw [show (-(g : Int)).toNat = 0 from by omega, Int.toNat_natCast, Nat.pow_zero, Nat.mul_one] at hr
          have HLL := Lib.hid (left_v (v := a) A3 n3 c3 g w3 HU3.out (by omega) (by omega))
          have HRR := Lib.hid hr
          clear hr HR
          go_wp2_with fail
          refine HLL.out.mono ?_
          rintro e w5 ⟨A5, n5, c5, rfl, hu5, hb5⟩
          have LB5 := stB LB3 hb5 LB3.out.size
          have HC := Lib.hid (cmp_v A5 A n5 c5 n c w5 hu5 (HU.out.below LB5.out))
          rw [HRR.out] at HC
          clear hb5 hu5 HLL
          go_wp2_with fail
          refine HC.out.mono ?_
          rintro e w6 ⟨rfl, kk, rfl⟩
          go_wp2
          go_ret
          exact ⟨rfl, below_drewN LB5.out kk⟩
        · skip
          obtain ⟨g, hg⟩ : ∃ g : Nat, -E = g := ⟨(-E : Int).toNat, by omega⟩
          have hg2 : g ≤ 1074 := by omega
          have hr := HR.out
          rw [show (E : Int).toNat = 0 from by omega, show (-E : Int).toNat = g from by omega, Nat.pow_zero, Nat.mul_one] at hr
          have HLL := Lib.hid (left_v (v := p) A n c g w3 (HU.out.below LB3.out) (by omega) (by omega))
          have HRR := Lib.hid hr
          clear hr HR
          have c2 : E < 0 := by omega
          go_wp2_with fail
          refine HLL.out.mono ?_
          rintro e w5 ⟨A5, n5, c5, rfl, hu5, hb5⟩
          have HC := Lib.hid (cmp_v A3 A5 n3 c3 n5 c5 w5 (HU3.out.below hb5) hu5)
          have LB5 := stB LB3 hb5 LB3.out.size
          rw [HRR.out] at HC
          clear hb5 hu5 HLL
          go_wp2_with fail
          refine HC.out.mono ?_
          rintro e w6 ⟨rfl, kk, rfl⟩
          go_wp2
          go_ret
          exact ⟨rfl, below_drewN LB5.out kk⟩
  · skip
    obtain ⟨LB0, LG0_0⟩ := bx1 w #[.bool false, .slice A n c, .slice B m d] 42
    subst h0
    subst hFF
    obtain rfl : E = -1074 := by omega
    clear hEE
    clear HFE
    go_enter Tryz.func236, Tryz.ntmps236
    go_upto_region 7 with fail
    refine wp_region_held_drew (S := fun W' => Blk W' w.heap.size 42 #[.bool false, .slice A n c, .slice B m d] ∧ Below w.heap.size w W') (by kernel_rfl) (by exact ⟨LG0_0.out.drew, LB0.out.drew⟩) (fun hHeld => ?_)
    refine tk 0 ?_
    try simp only [Act.put, lay]
    refine tk 2 ?_
    try simp only [Act.put, lay]
    refine tk 4 ?_
    try simp only [Act.put, lay]
    refine tk 5 ?_ (hv := by intro W2 hSw; obtain ⟨q0, q1, q2⟩ := hSw.1.c3; go_simp; (try with_reducible rfl))
    try simp only [Act.put, lay]
    refine rdy 1 (fun KK hKK => ?_)
    go_simp
    refine (HSM.out _).mono ?_
    rintro e w1 ⟨A1, n1, c1, rfl, hu1, hb1⟩
    go_wp2_with fail
    refine hKK.out _ _ (⟨hHeld.1.keep hb1, hHeld.2.trans (hb1.mono hHeld.2.size)⟩) (fun _ => ?_)
    clear hKK KK hHeld; rename_i hHeld
    try simp only [Act.put, lay]
    refine rdy 3 (fun KK hKK => ?_)
    go_simp
    refine (PT.out _ A1 n1 c1 hu1).mono ?_
    rintro e w2 ⟨A2, n2, c2, rfl, hu2, hb2⟩
    go_wp2_with fail
    refine hKK.out _ _ (⟨hHeld.1.keep hb2, hHeld.2.trans (hb2.mono hHeld.2.size)⟩) (fun _ => ?_)
    clear hKK KK hHeld; rename_i hHeld
    try simp only [Act.put, lay]
    refine rdy 6 (fun KK hKK => ?_)
    go_simp
    refine (TT.out _ A2 n2 c2 ?_ hu2).mono ?_; exact hHeld.2
    rintro e w3 ⟨A3, n3, c3, rfl, hu3, hb3⟩
    go_wp2_with fail
    refine hKK.out _ _ (⟨hHeld.1.keep hb3, hHeld.2.trans (hb3.mono hHeld.2.size)⟩) (fun _ => ?_)
    clear hKK KK hHeld; rename_i hHeld
    try simp only [Act.put, lay]
    refine tk 7 ?_
    try simp only [Act.put, lay]
    refine wpAnyH_done (by kernel_rfl) ?_ _
    have LB3 := Lib.hid hHeld.2
    have LG0_3 := Lib.hid hHeld.1
    have HU3 := Lib.hid hu3
    have hn3 := hu3.len_le HAK.out
    clear hHeld hu1 hu2 hu3 hb1 hb2 hb3 HSM PT TT LB0 LG0_0
    obtain ⟨la, hla⟩ : ∃ x, blen a = x := ⟨_, rfl⟩
    obtain ⟨lp, hlp⟩ : ∃ x, blen p = x := ⟨_, rfl⟩
    have H1 := Lib.hid (len_v A3 n3 c3 w3 HU3.out)
    have H2 := Lib.hid (len_v A n c w3 (HU.out.below LB3.out))
    rw [hla] at H1 PA PB ba
    rw [hlp] at H2 PA PB bp
    clear hla hlp
    obtain ⟨q0_0, q0_1, q0_2⟩ := LG0_3.out.c3
    by_cases ho : (lp : Int) + 1 < (la : Int) + (-1074)
    · have hr := PA.out ho
      clear PA PB HR
      go_wp2_with fail
      refine H1.out.mono ?_
      rintro e w4 ⟨rfl, rfl⟩
      go_wp2_with fail
      refine H2.out.mono ?_
      rintro e w4 ⟨rfl, rfl⟩
      have HRR := Lib.hid hr
      clear hr
      go_wp2
      go_ret
      exact ⟨ret_int HRR.out.symm, LB3.out⟩
    · by_cases hu : (la : Int) + (-1074) < (lp : Int) - 1
      · have hr := PB.out hu
        clear PA PB HR
        go_wp2_with fail
        refine H1.out.mono ?_
        rintro e w4 ⟨rfl, rfl⟩
        go_wp2_with fail
        refine H2.out.mono ?_
        rintro e w4 ⟨rfl, rfl⟩
        go_wp2_with fail
        refine H1.out.mono ?_
        rintro e w4 ⟨rfl, rfl⟩
        go_wp2_with fail
        refine H2.out.mono ?_
        rintro e w4 ⟨rfl, rfl⟩
        have HRR := Lib.hid hr
        clear hr
        go_wp2
        go_ret
        exact ⟨ret_int HRR.out.symm, LB3.out⟩
      · clear PA PB
        go_wp2_with fail
        refine H1.out.mono ?_
        rintro e w4 ⟨rfl, rfl⟩
        go_wp2_with fail
        refine H2.out.mono ?_
        rintro e w4 ⟨rfl, rfl⟩
        go_wp2_with fail
        refine H1.out.mono ?_
        rintro e w4 ⟨rfl, rfl⟩
        go_wp2_with fail
        refine H2.out.mono ?_
        rintro e w4 ⟨rfl, rfl⟩
        clear H1 H2
        obtain ⟨g, hg⟩ : ∃ g : Nat, g = 1074 := ⟨_, rfl⟩
        have hr := HR.out
        rw [show ((-1074) : Int).toNat = 0 from by omega, show (-(-1074) : Int).toNat = g from by omega, Nat.pow_zero, Nat.mul_one] at hr
        have HLL := Lib.hid (left_v (v := p) A n c g w3 (HU.out.below LB3.out) (by omega) (by omega))
        rw [show ((g : Nat) : Int) = 1074 from by omega] at HLL
        clear hg
        have HRR := Lib.hid hr
        clear hr HR
        go_wp2_with fail
        refine HLL.out.mono ?_
        rintro e w5 ⟨A5, n5, c5, rfl, hu5, hb5⟩
        have HC := Lib.hid (cmp_v A3 A5 n3 c3 n5 c5 w5 (HU3.out.below hb5) hu5)
        have LB5 := stB LB3 hb5 LB3.out.size
        rw [HRR.out] at HC
        clear hb5 hu5 HLL
        go_wp2_with fail
        refine HC.out.mono ?_
        rintro e w6 ⟨rfl, kk, rfl⟩
        go_wp2
        go_ret
        exact ⟨rfl, below_drewN LB5.out kk⟩
end Go.Proofs.YthlmlmfebpjgdaaGreatDoor

namespace Go.Proofs.YthlmlmfebpjgdaaGreatDoor
open Go.RowKit
end Go.Proofs.YthlmlmfebpjgdaaGreatDoor

namespace Go.Proofs.YthlmlmfebpjgdaaGreatDoor
open Go.RowKit
theorem pat_ne_max {i : Int} (h0 : -(M : Int) ≤ i) (h1 : i < M) : ((pat i : Int) == 9218868437227405312) = false := by
  rw [beq_eq_false_iff_ne]
  intro h
  have := pat_inj h0 (by omega) (show -(M : Int) ≤ (M : Int) by rw [M_val]; omega) (Int.le_refl _) (by rw [pat_max]; omega)
  omega
theorem of_none (x y : Nat) (w : World) (hx : x < 18446744073709551616) (hy : y < 18446744073709551616) (h : snd x y = false) :
    Calls Tryz.prog 83 #[.agg #[.int .u64 (x : Int), .int .u64 (y : Int)]] w (NewSet w 1 true 0 0 0 0) := by
  have h1 : rd x y = ((M : Int), -(M : Int)) := by unfold rd; rw [h]; rfl
  have HR := Lib.hid fun W => read6 x y W hx hy
  rw [h1] at HR
  simp only [pat_max, pat_min] at HR
  have HE := Lib.hid empty6
  have HF := Lib.hid fun W => finite_nat 0 W (by omega)
  clear h h1
  obtain ⟨LB0, LG0_0, LR⟩ := bx2 w #[.int .u64 (x : Int), .int .u64 (y : Int)] 24 #[.bool false, .int .i64 0, .bool false, .slice none 0 0, .slice none 0 0, .int .i64 0, .bool false, .slice none 0 0, .slice none 0 0] 89
  have LR0 := Lib.hid (HasBlk.of (n := 9) LR.out rfl rfl)
  clear LR
  go_enter Tryz.func83, Tryz.ntmps83
  go_wp2_with fail
  refine (HR.out _).mono ?_
  rintro e w1 ⟨rfl, hb1⟩
  have LB1 := stB LB0 hb1 LB0.out.size
  have LR1 := stR LR0 hb1
  have LG0_1 := stG LG0_0 hb1
  clear LB0 LR0 LG0_0
  have hlt2 := LR1.out.lt
  have LB2 := Lib.hid (LB1.out.alloc LB1.out.size (.cells #[.int .u64 9218868437227405312, .int .u64 18442240474082181120] 24))
  have LR2 := Lib.hid (LR1.out.alloc (.cells #[.int .u64 9218868437227405312, .int .u64 18442240474082181120] 24))
  have LG0_2 := Lib.hid (LG0_1.out.alloc (.cells #[.int .u64 9218868437227405312, .int .u64 18442240474082181120] 24))
  have LG1_2 := Lib.hid (Blk.new w1 24 #[.int .u64 9218868437227405312, .int .u64 18442240474082181120])
  clear LB1 LR1 LG0_1
  go_wp2_with fail
  refine wp_region_held_drew (S := fun W' => Blk W' w.heap.size 24 #[.int .u64 (x : Int), .int .u64 (y : Int)] ∧ Blk W' w1.heap.size 24 #[.int .u64 9218868437227405312, .int .u64 18442240474082181120] ∧ HasBlk W' (w.heap.size + 1) 89 9 ∧ Below w.heap.size w W') (by kernel_rfl) (by exact ⟨LG0_2.out.drew, LG1_2.out.drew, LR2.out.drew, LB2.out.drew⟩) (fun hHeld => ?_)
  refine tk 0 ?_ (hv := by intro W2 hSw; obtain ⟨q0, q1⟩ := hSw.2.1.c2; go_simp; (try with_reducible rfl))
  try simp only [Act.put, lay]
  refine rdy 1 (fun KK hKK => ?_)
  go_simp
  refine (HE.out _).mono ?_
  rintro e w2 ⟨rfl, hb2⟩
  go_wp2_with fail
  refine hKK.out _ _ (⟨hHeld.1.keep hb2, hHeld.2.1.keep hb2, hHeld.2.2.1.keep hb2, hHeld.2.2.2.trans (hb2.mono hHeld.2.2.2.size)⟩) (fun _ => ?_)
  clear hKK KK hHeld; rename_i hHeld
  try simp only [Act.put, lay]
  refine tk 2 ?_
  try simp only [Act.put, lay]
  refine wpAnyH_done (by kernel_rfl) ?_ _
  have LB3 := Lib.hid hHeld.2.2.2
  have LR3 := Lib.hid hHeld.2.2.1
  have LG0_3 := Lib.hid hHeld.1
  have LG1_3 := Lib.hid hHeld.2.1
  clear hHeld LB2 LR2 LG0_2 LG1_2
  go_wp2_with fail
  refine (HF.out _).mono ?_
  rintro e w3 ⟨g1, A1, n1, c1, B1, m1, d1, rfl, h1, hb1⟩
  have LB4 := stB LB3 hb1 LB3.out.size
  have LR4 := stR LR3 hb1
  have LG0_4 := stG LG0_3 hb1
  have LG1_4 := stG LG1_3 hb1
  clear LB3 LR3 LG0_3 LG1_3
  go_wp2_with fail
  refine (HF.out _).mono ?_
  rintro e w4 ⟨g2, A2, n2, c2, B2, m2, d2, rfl, h2, hb2⟩
  have LB5 := stB LB4 hb2 LB4.out.size
  have LR5 := stR LR4 hb2
  have LG0_5 := stG LG0_4 hb2
  have LG1_5 := stG LG1_4 hb2
  clear LB4 LR4 LG0_4 LG1_4
  obtain ⟨ha0, hf0, ha1, hf1, ha2, hf2, ha3, hf3, ha4, hf4, ha5, hf5, ha6, hf6, ha7, hf7, ha8, hf8⟩ := LR5.out.sf9
  obtain ⟨hk0, hk1, hk2, hk3, hk4, hk5, hk6, hk7, hk8⟩ := LR5.out.sc9 (.bool true) (.int .i64 0) (.bool g1) (.slice A1 n1 c1) (.slice B1 m1 d1) (.int .i64 0) (.bool g2) (.slice A2 n2 c2) (.slice B2 m2 d2)
  have F := Lib.hid (below_sets (w0 := w) (r := (w.heap.size + 1)) (by omega) [.bool true, .int .i64 0, .bool g1, .slice A1 n1 c1, .slice B1 m1 d1, .int .i64 0, .bool g2, .slice A2 n2 c2, .slice B2 m2 d2] 0 _ LB5.out)
  simp [sets] at hk0 hk1 hk2 hk3 hk4 hk5 hk6 hk7 hk8
  have FR1 := Lib.hid (LR5.out.rat (h1.below hb2) [.bool true, .int .i64 0, .bool g1, .slice A1 n1 c1, .slice B1 m1 d1, .int .i64 0, .bool g2, .slice A2 n2 c2, .slice B2 m2 d2])
  have FR2 := Lib.hid (LR5.out.rat h2 [.bool true, .int .i64 0, .bool g1, .slice A1 n1 c1, .slice B1 m1 d1, .int .i64 0, .bool g2, .slice A2 n2 c2, .slice B2 m2 d2])
  clear hb1 hb2 h1 h2 LR5 LB5 LG0_5 LG1_5
  go_wp2
  refine bodyPost_ret (v := .agg #[.bool true, .int .i64 0, .bool g1, .slice A1 n1 c1, .slice B1 m1 d1, .int .i64 0, .bool g2, .slice A2 n2 c2, .slice B2 m2 d2]) (by simp [results, Tryz.results83, go_sem, hk0, hk1, hk2, hk3, hk4, hk5, hk6, hk7, hk8]) rfl ?_
  exact ⟨_, _, _, _, _, _, _, _, _, _, _, _, _, _, rfl, FR1.out, FR2.out, F.out⟩
theorem of_full (x y : Nat) (w : World) (hx : x < 18446744073709551616) (hy : y < 18446744073709551616) (h : snd x y = true) :
    Calls Tryz.prog 83 #[.agg #[.int .u64 (x : Int), .int .u64 (y : Int)]] w (NewSet w 34 false (es (idx x)) (ex (idx x)) (es (idx y)) (ex (idx y))) := by
  have h1 : rd x y = (idx x, idx y) := by unfold rd; rw [h]; rfl
  have hd := of_decide_eq_true h
  have hi := idx_bounds hd.1
  have hj := idx_bounds hd.2.1
  have HR := Lib.hid fun W => read6 x y W hx hy
  rw [h1] at HR
  have H1 := Lib.hid fun W => bound_raw (pat (idx x)) W (pat_lt hi.1 hi.2) (by rw [rung_pat hi.1 hi.2]; omega)
  have H2 := Lib.hid fun W => bound_raw (pat (idx y)) W (pat_lt hj.1 hj.2) (by rw [rung_pat hj.1 hj.2]; omega)
  rw [idx_pat hi.1 hi.2] at H1
  rw [idx_pat hj.1 hj.2] at H2
  have hp := pat_ne_max hi.1 hd.2.2.2.1
  dsimp only at HR
  obtain ⟨p, hpp⟩ : ∃ p, pat (idx x) = p := ⟨_, rfl⟩
  obtain ⟨q, hqq⟩ : ∃ q, pat (idx y) = q := ⟨_, rfl⟩
  obtain ⟨s1, e1⟩ : ∃ s, es (idx x) = s := ⟨_, rfl⟩
  obtain ⟨x1, e2⟩ : ∃ s, ex (idx x) = s := ⟨_, rfl⟩
  obtain ⟨s2, e3⟩ : ∃ s, es (idx y) = s := ⟨_, rfl⟩
  obtain ⟨x2, e4⟩ : ∃ s, ex (idx y) = s := ⟨_, rfl⟩
  rw [hpp] at HR H1 hp
  rw [hqq] at HR H2
  rw [e1, e2] at H1 ⊢
  rw [e3, e4] at H2 ⊢
  have HE := Lib.hid empty6
  clear h h1 hd hi hj hpp hqq e1 e2 e3 e4
  obtain ⟨LB0, LG0_0, LR⟩ := bx2 w #[.int .u64 (x : Int), .int .u64 (y : Int)] 24 #[.bool false, .int .i64 0, .bool false, .slice none 0 0, .slice none 0 0, .int .i64 0, .bool false, .slice none 0 0, .slice none 0 0] 89
  have LR0 := Lib.hid (HasBlk.of (n := 9) LR.out rfl rfl)
  clear LR
  go_enter Tryz.func83, Tryz.ntmps83
  go_wp2_with fail
  refine (HR.out _).mono ?_
  rintro e w1 ⟨rfl, hb1⟩
  have LB1 := stB LB0 hb1 LB0.out.size
  have LR1 := stR LR0 hb1
  have LG0_1 := stG LG0_0 hb1
  clear LB0 LR0 LG0_0
  have hlt2 := LR1.out.lt
  have LB2 := Lib.hid (LB1.out.alloc LB1.out.size (.cells #[.int .u64 (p : Int), .int .u64 (q : Int)] 24))
  have LR2 := Lib.hid (LR1.out.alloc (.cells #[.int .u64 (p : Int), .int .u64 (q : Int)] 24))
  have LG0_2 := Lib.hid (LG0_1.out.alloc (.cells #[.int .u64 (p : Int), .int .u64 (q : Int)] 24))
  have LG1_2 := Lib.hid (Blk.new w1 24 #[.int .u64 (p : Int), .int .u64 (q : Int)])
  clear LB1 LR1 LG0_1
  go_wp2_with fail
  refine wp_region_held_drew (S := fun W' => Blk W' w.heap.size 24 #[.int .u64 (x : Int), .int .u64 (y : Int)] ∧ Blk W' w1.heap.size 24 #[.int .u64 (p : Int), .int .u64 (q : Int)] ∧ HasBlk W' (w.heap.size + 1) 89 9 ∧ Below w.heap.size w W') (by kernel_rfl) (by exact ⟨LG0_2.out.drew, LG1_2.out.drew, LR2.out.drew, LB2.out.drew⟩) (fun hHeld => ?_)
  refine tk 0 ?_ (hv := by intro W2 hSw; obtain ⟨q0, q1⟩ := hSw.2.1.c2; go_simp; (try with_reducible rfl))
  try simp only [Act.put, lay]
  refine rdy 1 (fun KK hKK => ?_)
  go_simp
  refine (HE.out _).mono ?_
  rintro e w2 ⟨rfl, hb2⟩
  go_wp2_with fail
  refine hKK.out _ _ (⟨hHeld.1.keep hb2, hHeld.2.1.keep hb2, hHeld.2.2.1.keep hb2, hHeld.2.2.2.trans (hb2.mono hHeld.2.2.2.size)⟩) (fun _ => ?_)
  clear hKK KK hHeld; rename_i hHeld
  try simp only [Act.put, lay]
  refine tk 2 ?_
  try simp only [Act.put, lay]
  refine wpAnyH_done (by kernel_rfl) ?_ _
  have LB3 := Lib.hid hHeld.2.2.2
  have LR3 := Lib.hid hHeld.2.2.1
  have LG0_3 := Lib.hid hHeld.1
  have LG1_3 := Lib.hid hHeld.2.1
  clear hHeld LB2 LR2 LG0_2 LG1_2
  go_wp2_with fail
  refine wp_region_held_drew (S := fun W' => Blk W' w.heap.size 24 #[.int .u64 (x : Int), .int .u64 (y : Int)] ∧ Blk W' w1.heap.size 24 #[.int .u64 (p : Int), .int .u64 (q : Int)] ∧ HasBlk W' (w.heap.size + 1) 89 9 ∧ Below w.heap.size w W') (by kernel_rfl) (by exact ⟨LG0_3.out.drew, LG1_3.out.drew, LR3.out.drew, LB3.out.drew⟩) (fun hHeld => ?_)
  refine tk 0 ?_
  try simp only [Act.put, lay]
  refine tk 1 ?_ (hv := by intro W2 hSw; obtain ⟨q0, q1⟩ := hSw.2.1.c2; go_simp; (try with_reducible rfl))
  try simp only [Act.put, lay]
  refine tk 3 ?_
  try simp only [Act.put, lay]
  refine tk 4 ?_ (hv := by intro W2 hSw; obtain ⟨q0, q1⟩ := hSw.2.1.c2; go_simp; (try with_reducible rfl))
  try simp only [Act.put, lay]
  refine rdy 2 (fun KK hKK => ?_)
  go_simp
  refine (H1.out _).mono ?_
  rintro e w3 ⟨g1, A1, n1, c1, B1, m1, d1, rfl, h1, hb1⟩
  go_wp2_with fail
  refine hKK.out _ _ (⟨hHeld.1.keep hb1, hHeld.2.1.keep hb1, hHeld.2.2.1.keep hb1, hHeld.2.2.2.trans (hb1.mono hHeld.2.2.2.size)⟩) (fun _ => ?_)
  clear hKK KK hHeld; rename_i hHeld
  try simp only [Act.put, lay]
  refine rdy 5 (fun KK hKK => ?_)
  go_simp
  refine (H2.out _).mono ?_
  rintro e w4 ⟨g2, A2, n2, c2, B2, m2, d2, rfl, h2, hb2⟩
  go_wp2_with fail
  refine hKK.out _ _ (⟨hHeld.1.keep hb2, hHeld.2.1.keep hb2, hHeld.2.2.1.keep hb2, hHeld.2.2.2.trans (hb2.mono hHeld.2.2.2.size)⟩) (fun _ => ?_)
  clear hKK KK hHeld; rename_i hHeld
  try simp only [Act.put, lay]
  refine tk 6 ?_
  try simp only [Act.put, lay]
  refine rdy 7 (fun KK hKK => ?_)
  have ha0 := hHeld.2.2.1.someCell 0 (by decide); have hf0 := hHeld.2.2.1.frozen 0; have ha1 := hHeld.2.2.1.someCell 1 (by decide); have hf1 := hHeld.2.2.1.frozen 1; have ha2 := hHeld.2.2.1.someCell 2 (by decide); have hf2 := hHeld.2.2.1.frozen 2; have ha3 := hHeld.2.2.1.someCell 3 (by decide); have hf3 := hHeld.2.2.1.frozen 3; have ha4 := hHeld.2.2.1.someCell 4 (by decide); have hf4 := hHeld.2.2.1.frozen 4; have ha5 := hHeld.2.2.1.someCell 5 (by decide); have hf5 := hHeld.2.2.1.frozen 5; have ha6 := hHeld.2.2.1.someCell 6 (by decide); have hf6 := hHeld.2.2.1.frozen 6; have ha7 := hHeld.2.2.1.someCell 7 (by decide); have hf7 := hHeld.2.2.1.frozen 7; have ha8 := hHeld.2.2.1.someCell 8 (by decide); have hf8 := hHeld.2.2.1.frozen 8; have HK := Lib.hid (hHeld.2.2.1.setCell [.bool false, .int .i64 s1, .bool g1, .slice A1 n1 c1, .slice B1 m1 d1, .int .i64 s2, .bool g2, .slice A2 n2 c2, .slice B2 m2 d2] rfl); have F := Lib.hid (below_sets (w0 := w) (r := (w.heap.size + 1)) (by omega) [.bool false, .int .i64 s1, .bool g1, .slice A1 n1 c1, .slice B1 m1 d1, .int .i64 s2, .bool g2, .slice A2 n2 c2, .slice B2 m2 d2] 0 _ hHeld.2.2.2); have FR1 := Lib.hid (hHeld.2.2.1.rat (h1.below hb2) [.bool false, .int .i64 s1, .bool g1, .slice A1 n1 c1, .slice B1 m1 d1, .int .i64 s2, .bool g2, .slice A2 n2 c2, .slice B2 m2 d2]); have FR2 := Lib.hid (hHeld.2.2.1.rat h2 [.bool false, .int .i64 s1, .bool g1, .slice A1 n1 c1, .slice B1 m1 d1, .int .i64 s2, .bool g2, .slice A2 n2 c2, .slice B2 m2 d2])
  go_simp
  refine hKK.out _ _ (⟨hHeld.1.other (by omega) 0 [.bool false, .int .i64 s1, .bool g1, .slice A1 n1 c1, .slice B1 m1 d1, .int .i64 s2, .bool g2, .slice A2 n2 c2, .slice B2 m2 d2], hHeld.2.1.other (by omega) 0 [.bool false, .int .i64 s1, .bool g1, .slice A1 n1 c1, .slice B1 m1 d1, .int .i64 s2, .bool g2, .slice A2 n2 c2, .slice B2 m2 d2], hHeld.2.2.1.sets [.bool false, .int .i64 s1, .bool g1, .slice A1 n1 c1, .slice B1 m1 d1, .int .i64 s2, .bool g2, .slice A2 n2 c2, .slice B2 m2 d2] rfl rfl, below_sets (by omega) [.bool false, .int .i64 s1, .bool g1, .slice A1 n1 c1, .slice B1 m1 d1, .int .i64 s2, .bool g2, .slice A2 n2 c2, .slice B2 m2 d2] 0 _ hHeld.2.2.2⟩) (fun _ => ?_)
  clear hKK KK hHeld; rename_i hHeld
  try simp only [Act.put, lay]
  refine wpAnyH_done (by kernel_rfl) ?_ _
  have hk0 := HK.out 0 (by decide)
  have hk1 := HK.out 1 (by decide)
  have hk2 := HK.out 2 (by decide)
  have hk3 := HK.out 3 (by decide)
  have hk4 := HK.out 4 (by decide)
  have hk5 := HK.out 5 (by decide)
  have hk6 := HK.out 6 (by decide)
  have hk7 := HK.out 7 (by decide)
  have hk8 := HK.out 8 (by decide)
  simp [sets] at hk0 hk1 hk2 hk3 hk4 hk5 hk6 hk7 hk8
  clear hHeld HK
  go_wp2
  refine bodyPost_ret (v := .agg #[.bool false, .int .i64 s1, .bool g1, .slice A1 n1 c1, .slice B1 m1 d1, .int .i64 s2, .bool g2, .slice A2 n2 c2, .slice B2 m2 d2]) (by simp [results, Tryz.results83, go_sem, hk0, hk1, hk2, hk3, hk4, hk5, hk6, hk7, hk8]) rfl ?_
  exact ⟨_, _, _, _, _, _, _, _, _, _, _, _, _, _, rfl, FR1.out, FR2.out, F.out⟩
end Go.Proofs.YthlmlmfebpjgdaaGreatDoor

namespace Go.Proofs.YthlmlmfebpjgdaaGreatDoor
open Go.RowKit
theorem hull_left (K : Nat) (o : Bool) (s1 : Int) (g1 : Bool) (A1 : Option Addr) (n1 c1 : Nat) (B1 : Option Addr) (m1 d1 : Nat) (x1 : Rat) (s2 : Int) (g2 : Bool) (A2 : Option Addr) (n2 c2 : Nat) (B2 : Option Addr) (m2 d2 : Nat) (x2 : Rat) (s3 : Int) (g3 : Bool) (A3 : Option Addr) (n3 c3 : Nat) (B3 : Option Addr) (m3 d3 : Nat) (x3 : Rat) (s4 : Int) (g4 : Bool) (A4 : Option Addr) (n4 c4 : Nat) (B4 : Option Addr) (m4 d4 : Nat) (x4 : Rat) (w : World) (h1 : RatV w K g1 (.slice A1 n1 c1) (.slice B1 m1 d1) x1) (h2 : RatV w K g2 (.slice A2 n2 c2) (.slice B2 m2 d2) x2) (h3 : RatV w K g3 (.slice A3 n3 c3) (.slice B3 m3 d3) x3) (h4 : RatV w K g4 (.slice A4 n4 c4) (.slice B4 m4 d4) x4) :
    Calls Tryz.prog 146 #[.agg #[.bool true, .int .i64 s1, .bool g1, .slice A1 n1 c1, .slice B1 m1 d1, .int .i64 s2, .bool g2, .slice A2 n2 c2, .slice B2 m2 d2], .agg #[.bool o, .int .i64 s3, .bool g3, .slice A3 n3 c3, .slice B3 m3 d3, .int .i64 s4, .bool g4, .slice A4 n4 c4, .slice B4 m4 d4]] w (NewSet w K o s3 x3 s4 x4) := by
  have H1 := Lib.hid h3
  have H2 := Lib.hid h4
  clear h1 h2 h3 h4
  obtain ⟨LB0, LG0_0, LG1_0, LR⟩ := bx3 w #[.bool true, .int .i64 s1, .bool g1, .slice A1 n1 c1, .slice B1 m1 d1, .int .i64 s2, .bool g2, .slice A2 n2 c2, .slice B2 m2 d2] 89 #[.bool o, .int .i64 s3, .bool g3, .slice A3 n3 c3, .slice B3 m3 d3, .int .i64 s4, .bool g4, .slice A4 n4 c4, .slice B4 m4 d4] 89 #[.bool false, .int .i64 0, .bool false, .slice none 0 0, .slice none 0 0, .int .i64 0, .bool false, .slice none 0 0, .slice none 0 0] 89
  have LR0 := Lib.hid (HasBlk.of (n := 9) LR.out rfl rfl)
  clear LR
  clear LB0 LG0_0 LG1_0 LR0
  go_enter Tryz.func146, Tryz.ntmps146
  go_wp2
  refine bodyPost_ret (v := .agg #[.bool o, .int .i64 s3, .bool g3, .slice A3 n3 c3, .slice B3 m3 d3, .int .i64 s4, .bool g4, .slice A4 n4 c4, .slice B4 m4 d4]) (by simp [results, Tryz.results146, go_sem]) rfl ?_
  exact have b := (((below_alloc w _).alloc (by simp <;> omega) _).alloc (by simp <;> omega) _); ⟨_, _, _, _, _, _, _, _, _, _, _, _, _, _, rfl, H1.out.below b, H2.out.below b, b⟩
theorem hull_right (K : Nat) (s1 : Int) (g1 : Bool) (A1 : Option Addr) (n1 c1 : Nat) (B1 : Option Addr) (m1 d1 : Nat) (x1 : Rat) (s2 : Int) (g2 : Bool) (A2 : Option Addr) (n2 c2 : Nat) (B2 : Option Addr) (m2 d2 : Nat) (x2 : Rat) (s3 : Int) (g3 : Bool) (A3 : Option Addr) (n3 c3 : Nat) (B3 : Option Addr) (m3 d3 : Nat) (x3 : Rat) (s4 : Int) (g4 : Bool) (A4 : Option Addr) (n4 c4 : Nat) (B4 : Option Addr) (m4 d4 : Nat) (x4 : Rat) (w : World) (h1 : RatV w K g1 (.slice A1 n1 c1) (.slice B1 m1 d1) x1) (h2 : RatV w K g2 (.slice A2 n2 c2) (.slice B2 m2 d2) x2) (h3 : RatV w K g3 (.slice A3 n3 c3) (.slice B3 m3 d3) x3) (h4 : RatV w K g4 (.slice A4 n4 c4) (.slice B4 m4 d4) x4) :
    Calls Tryz.prog 146 #[.agg #[.bool false, .int .i64 s1, .bool g1, .slice A1 n1 c1, .slice B1 m1 d1, .int .i64 s2, .bool g2, .slice A2 n2 c2, .slice B2 m2 d2], .agg #[.bool true, .int .i64 s3, .bool g3, .slice A3 n3 c3, .slice B3 m3 d3, .int .i64 s4, .bool g4, .slice A4 n4 c4, .slice B4 m4 d4]] w (NewSet w K false s1 x1 s2 x2) := by
  have H1 := Lib.hid h1
  have H2 := Lib.hid h2
  clear h1 h2 h3 h4
  obtain ⟨LB0, LG0_0, LG1_0, LR⟩ := bx3 w #[.bool false, .int .i64 s1, .bool g1, .slice A1 n1 c1, .slice B1 m1 d1, .int .i64 s2, .bool g2, .slice A2 n2 c2, .slice B2 m2 d2] 89 #[.bool true, .int .i64 s3, .bool g3, .slice A3 n3 c3, .slice B3 m3 d3, .int .i64 s4, .bool g4, .slice A4 n4 c4, .slice B4 m4 d4] 89 #[.bool false, .int .i64 0, .bool false, .slice none 0 0, .slice none 0 0, .int .i64 0, .bool false, .slice none 0 0, .slice none 0 0] 89
  have LR0 := Lib.hid (HasBlk.of (n := 9) LR.out rfl rfl)
  clear LR
  clear LB0 LG0_0 LG1_0 LR0
  go_enter Tryz.func146, Tryz.ntmps146
  go_wp2
  refine bodyPost_ret (v := .agg #[.bool false, .int .i64 s1, .bool g1, .slice A1 n1 c1, .slice B1 m1 d1, .int .i64 s2, .bool g2, .slice A2 n2 c2, .slice B2 m2 d2]) (by simp [results, Tryz.results146, go_sem]) rfl ?_
  exact have b := (((below_alloc w _).alloc (by simp <;> omega) _).alloc (by simp <;> omega) _); ⟨_, _, _, _, _, _, _, _, _, _, _, _, _, _, rfl, H1.out.below b, H2.out.below b, b⟩
theorem hull_both (K : Nat) (s1 : Int) (g1 : Bool) (A1 : Option Addr) (n1 c1 : Nat) (B1 : Option Addr) (m1 d1 : Nat) (x1 : Rat) (s2 : Int) (g2 : Bool) (A2 : Option Addr) (n2 c2 : Nat) (B2 : Option Addr) (m2 d2 : Nat) (x2 : Rat) (s3 : Int) (g3 : Bool) (A3 : Option Addr) (n3 c3 : Nat) (B3 : Option Addr) (m3 d3 : Nat) (x3 : Rat) (s4 : Int) (g4 : Bool) (A4 : Option Addr) (n4 c4 : Nat) (B4 : Option Addr) (m4 d4 : Nat) (x4 : Rat) (w : World) (h1 : RatV w K g1 (.slice A1 n1 c1) (.slice B1 m1 d1) x1) (h2 : RatV w K g2 (.slice A2 n2 c2) (.slice B2 m2 d2) x2) (h3 : RatV w K g3 (.slice A3 n3 c3) (.slice B3 m3 d3) x3) (h4 : RatV w K g4 (.slice A4 n4 c4) (.slice B4 m4 d4) x4) (hK : K ≤ 1073741824) :
    Calls Tryz.prog 146 #[.agg #[.bool false, .int .i64 s1, .bool g1, .slice A1 n1 c1, .slice B1 m1 d1, .int .i64 s2, .bool g2, .slice A2 n2 c2, .slice B2 m2 d2], .agg #[.bool false, .int .i64 s3, .bool g3, .slice A3 n3 c3, .slice B3 m3 d3, .int .i64 s4, .bool g4, .slice A4 n4 c4, .slice B4 m4 d4]] w
      (NewSet w K false (if ec s3 x3 s1 x1 < 0 then s3 else s1) (if ec s3 x3 s1 x1 < 0 then x3 else x1) (if 0 < ec s4 x4 s2 x2 then s4 else s2) (if 0 < ec s4 x4 s2 x2 then x4 else x2)) := by
  have T1 := Lib.hid fun W (hW : Below w.heap.size w W) => lesser_any K s1 g1 A1 n1 c1 B1 m1 d1 x1 s3 g3 A3 n3 c3 B3 m3 d3 x3 W (h1.below hW) (h3.below hW) hK
  have T2 := Lib.hid fun W (hW : Below w.heap.size w W) => greater_any K s2 g2 A2 n2 c2 B2 m2 d2 x2 s4 g4 A4 n4 c4 B4 m4 d4 x4 W (h2.below hW) (h4.below hW) hK
  obtain ⟨s5, e1⟩ : ∃ s, (if ec s3 x3 s1 x1 < 0 then s3 else s1) = s := ⟨_, rfl⟩
  obtain ⟨x5, e2⟩ : ∃ s, (if ec s3 x3 s1 x1 < 0 then x3 else x1) = s := ⟨_, rfl⟩
  obtain ⟨s6, e3⟩ : ∃ s, (if 0 < ec s4 x4 s2 x2 then s4 else s2) = s := ⟨_, rfl⟩
  obtain ⟨x6, e4⟩ : ∃ s, (if 0 < ec s4 x4 s2 x2 then x4 else x2) = s := ⟨_, rfl⟩
  rw [e1, e2] at T1 ⊢
  rw [e3, e4] at T2 ⊢
  clear h1 h2 h3 h4 e1 e2 e3 e4
  obtain ⟨LB0, LG0_0, LG1_0, LR⟩ := bx3 w #[.bool false, .int .i64 s1, .bool g1, .slice A1 n1 c1, .slice B1 m1 d1, .int .i64 s2, .bool g2, .slice A2 n2 c2, .slice B2 m2 d2] 89 #[.bool false, .int .i64 s3, .bool g3, .slice A3 n3 c3, .slice B3 m3 d3, .int .i64 s4, .bool g4, .slice A4 n4 c4, .slice B4 m4 d4] 89 #[.bool false, .int .i64 0, .bool false, .slice none 0 0, .slice none 0 0, .int .i64 0, .bool false, .slice none 0 0, .slice none 0 0] 89
  have LR0 := Lib.hid (HasBlk.of (n := 9) LR.out rfl rfl)
  clear LR
  go_enter Tryz.func146, Tryz.ntmps146
  go_wp2_with fail
  refine wp_region_held_drew (S := fun W' => Blk W' w.heap.size 89 #[.bool false, .int .i64 s1, .bool g1, .slice A1 n1 c1, .slice B1 m1 d1, .int .i64 s2, .bool g2, .slice A2 n2 c2, .slice B2 m2 d2] ∧ Blk W' (w.heap.size + 1) 89 #[.bool false, .int .i64 s3, .bool g3, .slice A3 n3 c3, .slice B3 m3 d3, .int .i64 s4, .bool g4, .slice A4 n4 c4, .slice B4 m4 d4] ∧ HasBlk W' (w.heap.size + 2) 89 9 ∧ Below w.heap.size w W') (by kernel_rfl) (by exact ⟨LG0_0.out.drew, LG1_0.out.drew, LR0.out.drew, LB0.out.drew⟩) (fun hHeld => ?_)
  refine tk 0 ?_
  try simp only [Act.put, lay]
  refine tk 1 ?_ (hv := by intro W2 hSw; obtain ⟨q0, q1, q2, q3, q4, q5, q6, q7, q8⟩ := hSw.1.c9; go_simp; (try with_reducible rfl))
  try simp only [Act.put, lay]
  refine tk 2 ?_
  try simp only [Act.put, lay]
  refine tk 3 ?_ (hv := by intro W2 hSw; obtain ⟨q0, q1, q2, q3, q4, q5, q6, q7, q8⟩ := hSw.2.1.c9; go_simp; (try with_reducible rfl))
  try simp only [Act.put, lay]
  refine tk 5 ?_
  try simp only [Act.put, lay]
  refine tk 6 ?_ (hv := by intro W2 hSw; obtain ⟨q0, q1, q2, q3, q4, q5, q6, q7, q8⟩ := hSw.1.c9; go_simp; (try with_reducible rfl))
  try simp only [Act.put, lay]
  refine tk 7 ?_
  try simp only [Act.put, lay]
  refine tk 8 ?_ (hv := by intro W2 hSw; obtain ⟨q0, q1, q2, q3, q4, q5, q6, q7, q8⟩ := hSw.2.1.c9; go_simp; (try with_reducible rfl))
  try simp only [Act.put, lay]
  refine rdy 4 (fun KK hKK => ?_)
  go_simp
  refine (T1.out _ ?_).mono ?_; exact hHeld.2.2.2
  rintro e w5 ⟨g5, A5, n5, c5, B5, m5, d5, rfl, h5, hb5⟩
  go_wp2_with fail
  refine hKK.out _ _ (⟨hHeld.1.keep hb5, hHeld.2.1.keep hb5, hHeld.2.2.1.keep hb5, hHeld.2.2.2.trans (hb5.mono hHeld.2.2.2.size)⟩) (fun _ => ?_)
  clear hKK KK hHeld; rename_i hHeld
  try simp only [Act.put, lay]
  refine rdy 9 (fun KK hKK => ?_)
  go_simp
  refine (T2.out _ ?_).mono ?_; exact hHeld.2.2.2
  rintro e w6 ⟨g6, A6, n6, c6, B6, m6, d6, rfl, h6, hb6⟩
  go_wp2_with fail
  refine hKK.out _ _ (⟨hHeld.1.keep hb6, hHeld.2.1.keep hb6, hHeld.2.2.1.keep hb6, hHeld.2.2.2.trans (hb6.mono hHeld.2.2.2.size)⟩) (fun _ => ?_)
  clear hKK KK hHeld; rename_i hHeld
  try simp only [Act.put, lay]
  refine tk 10 ?_
  try simp only [Act.put, lay]
  refine rdy 11 (fun KK hKK => ?_)
  have ha0 := hHeld.2.2.1.someCell 0 (by decide); have hf0 := hHeld.2.2.1.frozen 0; have ha1 := hHeld.2.2.1.someCell 1 (by decide); have hf1 := hHeld.2.2.1.frozen 1; have ha2 := hHeld.2.2.1.someCell 2 (by decide); have hf2 := hHeld.2.2.1.frozen 2; have ha3 := hHeld.2.2.1.someCell 3 (by decide); have hf3 := hHeld.2.2.1.frozen 3; have ha4 := hHeld.2.2.1.someCell 4 (by decide); have hf4 := hHeld.2.2.1.frozen 4; have ha5 := hHeld.2.2.1.someCell 5 (by decide); have hf5 := hHeld.2.2.1.frozen 5; have ha6 := hHeld.2.2.1.someCell 6 (by decide); have hf6 := hHeld.2.2.1.frozen 6; have ha7 := hHeld.2.2.1.someCell 7 (by decide); have hf7 := hHeld.2.2.1.frozen 7; have ha8 := hHeld.2.2.1.someCell 8 (by decide); have hf8 := hHeld.2.2.1.frozen 8; have HK := Lib.hid (hHeld.2.2.1.setCell [.bool false, .int .i64 s5, .bool g5, .slice A5 n5 c5, .slice B5 m5 d5, .int .i64 s6, .bool g6, .slice A6 n6 c6, .slice B6 m6 d6] rfl); have F := Lib.hid (below_sets (w0 := w) (r := (w.heap.size + 2)) (by omega) [.bool false, .int .i64 s5, .bool g5, .slice A5 n5 c5, .slice B5 m5 d5, .int .i64 s6, .bool g6, .slice A6 n6 c6, .slice B6 m6 d6] 0 _ hHeld.2.2.2); have FR1 := Lib.hid (hHeld.2.2.1.rat (h5.below hb6) [.bool false, .int .i64 s5, .bool g5, .slice A5 n5 c5, .slice B5 m5 d5, .int .i64 s6, .bool g6, .slice A6 n6 c6, .slice B6 m6 d6]); have FR2 := Lib.hid (hHeld.2.2.1.rat h6 [.bool false, .int .i64 s5, .bool g5, .slice A5 n5 c5, .slice B5 m5 d5, .int .i64 s6, .bool g6, .slice A6 n6 c6, .slice B6 m6 d6])
  go_simp
  refine hKK.out _ _ (⟨hHeld.1.other (by omega) 0 [.bool false, .int .i64 s5, .bool g5, .slice A5 n5 c5, .slice B5 m5 d5, .int .i64 s6, .bool g6, .slice A6 n6 c6, .slice B6 m6 d6], hHeld.2.1.other (by omega) 0 [.bool false, .int .i64 s5, .bool g5, .slice A5 n5 c5, .slice B5 m5 d5, .int .i64 s6, .bool g6, .slice A6 n6 c6, .slice B6 m6 d6], hHeld.2.2.1.sets [.bool false, .int .i64 s5, .bool g5, .slice A5 n5 c5, .slice B5 m5 d5, .int .i64 s6, .bool g6, .slice A6 n6 c6, .slice B6 m6 d6] rfl rfl, below_sets (by omega) [.bool false, .int .i64 s5, .bool g5, .slice A5 n5 c5, .slice B5 m5 d5, .int .i64 s6, .bool g6, .slice A6 n6 c6, .slice B6 m6 d6] 0 _ hHeld.2.2.2⟩) (fun _ => ?_)
  clear hKK KK hHeld; rename_i hHeld
  try simp only [Act.put, lay]
  refine wpAnyH_done (by kernel_rfl) ?_ _
  have hk0 := HK.out 0 (by decide)
  have hk1 := HK.out 1 (by decide)
  have hk2 := HK.out 2 (by decide)
  have hk3 := HK.out 3 (by decide)
  have hk4 := HK.out 4 (by decide)
  have hk5 := HK.out 5 (by decide)
  have hk6 := HK.out 6 (by decide)
  have hk7 := HK.out 7 (by decide)
  have hk8 := HK.out 8 (by decide)
  simp [sets] at hk0 hk1 hk2 hk3 hk4 hk5 hk6 hk7 hk8
  clear hHeld HK h5 hb5 h6 hb6
  clear LB0 LR0 LG0_0 LG1_0
  go_wp2
  refine bodyPost_ret (v := .agg #[.bool false, .int .i64 s5, .bool g5, .slice A5 n5 c5, .slice B5 m5 d5, .int .i64 s6, .bool g6, .slice A6 n6 c6, .slice B6 m6 d6]) (by simp [results, Tryz.results146, go_sem, hk0, hk1, hk2, hk3, hk4, hk5, hk6, hk7, hk8]) rfl ?_
  exact ⟨_, _, _, _, _, _, _, _, _, _, _, _, _, _, rfl, FR1.out, FR2.out, F.out⟩
end Go.Proofs.YthlmlmfebpjgdaaGreatDoor
