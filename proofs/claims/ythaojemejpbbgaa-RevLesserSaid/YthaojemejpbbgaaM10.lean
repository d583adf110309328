/-
Walks: package vergeref10, power (of exponent one).
Walks: package vergeref6, sets.
-/
import Derived.Test.YthaojemejpbbgaaM09
import Derived.Test.YthaojemejpbbgaaM04
import Derived.Deep.DeepCutAuto
import Derived.Test.YthaojemejpbbgaaM07
set_option linter.unusedSimpArgs false
set_option linter.unusedVariables false

namespace Go.Proofs.Ythaojemejpbbgaa
open Go.RowKit

theorem rc_false {p q p' q' : Nat} (hq : 0 < q) (hq' : 0 < q') : rc (rv false p q) (rv false p' q') = cmp3 (p * q') (p' * q) := by
  have h1 := rv_lt_false (p := p) (p' := p') hq hq'
  have h2 := rv_lt_false (p := p') (p' := p) hq' hq
  unfold rc cmp3
  by_cases a : p * q' < p' * q
  · rw [if_pos (h1.2 a), if_pos a]
  · rw [if_neg (fun h => a (h1.1 h)), if_neg a]
    by_cases b : p' * q < p * q'
    · rw [if_pos (h2.2 b), if_pos b]
    · rw [if_neg (fun h => b (h2.1 h)), if_neg b]
/-- The lengths tell it. -/
theorem pw_above {a b : Nat} {E : Int} (ha : 0 < a) (h : (blen b : Int) + 1 < (blen a : Int) + E) : cmp3 (a * 2^E.toNat) (b * 2^(-E).toNat) = 1 := by
  refine cmp3_gt ?_
  obtain ⟨L, e1, a1, a2⟩ := blen_bounds ha
  have b2 := lt_pow_blen b
  rcases Int.lt_or_le E 0 with h0 | h0
  · rw [show E.toNat = 0 from by omega, Nat.pow_zero, Nat.mul_one]
    calc b * 2^(-E).toNat < 2^(blen b) * 2^(-E).toNat := Nat.mul_lt_mul_of_pos_right b2 (Nat.two_pow_pos _)
      _ = 2^(blen b + (-E).toNat) := by rw [← Nat.pow_add]
      _ ≤ 2^L := Nat.pow_le_pow_right (by omega) (by omega)
      _ ≤ a := a1
  · rw [show (-E).toNat = 0 from by omega, Nat.pow_zero, Nat.mul_one]
    calc b < 2^(blen b) := b2
      _ ≤ 2^(L + E.toNat) := Nat.pow_le_pow_right (by omega) (by omega)
      _ = 2^L * 2^E.toNat := by rw [Nat.pow_add]
      _ ≤ a * 2^E.toNat := Nat.mul_le_mul_right _ a1
theorem pw_below {a b : Nat} {E : Int} (h : (blen a : Int) + E < (blen b : Int) - 1) (hb : 0 < b) : cmp3 (a * 2^E.toNat) (b * 2^(-E).toNat) = -1 := by
  refine cmp3_lt ?_
  obtain ⟨L, e1, b1, b2⟩ := blen_bounds hb
  have a2 := lt_pow_blen a
  rcases Int.lt_or_le E 0 with h0 | h0
  · rw [show E.toNat = 0 from by omega, Nat.pow_zero, Nat.mul_one]
    calc a < 2^(blen a) := a2
      _ ≤ 2^(L + (-E).toNat) := Nat.pow_le_pow_right (by omega) (by omega)
      _ = 2^L * 2^(-E).toNat := by rw [Nat.pow_add]
      _ ≤ b * 2^(-E).toNat := Nat.mul_le_mul_right _ b1
  · rw [show (-E).toNat = 0 from by omega, Nat.pow_zero, Nat.mul_one]
    calc a * 2^E.toNat < 2^(blen a) * 2^E.toNat := Nat.mul_lt_mul_of_pos_right a2 (Nat.two_pow_pos _)
      _ = 2^(blen a + E.toNat) := by rw [← Nat.pow_add]
      _ ≤ 2^L := Nat.pow_le_pow_right (by omega) (by omega)
      _ ≤ b := b1
/-- A size held against a ratio. -/
theorem pw_rc {F p q : Nat} {E : Int} {x : Rat} (hq : 0 < q) (hx : x = rv false F 1 * 2^E) : rc x (rv false p q) = cmp3 (F * q * 2^E.toNat) (p * 2^(-E).toNat) := by
  have := rv_scale false (p := F) (q := 1) (by omega) E
  rw [Nat.one_mul] at this
  rw [hx, ← this, rc_false (Nat.two_pow_pos _) hq]
  congr 1
  rw [Nat.mul_assoc, Nat.mul_comm (2^E.toNat) q, ← Nat.mul_assoc]

set_option maxRecDepth 4000 in
set_option maxHeartbeats 6400000 in
theorem power_fin (K b : Nat) (A B : Option Addr) (n c m d p q : Nat) (w : World) (hb : b < 9218868437227405312) (hb0 : 0 < b) (hu : U32s w A n c (digs p)) (hv : U32s w B m d (digs q)) (hp : 0 < p) (hq : 0 < q) (hpK : p < 2^(32 * K)) (hqK : q < 2^(32 * K)) (hK : K ≤ 1048576) :
    Calls Try.prog 67 #[.int .u64 (b : Int), .int .i64 1, .agg #[.bool false, .slice A n c, .slice B m d]] w fun e w' => e = .returned (.int .i64 (rc (fl (b : Int)) (rv false p q))) ∧ Below w.heap.size w w' := by
  have hc := pat_cases (b := b) (by omega)
  have hfin : fin b := by show rungOf b < M; rw [M_val]; omega
  have hidx : idx b = (b : Int) := by omega
  have hsg : sgn b = false := by
    rcases hc with h | h
    · exact h.2.2.1
    · omega
  obtain ⟨e0, he⟩ : ∃ e, b / 4503599627370496 % 2048 = e := ⟨_, rfl⟩
  obtain ⟨f0, hff⟩ : ∃ f, b % 4503599627370496 = f := ⟨_, rfl⟩
  obtain ⟨he1, hf1, v1, v2⟩ := fl_parts hfin he hff hsg
  rw [hidx] at v1 v2
  have he' : b / 4503599627370496 = e0 := by omega
  have m1 : (b : Int) / 4503599627370496 = (e0 : Int) := by omega
  have m2 := mask52_u64 (x := b) (by omega)
  rw [hff] at m2
  obtain ⟨F, E, hF0, hF, hE1, hE2, hfl, hFe⟩ : ∃ (F : Nat) (E : Int), 0 < F ∧ F < 9007199254740992 ∧ -1074 ≤ E ∧ E ≤ 971 ∧ fl (b : Int) = rv false F 1 * 2^E ∧ ((0 < e0 ∧ F = f0 + 4503599627370496 ∧ (e0 : Int) - 1 - 1074 = E) ∨ (e0 = 0 ∧ F = f0 ∧ (e0 : Int) - 1074 = E)) := by
    rcases Nat.eq_zero_or_pos e0 with h | h
    · exact ⟨f0, (e0 : Int) - 1074, by omega, by omega, by omega, by omega, v2 h, .inr ⟨h, rfl, rfl⟩⟩
    · exact ⟨f0 + 4503599627370496, (e0 : Int) - 1 - 1074, by omega, by omega, by omega, by omega, v1 h, .inl ⟨h, rfl, rfl⟩⟩
  rw [pw_rc hq hfl]
  have hn1 := hu.len_le hpK
  have hm1 := hv.len_le hqK
  have HU := Lib.hid hu
  have HV := Lib.hid hv
  have haK : F * q < 2^(32 * (K + 2)) := by
    calc F * q < 2^64 * 2^(32 * K) := Nat.mul_lt_mul'' (by omega) hqK
      _ = 2^(32 * (K + 2)) := by rw [← Nat.pow_add]; congr 1; omega
  have bp : blen p ≤ 33554432 := Nat.le_trans (blen_le_iff.2 hpK) (by omega)
  have ba : blen (F * q) ≤ 33554496 := Nat.le_trans (blen_le_iff.2 haK) (by omega)
  have hab : 0 < F * q := Nat.mul_pos hF0 hq
  have HSM := Lib.hid fun W => small_any F W (by omega)
  obtain ⟨a, ha⟩ : ∃ a, F * q = a := ⟨_, rfl⟩
  have T0 : ∀ (W : World) (A1 : Option Addr) (n1 c1 : Nat), Below w.heap.size w W → U32s W A1 n1 c1 (digs F) → Calls Try.prog 45 #[.slice A1 n1 c1, .slice B m d] W (NewU32 W (digs a)) := by
    intro W A1 n1 c1 hW h1
    have := times_any A1 B n1 c1 m d _ _ W h1 (HV.out.below hW) (by have := h1.len_le (k := 2) (Nat.lt_of_lt_of_le hF (by decide)); omega) (by omega)
    rw [num_digs, num_digs, ha] at this
    exact this
  have P0 : ∀ (W : World) (A1 : Option Addr) (n1 c1 : Nat), U32s W A1 n1 c1 (digs F) → Calls Try.prog 79 #[.slice A1 n1 c1, .int .i64 1] W (NewU32 W (digs F)) := by
    intro W A1 n1 c1 h1
    have h2 : F < 2^(32 * 2) := Nat.lt_of_lt_of_le hF (by decide)
    have := power_any A1 n1 c1 1 2 _ W h1 (by have := h1.len_le h2; omega) (by rw [num_digs]; exact hF0) (by rw [num_digs]; exact h2) (by rw [num_digs, Nat.pow_one]; exact h2) (by omega) (by omega)
    rw [num_digs, Nat.pow_one] at this
    exact this
  rw [ha] at haK ba hab ⊢
  have TT := Lib.hid T0
  have PT := Lib.hid P0
  have PA := Lib.hid fun h => pw_above (b := p) (E := E) hab h
  have PB := Lib.hid fun h => pw_below (a := a) (E := E) h hp
  obtain ⟨r, hr⟩ : ∃ r, cmp3 (a * 2^E.toNat) (p * 2^(-E).toNat) = r := ⟨_, rfl⟩
  rw [hr] at PA PB ⊢
  have HR := Lib.hid hr
  obtain ⟨K2, hK2⟩ : ∃ x, K + 2 = x := ⟨_, rfl⟩
  rw [hK2] at haK
  have hK3 : K2 ≤ 1048578 := by omega
  have HAK := Lib.hid haK
  clear hK2
  have HFE := Lib.hid hFe
  clear hr T0 P0 haK hab hFe hfl v1 v2 hc hfin hidx hsg he hff he' hu hv hp hq hpK hqK ha hF0
  rcases HFE.out with ⟨h0, hFF, hEE⟩ | ⟨h0, hFF, hEE⟩
  · skip
    have LB0 := Lib.hid (show Below w.heap.size w (w.alloc (.cells #[.bool false, .slice A n c, .slice B m d] 44)) from (below_alloc w _))
    have LG0_0 := Lib.hid ((Blk.at (W := w) (g := w.heap.size) (by simp <;> omega) 44 #[.bool false, .slice A n c, .slice B m d]))
    have h1 : (f0 : Int) + 4503599627370496 = (F : Int) := by omega
    have h3 : (0 : Int) < (e0 : Int) := by omega
    clear hFF h0
    clear HFE
    go_enter Try.func67, Try.ntmps67
    go_upto_region 7 with fail
    refine wp_region_held_drew (S := fun W' => Blk W' w.heap.size 44 #[.bool false, .slice A n c, .slice B m d] ∧ Below w.heap.size w W') (by kernel_rfl) (by exact ⟨LG0_0.out.drew, LB0.out.drew⟩) (fun hHeld => ?_)
    refine wpAnyH_take (i := 0) (v := ?_) rfl (by kernel_rfl) (by kernel_rfl) (by kernel_rfl) (fun _ _ _ h => h) (Or.inl ⟨by rfl, ?_⟩) (by assumption) ?_
    rotate_left
    · (intro W2 hSw; go_simp; (try with_reducible rfl))
    try simp only [Act.put, List.getElem_toArray, List.getElem_cons_succ, List.getElem_cons_zero, List.setIfInBounds_toArray, List.set_cons_zero, List.set_cons_succ]
    refine wpAnyH_take (i := 2) (v := ?_) rfl (by kernel_rfl) (by kernel_rfl) (by kernel_rfl) (fun _ _ _ h => h) (Or.inl ⟨by rfl, ?_⟩) (by assumption) ?_
    rotate_left
    · (intro W2 hSw; go_simp; (try with_reducible rfl))
    try simp only [Act.put, List.getElem_toArray, List.getElem_cons_succ, List.getElem_cons_zero, List.setIfInBounds_toArray, List.set_cons_zero, List.set_cons_succ]
    refine wpAnyH_take (i := 4) (v := ?_) rfl (by kernel_rfl) (by kernel_rfl) (by kernel_rfl) (fun _ _ _ h => h) (Or.inl ⟨by rfl, ?_⟩) (by assumption) ?_
    rotate_left
    · (intro W2 hSw; go_simp; (try with_reducible rfl))
    try simp only [Act.put, List.getElem_toArray, List.getElem_cons_succ, List.getElem_cons_zero, List.setIfInBounds_toArray, List.set_cons_zero, List.set_cons_succ]
    refine wpAnyH_take (i := 5) (v := ?_) rfl (by kernel_rfl) (by kernel_rfl) (by kernel_rfl) (fun _ _ _ h => h) (Or.inl ⟨by rfl, ?_⟩) (by assumption) ?_
    rotate_left
    · (intro W2 hSw; (try dsimp only at hSw); have q0 : _ = some (.bool false : Value) := hSw.1.cell 0; have q1 : _ = some (.slice A n c : Value) := hSw.1.cell 1; have q2 : _ = some (.slice B m d : Value) := hSw.1.cell 2; go_simp; (try with_reducible rfl))
    try simp only [Act.put, List.getElem_toArray, List.getElem_cons_succ, List.getElem_cons_zero, List.setIfInBounds_toArray, List.set_cons_zero, List.set_cons_succ]
    refine wpAnyH_ready (rs := [1]) (by kernel_rfl) (by simp) ?_
    refine AllReadyH.cons rfl (fun KK hKK => ?_) AllReadyH.nil
    go_simp
    refine (HSM.out _).mono ?_
    rintro e w1 ⟨A1, n1, c1, rfl, hu1, hb1⟩
    go_wp2_with fail
    refine hKK.out _ _ (⟨hHeld.1.keep hb1, hHeld.2.trans (hb1.mono hHeld.2.size)⟩) (fun _ => ?_)
    clear hKK KK hHeld; rename_i hHeld
    try simp only [Act.put, List.getElem_toArray, List.getElem_cons_succ, List.getElem_cons_zero, List.setIfInBounds_toArray, List.set_cons_zero, List.set_cons_succ]
    refine wpAnyH_ready (rs := [3]) (by kernel_rfl) (by simp) ?_
    refine AllReadyH.cons rfl (fun KK hKK => ?_) AllReadyH.nil
    go_simp
    refine (PT.out _ A1 n1 c1 hu1).mono ?_
    rintro e w2 ⟨A2, n2, c2, rfl, hu2, hb2⟩
    go_wp2_with fail
    refine hKK.out _ _ (⟨hHeld.1.keep hb2, hHeld.2.trans (hb2.mono hHeld.2.size)⟩) (fun _ => ?_)
    clear hKK KK hHeld; rename_i hHeld
    try simp only [Act.put, List.getElem_toArray, List.getElem_cons_succ, List.getElem_cons_zero, List.setIfInBounds_toArray, List.set_cons_zero, List.set_cons_succ]
    refine wpAnyH_ready (rs := [6]) (by kernel_rfl) (by simp) ?_
    refine AllReadyH.cons rfl (fun KK hKK => ?_) AllReadyH.nil
    go_simp
    refine (TT.out _ A2 n2 c2 ?_ hu2).mono ?_; exact hHeld.2
    rintro e w3 ⟨A3, n3, c3, rfl, hu3, hb3⟩
    go_wp2_with fail
    refine hKK.out _ _ (⟨hHeld.1.keep hb3, hHeld.2.trans (hb3.mono hHeld.2.size)⟩) (fun _ => ?_)
    clear hKK KK hHeld; rename_i hHeld
    try simp only [Act.put, List.getElem_toArray, List.getElem_cons_succ, List.getElem_cons_zero, List.setIfInBounds_toArray, List.set_cons_zero, List.set_cons_succ]
    refine wpAnyH_take (i := 7) (v := ?_) rfl (by kernel_rfl) (by kernel_rfl) (by kernel_rfl) (fun _ _ _ h => h) (Or.inl ⟨by rfl, ?_⟩) (by assumption) ?_
    rotate_left
    · (intro W2 hSw; go_simp; (try with_reducible rfl))
    try simp only [Act.put, List.getElem_toArray, List.getElem_cons_succ, List.getElem_cons_zero, List.setIfInBounds_toArray, List.set_cons_zero, List.set_cons_succ]
    refine wpAnyH_done (by kernel_rfl) ?_ _
    have LB3 := Lib.hid hHeld.2
    have LG0_3 := Lib.hid hHeld.1
    have HU3 := Lib.hid hu3
    have hn3 := hu3.len_le HAK.out
    clear hHeld hu1 hu2 hu3 hb1 hb2 hb3 HSM PT TT LB0 LG0_0
    obtain ⟨la, hla⟩ : ∃ x, blen a = x := ⟨_, rfl⟩
    obtain ⟨lp, hlp⟩ : ∃ x, blen p = x := ⟨_, rfl⟩
    have H1 := Lib.hid (len_v A3 n3 c3 w3 HU3.out)
    have H2 := Lib.hid (len_v A n c w3 (HU.out.below LB3.out))
    rw [hla] at H1 PA PB ba
    rw [hlp] at H2 PA PB bp
    clear hla hlp
    have q0_0 : _ = some (.bool false : Value) := LG0_3.out.cell 0
    have q0_1 : _ = some (.slice A n c : Value) := LG0_3.out.cell 1
    have q0_2 : _ = some (.slice B m d : Value) := LG0_3.out.cell 2
    by_cases ho : (lp : Int) + 1 < (la : Int) + E
    · have hr := PA.out ho
      clear PA PB HR
      go_wp2_with fail
      refine H1.out.mono ?_
      rintro e w4 ⟨rfl, rfl⟩
      go_wp2_with fail
      refine H2.out.mono ?_
      rintro e w4 ⟨rfl, rfl⟩
      have HRR := Lib.hid hr
      clear hr
      go_wp2
      go_ret
      exact ⟨ret_int HRR.out.symm, LB3.out⟩
    · by_cases hu : (la : Int) + E < (lp : Int) - 1
      · have hr := PB.out hu
        clear PA PB HR
        go_wp2_with fail
        refine H1.out.mono ?_
        rintro e w4 ⟨rfl, rfl⟩
        go_wp2_with fail
        refine H2.out.mono ?_
        rintro e w4 ⟨rfl, rfl⟩
        go_wp2_with fail
        refine H1.out.mono ?_
        rintro e w4 ⟨rfl, rfl⟩
        go_wp2_with fail
        refine H2.out.mono ?_
        rintro e w4 ⟨rfl, rfl⟩
        have HRR := Lib.hid hr
        clear hr
        go_wp2
        go_ret
        exact ⟨ret_int HRR.out.symm, LB3.out⟩
      · clear PA PB
        go_wp2_with fail
        refine H1.out.mono ?_
        rintro e w4 ⟨rfl, rfl⟩
        go_wp2_with fail
        refine H2.out.mono ?_
        rintro e w4 ⟨rfl, rfl⟩
        go_wp2_with fail
        refine H1.out.mono ?_
        rintro e w4 ⟨rfl, rfl⟩
        go_wp2_with fail
        refine H2.out.mono ?_
        rintro e w4 ⟨rfl, rfl⟩
        clear H1 H2
        by_cases hE : 0 ≤ E
        · skip
          obtain ⟨g, hg⟩ : ∃ g : Nat, E = g := ⟨E.toNat, by omega⟩
          subst hg
          have hg2 : g ≤ 971 := by omega
          have hr := HR.out
          rw [show (-(g : Int)).toNat = 0 from by omega, Int.toNat_natCast, Nat.pow_zero, Nat.mul_one] at hr
          have HLL := Lib.hid (left_v (v := a) A3 n3 c3 g w3 HU3.out (by omega) (by omega))
          have HRR := Lib.hid hr
          clear hr HR
          go_wp2_with fail
          refine HLL.out.mono ?_
          rintro e w5 ⟨A5, n5, c5, rfl, hu5, hb5⟩
          have LB5 := Lib.hid (LB3.out.trans (hb5.mono LB3.out.size))
          have HC := Lib.hid (cmp_v A5 A n5 c5 n c w5 hu5 (HU.out.below LB5.out))
          rw [HRR.out] at HC
          clear hb5 hu5 HLL
          go_wp2_with fail
          refine HC.out.mono ?_
          rintro e w6 ⟨rfl, kk, rfl⟩
          go_wp2
          go_ret
          exact ⟨rfl, below_drewN LB5.out kk⟩
        · skip
          obtain ⟨g, hg⟩ : ∃ g : Nat, -E = g := ⟨(-E : Int).toNat, by omega⟩
          have hg2 : g ≤ 1074 := by omega
          have hr := HR.out
          rw [show (E : Int).toNat = 0 from by omega, show (-E : Int).toNat = g from by omega, Nat.pow_zero, Nat.mul_one] at hr
          have HLL := Lib.hid (left_v (v := p) A n c g w3 (HU.out.below LB3.out) (by omega) (by omega))
          have HRR := Lib.hid hr
          clear hr HR
          have c2 : E < 0 := by omega
          go_wp2_with fail
          refine HLL.out.mono ?_
          rintro e w5 ⟨A5, n5, c5, rfl, hu5, hb5⟩
          have HC := Lib.hid (cmp_v A3 A5 n3 c3 n5 c5 w5 (HU3.out.below hb5) hu5)
          have LB5 := Lib.hid (LB3.out.trans (hb5.mono LB3.out.size))
          rw [HRR.out] at HC
          clear hb5 hu5 HLL
          go_wp2_with fail
          refine HC.out.mono ?_
          rintro e w6 ⟨rfl, kk, rfl⟩
          go_wp2
          go_ret
          exact ⟨rfl, below_drewN LB5.out kk⟩
  · skip
    have LB0 := Lib.hid (show Below w.heap.size w (w.alloc (.cells #[.bool false, .slice A n c, .slice B m d] 44)) from (below_alloc w _))
    have LG0_0 := Lib.hid ((Blk.at (W := w) (g := w.heap.size) (by simp <;> omega) 44 #[.bool false, .slice A n c, .slice B m d]))
    subst h0
    subst hFF
    obtain rfl : E = -1074 := by omega
    clear hEE
    clear HFE
    go_enter Try.func67, Try.ntmps67
    go_upto_region 7 with fail
    refine wp_region_held_drew (S := fun W' => Blk W' w.heap.size 44 #[.bool false, .slice A n c, .slice B m d] ∧ Below w.heap.size w W') (by kernel_rfl) (by exact ⟨LG0_0.out.drew, LB0.out.drew⟩) (fun hHeld => ?_)
    refine wpAnyH_take (i := 0) (v := ?_) rfl (by kernel_rfl) (by kernel_rfl) (by kernel_rfl) (fun _ _ _ h => h) (Or.inl ⟨by rfl, ?_⟩) (by assumption) ?_
    rotate_left
    · (intro W2 hSw; go_simp; (try with_reducible rfl))
    try simp only [Act.put, List.getElem_toArray, List.getElem_cons_succ, List.getElem_cons_zero, List.setIfInBounds_toArray, List.set_cons_zero, List.set_cons_succ]
    refine wpAnyH_take (i := 2) (v := ?_) rfl (by kernel_rfl) (by kernel_rfl) (by kernel_rfl) (fun _ _ _ h => h) (Or.inl ⟨by rfl, ?_⟩) (by assumption) ?_
    rotate_left
    · (intro W2 hSw; go_simp; (try with_reducible rfl))
    try simp only [Act.put, List.getElem_toArray, List.getElem_cons_succ, List.getElem_cons_zero, List.setIfInBounds_toArray, List.set_cons_zero, List.set_cons_succ]
    refine wpAnyH_take (i := 4) (v := ?_) rfl (by kernel_rfl) (by kernel_rfl) (by kernel_rfl) (fun _ _ _ h => h) (Or.inl ⟨by rfl, ?_⟩) (by assumption) ?_
    rotate_left
    · (intro W2 hSw; go_simp; (try with_reducible rfl))
    try simp only [Act.put, List.getElem_toArray, List.getElem_cons_succ, List.getElem_cons_zero, List.setIfInBounds_toArray, List.set_cons_zero, List.set_cons_succ]
    refine wpAnyH_take (i := 5) (v := ?_) rfl (by kernel_rfl) (by kernel_rfl) (by kernel_rfl) (fun _ _ _ h => h) (Or.inl ⟨by rfl, ?_⟩) (by assumption) ?_
    rotate_left
    · (intro W2 hSw; (try dsimp only at hSw); have q0 : _ = some (.bool false : Value) := hSw.1.cell 0; have q1 : _ = some (.slice A n c : Value) := hSw.1.cell 1; have q2 : _ = some (.slice B m d : Value) := hSw.1.cell 2; go_simp; (try with_reducible rfl))
    try simp only [Act.put, List.getElem_toArray, List.getElem_cons_succ, List.getElem_cons_zero, List.setIfInBounds_toArray, List.set_cons_zero, List.set_cons_succ]
    refine wpAnyH_ready (rs := [1]) (by kernel_rfl) (by simp) ?_
    refine AllReadyH.cons rfl (fun KK hKK => ?_) AllReadyH.nil
    go_simp
    refine (HSM.out _).mono ?_
    rintro e w1 ⟨A1, n1, c1, rfl, hu1, hb1⟩
    go_wp2_with fail
    refine hKK.out _ _ (⟨hHeld.1.keep hb1, hHeld.2.trans (hb1.mono hHeld.2.size)⟩) (fun _ => ?_)
    clear hKK KK hHeld; rename_i hHeld
    try simp only [Act.put, List.getElem_toArray, List.getElem_cons_succ, List.getElem_cons_zero, List.setIfInBounds_toArray, List.set_cons_zero, List.set_cons_succ]
    refine wpAnyH_ready (rs := [3]) (by kernel_rfl) (by simp) ?_
    refine AllReadyH.cons rfl (fun KK hKK => ?_) AllReadyH.nil
    go_simp
    refine (PT.out _ A1 n1 c1 hu1).mono ?_
    rintro e w2 ⟨A2, n2, c2, rfl, hu2, hb2⟩
    go_wp2_with fail
    refine hKK.out _ _ (⟨hHeld.1.keep hb2, hHeld.2.trans (hb2.mono hHeld.2.size)⟩) (fun _ => ?_)
    clear hKK KK hHeld; rename_i hHeld
    try simp only [Act.put, List.getElem_toArray, List.getElem_cons_succ, List.getElem_cons_zero, List.setIfInBounds_toArray, List.set_cons_zero, List.set_cons_succ]
    refine wpAnyH_ready (rs := [6]) (by kernel_rfl) (by simp) ?_
    refine AllReadyH.cons rfl (fun KK hKK => ?_) AllReadyH.nil
    go_simp
    refine (TT.out _ A2 n2 c2 ?_ hu2).mono ?_; exact hHeld.2
    rintro e w3 ⟨A3, n3, c3, rfl, hu3, hb3⟩
    go_wp2_with fail
    refine hKK.out _ _ (⟨hHeld.1.keep hb3, hHeld.2.trans (hb3.mono hHeld.2.size)⟩) (fun _ => ?_)
    clear hKK KK hHeld; rename_i hHeld
    try simp only [Act.put, List.getElem_toArray, List.getElem_cons_succ, List.getElem_cons_zero, List.setIfInBounds_toArray, List.set_cons_zero, List.set_cons_succ]
    refine wpAnyH_take (i := 7) (v := ?_) rfl (by kernel_rfl) (by kernel_rfl) (by kernel_rfl) (fun _ _ _ h => h) (Or.inl ⟨by rfl, ?_⟩) (by assumption) ?_
    rotate_left
    · (intro W2 hSw; go_simp; (try with_reducible rfl))
    try simp only [Act.put, List.getElem_toArray, List.getElem_cons_succ, List.getElem_cons_zero, List.setIfInBounds_toArray, List.set_cons_zero, List.set_cons_succ]
    refine wpAnyH_done (by kernel_rfl) ?_ _
    have LB3 := Lib.hid hHeld.2
    have LG0_3 := Lib.hid hHeld.1
    have HU3 := Lib.hid hu3
    have hn3 := hu3.len_le HAK.out
    clear hHeld hu1 hu2 hu3 hb1 hb2 hb3 HSM PT TT LB0 LG0_0
    obtain ⟨la, hla⟩ : ∃ x, blen a = x := ⟨_, rfl⟩
    obtain ⟨lp, hlp⟩ : ∃ x, blen p = x := ⟨_, rfl⟩
    have H1 := Lib.hid (len_v A3 n3 c3 w3 HU3.out)
    have H2 := Lib.hid (len_v A n c w3 (HU.out.below LB3.out))
    rw [hla] at H1 PA PB ba
    rw [hlp] at H2 PA PB bp
    clear hla hlp
    have q0_0 : _ = some (.bool false : Value) := LG0_3.out.cell 0
    have q0_1 : _ = some (.slice A n c : Value) := LG0_3.out.cell 1
    have q0_2 : _ = some (.slice B m d : Value) := LG0_3.out.cell 2
    by_cases ho : (lp : Int) + 1 < (la : Int) + (-1074)
    · have hr := PA.out ho
      clear PA PB HR
      go_wp2_with fail
      refine H1.out.mono ?_
      rintro e w4 ⟨rfl, rfl⟩
      go_wp2_with fail
      refine H2.out.mono ?_
      rintro e w4 ⟨rfl, rfl⟩
      have HRR := Lib.hid hr
      clear hr
      go_wp2
      go_ret
      exact ⟨ret_int HRR.out.symm, LB3.out⟩
    · by_cases hu : (la : Int) + (-1074) < (lp : Int) - 1
      · have hr := PB.out hu
        clear PA PB HR
        go_wp2_with fail
        refine H1.out.mono ?_
        rintro e w4 ⟨rfl, rfl⟩
        go_wp2_with fail
        refine H2.out.mono ?_
        rintro e w4 ⟨rfl, rfl⟩
        go_wp2_with fail
        refine H1.out.mono ?_
        rintro e w4 ⟨rfl, rfl⟩
        go_wp2_with fail
        refine H2.out.mono ?_
        rintro e w4 ⟨rfl, rfl⟩
        have HRR := Lib.hid hr
        clear hr
        go_wp2
        go_ret
        exact ⟨ret_int HRR.out.symm, LB3.out⟩
      · clear PA PB
        go_wp2_with fail
        refine H1.out.mono ?_
        rintro e w4 ⟨rfl, rfl⟩
        go_wp2_with fail
        refine H2.out.mono ?_
        rintro e w4 ⟨rfl, rfl⟩
        go_wp2_with fail
        refine H1.out.mono ?_
        rintro e w4 ⟨rfl, rfl⟩
        go_wp2_with fail
        refine H2.out.mono ?_
        rintro e w4 ⟨rfl, rfl⟩
        clear H1 H2
        obtain ⟨g, hg⟩ : ∃ g : Nat, g = 1074 := ⟨_, rfl⟩
        have hr := HR.out
        rw [show ((-1074) : Int).toNat = 0 from by omega, show (-(-1074) : Int).toNat = g from by omega, Nat.pow_zero, Nat.mul_one] at hr
        have HLL := Lib.hid (left_v (v := p) A n c g w3 (HU.out.below LB3.out) (by omega) (by omega))
        rw [show ((g : Nat) : Int) = 1074 from by omega] at HLL
        clear hg
        have HRR := Lib.hid hr
        clear hr HR
        go_wp2_with fail
        refine HLL.out.mono ?_
        rintro e w5 ⟨A5, n5, c5, rfl, hu5, hb5⟩
        have HC := Lib.hid (cmp_v A3 A5 n3 c3 n5 c5 w5 (HU3.out.below hb5) hu5)
        have LB5 := Lib.hid (LB3.out.trans (hb5.mono LB3.out.size))
        rw [HRR.out] at HC
        clear hb5 hu5 HLL
        go_wp2_with fail
        refine HC.out.mono ?_
        rintro e w6 ⟨rfl, kk, rfl⟩
        go_wp2
        go_ret
        exact ⟨rfl, below_drewN LB5.out kk⟩

end Go.Proofs.Ythaojemejpbbgaa

namespace Go.Proofs.Ythaojemejpbbgaa
open Go.RowKit

set_option maxHeartbeats 3200000 in
theorem turned_any (K : Nat) (s1 : Int) (g1 : Bool) (A1 : Option Addr) (n1 c1 : Nat) (B1 : Option Addr) (m1 d1 : Nat) (x1 : Rat) (w : World) (h1 : RatV w K g1 (.slice A1 n1 c1) (.slice B1 m1 d1) x1) (hK : K ≤ 1073741824) (hs : -1 ≤ s1 ∧ s1 ≤ 1) :
    Calls Try.prog 57 #[.agg #[.int .i64 s1, .bool g1, .slice A1 n1 c1, .slice B1 m1 d1]] w (NewEnd w K (-s1) (-x1)) := by
  have HN := Lib.hid fun W (hW : Below w.heap.size w W) => (rneg_any K g1 _ _ x1 W (h1.below hW) hK).mono fun _ _ h => h.s
  have hw : IntKind.i64.wrap (-s1) = -s1 := by rw [IntKind.wrap_i64]; omega
  clear h1 hs
  have LB0 := Lib.hid (show Below w.heap.size w ((w.alloc (.cells #[.int .i64 s1, .bool g1, .slice A1 n1 c1, .slice B1 m1 d1] 46)).alloc (.cells #[.int .i64 0, .bool false, .slice none 0 0, .slice none 0 0] 46)) from ((below_alloc w _).alloc (by simp <;> omega) _))
  have LG0_0 := Lib.hid (((Blk.at (W := w) (g := w.heap.size) (by simp <;> omega) 46 #[.int .i64 s1, .bool g1, .slice A1 n1 c1, .slice B1 m1 d1]).alloc (.cells #[.int .i64 0, .bool false, .slice none 0 0, .slice none 0 0] 46)))
  have LR0 := Lib.hid (HasBlk.of (n := 4) (Blk.at (W := (w.alloc (.cells #[.int .i64 s1, .bool g1, .slice A1 n1 c1, .slice B1 m1 d1] 46))) (g := (w.heap.size + 1)) (by simp <;> omega) 46 #[.int .i64 0, .bool false, .slice none 0 0, .slice none 0 0]) rfl rfl)
  go_enter Try.func57, Try.ntmps57
  go_wp2_with fail
  refine wp_region_held_drew (S := fun W' => Blk W' w.heap.size 46 #[.int .i64 s1, .bool g1, .slice A1 n1 c1, .slice B1 m1 d1] ∧ HasBlk W' (w.heap.size + 1) 46 4 ∧ Below w.heap.size w W') (by kernel_rfl) (by exact ⟨LG0_0.out.drew, LR0.out.drew, LB0.out.drew⟩) (fun hHeld => ?_)
  refine wpAnyH_take (i := 0) (v := ?_) rfl (by kernel_rfl) (by kernel_rfl) (by kernel_rfl) (fun _ _ _ h => h) (Or.inl ⟨by rfl, ?_⟩) (by assumption) ?_
  rotate_left
  · (intro W2 hSw; go_simp; (try with_reducible rfl))
  try simp only [Act.put, List.setIfInBounds_toArray, List.set_cons_zero, List.set_cons_succ]
  refine wpAnyH_take (i := 1) (v := ?_) rfl (by kernel_rfl) (by kernel_rfl) (by kernel_rfl) (fun _ _ _ h => h) (Or.inl ⟨by rfl, ?_⟩) (by assumption) ?_
  rotate_left
  · (intro W2 hSw; (try dsimp only at hSw); have q0 : _ = some (.int .i64 s1 : Value) := hSw.1.cell 0; have q1 : _ = some (.bool g1 : Value) := hSw.1.cell 1; have q2 : _ = some (.slice A1 n1 c1 : Value) := hSw.1.cell 2; have q3 : _ = some (.slice B1 m1 d1 : Value) := hSw.1.cell 3; go_simp; (try with_reducible rfl))
  try simp only [Act.put, List.setIfInBounds_toArray, List.set_cons_zero, List.set_cons_succ]
  refine wpAnyH_take (i := 2) (v := ?_) rfl (by kernel_rfl) (by kernel_rfl) (by kernel_rfl) (fun _ _ _ h => h) (Or.inl ⟨by rfl, ?_⟩) (by assumption) ?_
  rotate_left
  · (intro W2 hSw; go_simp; (try with_reducible rfl))
  try simp only [Act.put, List.setIfInBounds_toArray, List.set_cons_zero, List.set_cons_succ]
  refine wpAnyH_take (i := 3) (v := ?_) rfl (by kernel_rfl) (by kernel_rfl) (by kernel_rfl) (fun _ _ _ h => h) (Or.inl ⟨by rfl, ?_⟩) (by assumption) ?_
  rotate_left
  · (intro W2 hSw; go_simp; (try with_reducible rfl))
  try simp only [Act.put, List.setIfInBounds_toArray, List.set_cons_zero, List.set_cons_succ]
  refine wpAnyH_take (i := 4) (v := ?_) rfl (by kernel_rfl) (by kernel_rfl) (by kernel_rfl) (fun _ _ _ h => h) (Or.inl ⟨by rfl, ?_⟩) (by assumption) ?_
  rotate_left
  · (intro W2 hSw; (try dsimp only at hSw); have q0 : _ = some (.int .i64 s1 : Value) := hSw.1.cell 0; have q1 : _ = some (.bool g1 : Value) := hSw.1.cell 1; have q2 : _ = some (.slice A1 n1 c1 : Value) := hSw.1.cell 2; have q3 : _ = some (.slice B1 m1 d1 : Value) := hSw.1.cell 3; go_simp; (try with_reducible rfl))
  try simp only [Act.put, List.setIfInBounds_toArray, List.set_cons_zero, List.set_cons_succ]
  refine wpAnyH_ready (rs := [5]) (by kernel_rfl) (by simp) ?_
  refine AllReadyH.cons rfl (fun KK hKK => ?_) AllReadyH.nil
  go_simp
  refine (HN.out _ ?_).mono ?_; exact hHeld.2.2
  rintro e w1 ⟨g2, A2, n2, c2, B2, m2, d2, rfl, h2, hb2⟩
  go_wp2_with fail
  refine hKK.out _ _ (⟨hHeld.1.keep hb2, hHeld.2.1.keep hb2, hHeld.2.2.trans (hb2.mono hHeld.2.2.size)⟩) (fun _ => ?_)
  clear hKK KK hHeld; rename_i hHeld
  try simp only [Act.put, List.setIfInBounds_toArray, List.set_cons_zero, List.set_cons_succ]
  refine wpAnyH_take (i := 6) (v := ?_) rfl (by kernel_rfl) (by kernel_rfl) (by kernel_rfl) (fun _ _ _ h => h) (Or.inl ⟨by rfl, ?_⟩) (by assumption) ?_
  rotate_left
  · (intro W2 hSw; go_simp; (try with_reducible rfl))
  try simp only [Act.put, List.setIfInBounds_toArray, List.set_cons_zero, List.set_cons_succ]
  refine wpAnyH_ready (rs := [7]) (by kernel_rfl) (by simp) ?_
  refine AllReadyH.cons rfl (fun KK hKK => ?_) AllReadyH.nil
  have ha0 := hHeld.2.1.someCell 0 (by decide); have hf0 := hHeld.2.1.frozen 0; have ha1 := hHeld.2.1.someCell 1 (by decide); have hf1 := hHeld.2.1.frozen 1; have ha2 := hHeld.2.1.someCell 2 (by decide); have hf2 := hHeld.2.1.frozen 2; have ha3 := hHeld.2.1.someCell 3 (by decide); have hf3 := hHeld.2.1.frozen 3; have HK := Lib.hid (hHeld.2.1.setCell [.int .i64 (-s1), .bool g2, .slice A2 n2 c2, .slice B2 m2 d2] rfl); have F := Lib.hid (below_sets (w0 := w) (r := (w.heap.size + 1)) (by omega) [.int .i64 (-s1), .bool g2, .slice A2 n2 c2, .slice B2 m2 d2] 0 _ hHeld.2.2); have FR := Lib.hid (hHeld.2.1.rat h2 [.int .i64 (-s1), .bool g2, .slice A2 n2 c2, .slice B2 m2 d2])
  go_simp
  refine hKK.out _ _ (⟨hHeld.1.other (by omega) 0 [.int .i64 (-s1), .bool g2, .slice A2 n2 c2, .slice B2 m2 d2], hHeld.2.1.sets [.int .i64 (-s1), .bool g2, .slice A2 n2 c2, .slice B2 m2 d2] rfl rfl, below_sets (by omega) [.int .i64 (-s1), .bool g2, .slice A2 n2 c2, .slice B2 m2 d2] 0 _ hHeld.2.2⟩) (fun _ => ?_)
  clear hKK KK hHeld; rename_i hHeld
  try simp only [Act.put, List.setIfInBounds_toArray, List.set_cons_zero, List.set_cons_succ]
  refine wpAnyH_done (by kernel_rfl) ?_ _
  have hk0 := HK.out 0 (by decide)
  have hk1 := HK.out 1 (by decide)
  have hk2 := HK.out 2 (by decide)
  have hk3 := HK.out 3 (by decide)
  simp [sets] at hk0 hk1 hk2 hk3
  clear hHeld HK
  go_wp2
  refine bodyPost_ret (v := .agg #[.int .i64 (-s1), .bool g2, .slice A2 n2 c2, .slice B2 m2 d2]) (by simp [results, Try.results57, go_sem, hk0, hk1, hk2, hk3]) rfl ?_
  exact ⟨_, _, _, _, _, _, _, rfl, FR.out, F.out⟩

end Go.Proofs.Ythaojemejpbbgaa
