/-
Walks: package vergeref2, By.
Walks: package vergeref2, By, where the first one is not below the second.
Walks: package vergeref2, Word.
Walks: package vergeref3, rounded, Bits.
Walks: package vergeref3, Bits.
-/
import Derived.Test.YthlmlmfebpjgdaaGreatDoorM02
import Derived.Test.YthlmlmfebpjgdaaGreatDoorM06
import Derived.Test.YthlmlmfebpjgdaaGreatDoorM05
import Derived.Deep.DeepCutAuto
set_option linter.unusedSimpArgs false
set_option linter.unusedVariables false
set_option maxHeartbeats 12800000

namespace Go.Proofs.YthlmlmfebpjgdaaGreatDoor
open Go.RowKit
theorem W32.of_get {l : List Nat} (h : ∀ j : Nat, l[j]?.getD 0 < 4294967296) : W32 l := by
  intro x hx
  obtain ⟨i, hi⟩ := List.mem_iff_getElem?.1 hx
  have := h i
  rw [hi] at this; exact this
def NewU32s (w : World) (xs ys : List Nat) (e : Ending) (w' : World) : Prop :=
  ∃ A n c B m d, e = .returned (.tuple #[.slice A n c, .slice B m d]) ∧ U32s w' A n c xs ∧ U32s w' B m d ys ∧ Below w.heap.size w w'
def Moved (rs cur : List Nat) (j : Nat) : Prop := cur.length = rs.length ∧ ∀ t : Nat, t < rs.length → cur[t]?.getD 0 = if j < t then rs[t - 1]?.getD 0 else rs[t]?.getD 0
theorem Moved.start (rs : List Nat) : Moved rs rs (rs.length - 1) := ⟨rfl, fun t ht => by rw [if_neg (by omega)]⟩
theorem Moved.step {rs cur : List Nat} {j : Nat} (h : Moved rs cur (j + 1)) (hj : j + 1 < rs.length) : Moved rs (cur.set (j + 1) (rs[j]?.getD 0)) j := by
  obtain ⟨hl, hm⟩ := h
  refine ⟨by simp [hl], fun t ht => ?_⟩
  by_cases h1 : t = j + 1
  · subst h1
    rw [List.getElem?_set_self (by omega), if_pos (by omega)]; rfl
  · rw [List.getElem?_set_ne (by omega), hm t ht]
    by_cases h2 : j < t
    · rw [if_pos h2, if_pos (by omega)]
    · rw [if_neg h2, if_neg (by omega)]
theorem Moved.done {rs cur : List Nat} (h : Moved rs cur 0) (h0 : rs ≠ []) (hz : rs[rs.length - 1]?.getD 0 = 0) (u : Nat) : num (cur.set 0 u) = u + 4294967296 * num rs := by
  rw [← num_shift_up h0 hz]
  have hl : 0 < rs.length := List.length_pos_iff.2 h0
  refine num_ext fun t => ?_
  rcases Nat.eq_zero_or_pos t with h1 | h1
  · subst h1
    rw [List.getElem?_set_self (by rw [h.1]; exact hl)]; rfl
  · rw [List.getElem?_set_ne (by omega)]
    obtain ⟨t, rfl⟩ : ∃ i, t = i + 1 := ⟨t - 1, by omega⟩
    rw [List.getElem?_cons_succ]
    rcases Nat.lt_or_ge (t + 1) rs.length with h2 | h2
    · rw [h.2 _ h2, if_pos (by omega), List.getElem?_take_of_lt (by omega)]; rfl
    · rw [List.getElem?_eq_none (by rw [h.1]; exact h2), List.getElem?_eq_none (by rw [List.length_take]; omega)]
theorem by_less (A B : Option Addr) (n c m d : Nat) (xs ys : List Nat) (w : World) (hx : U32s w A n c xs) (hy : U32s w B m d ys) (hs : n ≤ 8589934592) (hlt : num xs < num ys) :
    Calls Tryz.prog 182 #[.slice A n c, .slice B m d] w (NewU32s w [] (digs (num xs))) := by
  have hc := cmp_any A B n c m d xs ys w hx hy
  rw [cmp3_lt hlt] at hc
  have HC := Lib.hid hc
  have HX := Lib.hid hx
  clear hc hx hy hlt
  go_enter Tryz.func182, Tryz.ntmps182
  go_wp2_with fail
  refine HC.out.mono ?_
  rintro e w1 ⟨rfl, k, rfl⟩
  have hnorm := norm_any A n c xs (w.drewN k) (HX.out.below (below_drewN (Below.refl _ _) k)) (by omega)
  rw [trim_eq_digs HX.out.w32] at hnorm
  have HN := Lib.hid hnorm
  clear hnorm HC
  go_wp2_with fail
  refine HN.out.mono ?_
  rintro e w2 ⟨A1, n1, c1, rfl, hu1, hb1⟩
  have HF := Lib.hid (show NewU32s w [] (digs (num xs)) (.returned (.tuple #[.slice none 0 0, .slice A1 n1 c1])) w2 from ⟨none, 0, 0, A1, n1, c1, rfl, U32s.nil _ _ _, hu1, (below_drewN (Below.refl _ _) k).trans hb1⟩)
  clear hu1 hb1 HN
  go_wp2
  go_ret2
  exact HF.out
end Go.Proofs.YthlmlmfebpjgdaaGreatDoor

namespace Go.Proofs.YthlmlmfebpjgdaaGreatDoor
open Go.RowKit
set_option maxRecDepth 100000 in
theorem by_main (A B : Option Addr) (n c m d : Nat) (xs ys : List Nat) (w : World) (hx : U32s w A n c xs) (hy : U32s w B m d ys) (hs : n ≤ 1073741824) (hm : m ≤ 1073741824) (h0 : 0 < num ys) (hle : num ys ≤ num xs) :
    Calls Tryz.prog 182 #[.slice A n c, .slice B m d] w (NewU32s w (digs (num xs / num ys)) (digs (num xs % num ys))) := by
  have hc := cmp_any A B n c m d xs ys w hx hy
  obtain ⟨cv, hcv⟩ : ∃ cv, cmp3 (num xs) (num ys) = cv := ⟨_, rfl⟩
  have hcv0 : ¬ cv < 0 := by rw [← hcv, cmp3_neg]; omega
  rw [hcv] at hc
  have HC := Lib.hid hc
  have HX := Lib.hid hx
  have HY := Lib.hid hy
  have HLE := Lib.hid hle
  have H0 := Lib.hid h0
  clear hc hx hy hle hcv
  obtain ⟨L, hL⟩ : ∃ L, blen (num ys) = L := ⟨_, rfl⟩
  have hL0 : 1 ≤ L := by
    rw [← hL]
    have := @blen_eq_zero (num ys); omega
  have hL1 : L ≤ 32 * m := by
    rw [← hL, blen_le_iff]
    have := num_lt HY.out.w32
    rwa [HY.out.len] at this
  obtain ⟨s, hs0⟩ : ∃ s, 31 - (L - 1) % 32 = s := ⟨_, rfl⟩
  have hs1 : s ≤ 31 := by omega
  have hsI : 31 - ((L : Int) - 1) % 32 = (s : Int) := by omega
  have HLL := Lib.hid hL
  clear hL h0 hs0
  go_enter Tryz.func182, Tryz.ntmps182
  go_wp2_with fail
  refine HC.out.mono ?_
  rintro e w0 ⟨rfl, k0, rfl⟩
  clear HC
  have hlen := len_any B m d ys (w.drewN k0) (HY.out.below (below_drewN (Below.refl _ _) k0))
  rw [HLL.out] at hlen
  have HLEN := Lib.hid hlen
  clear hlen
  go_wp2_with fail
  refine HLEN.out.mono ?_
  rintro e w0 ⟨rfl, rfl⟩
  clear HLEN
  have hl1 := left_any A n c s xs (w.drewN k0) (HX.out.below (below_drewN (Below.refl _ _) k0)) (by omega) (by omega)
  have HL1 := Lib.hid hl1
  clear hl1
  go_wp2_with fail
  refine HL1.out.mono ?_
  rintro e w1 ⟨Au, nu, cu, rfl, hu, hb1⟩
  have hBw1 : Below w.heap.size w w1 := (below_drewN (Below.refl _ _) k0).trans hb1
  have hl2 := left_any B m d s ys w1 (HY.out.below hBw1) (by omega) (by omega)
  have HL2 := Lib.hid hl2
  have HU := Lib.hid hu
  have HB1 := Lib.hid hBw1
  clear hl2 HL1 hu hb1 hBw1
  go_wp2_with fail
  refine HL2.out.mono ?_
  rintro e w2 ⟨Av, nv, cv', rfl, hv, hb2⟩
  have HU2 := Lib.hid (HU.out.below hb2)
  have HV := Lib.hid hv
  have HB2 := Lib.hid (show Below w.heap.size w w2 from HB1.out.trans (hb2.mono HB1.out.size))
  clear HL2 HU HB1 hv hb2
  have hVpos : 0 < num ys * 2^s := Nat.mul_pos H0.out (Nat.two_pow_pos s)
  have hnu : nu ≤ n + 1 := by
    rw [← HU2.out.len]
    refine digs_length_le ?_
    have h1 := num_lt HX.out.w32
    rw [HX.out.len] at h1
    calc num xs * 2^s < 2^(32 * n) * 2^s := Nat.mul_lt_mul_of_pos_right h1 (Nat.two_pow_pos s)
      _ ≤ 2^(32 * (n + 1)) := by rw [← Nat.pow_add]; exact Nat.pow_le_pow_right (by omega) (by omega)
  have hnv : nv ≤ m + 1 := by
    rw [← HV.out.len]
    refine digs_length_le ?_
    have h1 := num_lt HY.out.w32
    rw [HY.out.len] at h1
    calc num ys * 2^s < 2^(32 * m) * 2^s := Nat.mul_lt_mul_of_pos_right h1 (Nat.two_pow_pos s)
      _ ≤ 2^(32 * (m + 1)) := by rw [← Nat.pow_add]; exact Nat.pow_le_pow_right (by omega) (by omega)
  have hnv0 : 1 ≤ nv := by
    have h1 := HV.out.len
    have := @digs_length_eq_zero (num ys * 2^s)
    omega
  have HVP := Lib.hid hVpos
  clear hVpos
  have hmk1 := fun W => make_u32 (N := (nu : Int)) (n := nu) rfl (by omega) W
  have hmk2 := fun W => make_u32 (N := (nv : Int) + 1) (n := nv + 1) (by omega) (by omega) W
  have hdiv1 : num xs * 2^s / (num ys * 2^s) = num xs / num ys := Nat.mul_div_mul_right _ _ (Nat.two_pow_pos s)
  have hdiv2 : num xs * 2^s % (num ys * 2^s) / 2^s = num xs % num ys := by rw [Nat.mul_mod_mul_right, Nat.mul_div_cancel _ (Nat.two_pow_pos s)]
  have hUn : num (digs (num xs * 2^s)) = num xs * 2^s := num_digs _
  obtain ⟨U, hU⟩ : ∃ U, num xs * 2^s = U := ⟨_, rfl⟩
  obtain ⟨V, hVV⟩ : ∃ V, num ys * 2^s = V := ⟨_, rfl⟩
  rw [hU, hVV] at hdiv1 hdiv2
  rw [hU] at HU2 hUn
  rw [hVV] at HV HVP
  have HD1 := Lib.hid hdiv1
  have HD2 := Lib.hid hdiv2
  clear hdiv1 hdiv2 hU hVV H0 HLE HX HY hUn HLL
  have hul : (digs U).length = nu := HU2.out.len
  have HUL := Lib.hid hul
  clear hul
  go_wp2
  go_loopw [11] (fun iv wr => ∃ (i R : Nat) (qs rs : List Nat), iv = .int .i64 ((i : Int) - 1) ∧ i ≤ nu ∧ ByInv (digs U) qs V R i ∧ Arr wr w2.heap.size qs ∧ Arr wr (w2.heap.size + 1) rs ∧ W32 rs ∧ rs.length = nv + 1 ∧ num rs = R ∧ Below w2.heap.size w2 wr) (fun iv _ => (intOf iv + 1).toNat)
  case atStart =>
    refine ⟨nu, 0, List.replicate nu 0, List.replicate (nv + 1) 0, rfl, Nat.le_refl _, ?_, ?_, ?_, W32.replicate _, by simp, num_replicate _, ?_⟩
    · have := ByInv.start (digs U) HVP.out
      rw [HUL.out] at this; exact this
    · exact (Arr.zeros _ _).alloc _
    · have := Arr.zeros (w2.alloc (.cells (Array.replicate nu (wd 0)) 117)) (nv + 1)
      simpa using this
    · exact (below_alloc _ _).alloc (by simp) _
  case round =>
    clear hmk1 hmk2
    obtain ⟨i, R, qs, rs, rfl, hi, hinv, hq, hr, hrw, hrl, hrn, hb⟩ := hrel
    have HI := Lib.hid hinv
    have HQ := Lib.hid hq
    have HR := Lib.hid hr
    have HRW := Lib.hid hrw
    have HRL := Lib.hid hrl
    have HRN := Lib.hid hrn
    have HB := Lib.hid hb
    clear hinv hq hr hrw hrl hrn hb
    rcases Nat.eq_zero_or_pos i with hi0 | hi0
    · subst hi0
      obtain ⟨e1, e2⟩ := HI.out.done
      rw [num_digs] at e1 e2
      have hright := right_any (some ⟨w2.heap.size + 1, 0, none⟩) (nv + 1) (nv + 1) s rs wr (HR.out.u32s' HRW.out HRL.out (by omega)) (by omega) (by omega)
      rw [HRN.out, ← e2, HD2.out] at hright
      have HRI := Lib.hid hright
      have E1 := Lib.hid e1
      clear hright e1 e2
      go_wp2_with fail
      refine HRI.out.mono ?_
      rintro e w3 ⟨A3, n3, c3, rfl, hu3, hb3⟩
      have HU3 := Lib.hid hu3
      have hqw : W32 qs := HI.out.1
      have hnorm := norm_any (some ⟨w2.heap.size, 0, none⟩) nu nu qs w3 ((HQ.out.u32s' hqw (by rw [HI.out.2.1, HUL.out]) (by omega)).below hb3) (by omega)
      rw [trim_eq_digs hqw, ← E1.out, HD1.out] at hnorm
      have HN := Lib.hid hnorm
      have HB3 := Lib.hid (show Below w.heap.size w w3 from HB2.out.trans ((HB.out.mono HB2.out.size).trans (hb3.mono (Nat.le_trans HB2.out.size HB.out.size))))
      clear hnorm HRI hu3 hb3 hqw
      go_wp2_with fail
      refine HN.out.mono ?_
      rintro e w4 ⟨A4, n4, c4, rfl, hu4, hb4⟩
      have HF := Lib.hid (show NewU32s w (digs (num xs / num ys)) (digs (num xs % num ys)) (.returned (.tuple #[.slice A4 n4 c4, .slice A3 n3 c3])) w4 from ⟨A4, n4, c4, A3, n3, c3, rfl, hu4, HU3.out.below hb4, HB3.out.trans (hb4.mono HB3.out.size)⟩)
      clear hu4 hb4 HN
      go_wp2
      go_ret2
      exact HF.out
    · obtain ⟨t, rfl⟩ : ∃ t, i = t + 1 := ⟨i - 1, by omega⟩
      rw [show (((t + 1 : Nat) : Int) - 1) = (t : Int) from by omega]
      have j0 : (0 : Int) ≤ (t : Int) := by omega
      obtain ⟨wo, hwo⟩ : ∃ wo : World, wo = wr := ⟨_, rfl⟩
      subst hwo
      go_wp2
      go_loopw [12] (fun jv wr => ∃ (j : Nat) (cur : List Nat), jv = .int .i64 j ∧ j ≤ nv ∧ Moved rs cur j ∧ Arr wr w2.heap.size qs ∧ Arr wr (w2.heap.size + 1) cur ∧ Below w2.heap.size w2 wr) (fun jv _ => (intOf jv).toNat)
      case atStart => exact ⟨nv, rs, by go_num, Nat.le_refl _, by have := Moved.start rs; rw [HRL.out] at this; exact this, HQ.out, HR.out, HB.out⟩
      case round =>
        clear HQ HR HB
        obtain ⟨j, cur, rfl, hj, hmv, hq, hr, hb⟩ := hrel
        have HMV := Lib.hid hmv
        have HQ := Lib.hid hq
        have HR := Lib.hid hr
        have HB := Lib.hid hb
        clear hmv hq hr hb
        rcases Nat.eq_zero_or_pos j with hj0 | hj0
        · subst hj0
          rw [show ((0 : Nat) : Int) = 0 from rfl]
          obtain ⟨ad, rfl, hcu⟩ := (HU2.out.below HB.out).cell (j := t) (by omega)
          have hu1 := HU2.out.lt t
          have hl := HMV.out.1
          have hf0 := HR.out.frozen 0
          have hc0 := HR.out.cell (j := 0) (by rw [hl, HRL.out]; omega)
          obtain ⟨x1, hx1⟩ : ∃ x, cur[0]?.getD 0 = x := ⟨_, rfl⟩
          rw [hx1] at hc0
          obtain ⟨u, hu⟩ : ∃ u, (digs U)[t]?.getD 0 = u := ⟨_, rfl⟩
          rw [hu] at hcu hu1
          have hRV : R < V := HI.out.2.2.2
          have hnum := HMV.out.done (by intro h; rw [h] at HRL; have := HRL.out; simp at this) (by
            rw [HRL.out, Nat.add_sub_cancel]
            have h1 : num rs < 2^(32 * nv) := by
              rw [HRN.out]
              refine Nat.lt_trans hRV ?_
              have := num_lt HV.out.w32
              rwa [HV.out.len, num_digs] at this
            have h2 := num_take_next rs nv
            rw [List.take_of_length_le (by rw [HRL.out]; exact Nat.le_refl _)] at h2
            rcases Nat.eq_zero_or_pos (rs[nv]?.getD 0) with h3 | h3
            · exact h3
            · have := Nat.le_mul_of_pos_right (2^(32 * nv)) h3; omega) u
          rw [HRN.out] at hnum
          have hcw : W32 (cur.set 0 u) := by
            refine W32.of_get fun j => ?_
            by_cases hj1 : j = 0
            · subst hj1; rw [List.getElem?_set_self (by rw [hl, HRL.out]; omega)]; exact hu1
            · rw [List.getElem?_set_ne (by omega)]
              rcases Nat.lt_or_ge j rs.length with h2 | h2
              · rw [HMV.out.2 j h2]; split
                · exact HRW.out.get _
                · exact HRW.out.get _
              · rw [List.getElem?_eq_none (by rw [hl]; exact h2)]; simp
          have hT : num (cur.set 0 u) < V * 4294967296 := by
            rw [hnum]
            have : 4294967296 * (R + 1) ≤ 4294967296 * V := Nat.mul_le_mul_left _ hRV
            omega
          obtain ⟨T, hTT⟩ : ∃ T, u + 4294967296 * R = T := ⟨_, rfl⟩
          rw [hTT] at hnum
          rw [hnum] at hT
          have HN1 := Lib.hid hnum
          have HCW := Lib.hid hcw
          have HT := Lib.hid hT
          have HTT := Lib.hid hTT
          have HUU := Lib.hid hu
          have HRV := Lib.hid hRV
          have HCL := Lib.hid (show (cur.set 0 u).length = nv + 1 by rw [List.length_set, hl, HRL.out])
          clear hl hx1 hnum hcw hT hTT hu hRV
          obtain ⟨w5, hw5⟩ : ∃ w5 : World, w5 = wr := ⟨_, rfl⟩
          subst hw5
          go_wp2
          go_loopw [13] (fun dv wr => ∃ (d : Nat) (cur : List Nat), dv = .int .u64 (d : Int) ∧ d * V + num cur = T ∧ Arr wr w2.heap.size qs ∧ Arr wr (w2.heap.size + 1) cur ∧ W32 cur ∧ cur.length = nv + 1 ∧ Below w2.heap.size w2 wr) (fun dv _ => 4294967296 - (intOf dv).toNat)
          case atStart => exact ⟨0, _, rfl, by rw [HN1.out]; omega, HQ.out.far (by simp) _, HR.out.set _ _, HCW.out, HCL.out, HB.out.setCell (by simp) _⟩
          case round =>
            clear HQ HR HB hcu hf0 hc0 HN1 HCW HCL
            obtain ⟨dd, cur, rfl, hsum, hq, hr, hcw, hcl, hb⟩ := hrel
            have hd32 : dd < 4294967296 := by
              rcases Nat.lt_or_ge dd 4294967296 with h | h
              · exact h
              · have h1 : 4294967296 * V ≤ dd * V := Nat.mul_le_mul_right _ h
                rw [Nat.mul_comm] at h1
                have := HT.out; omega
            have hU1 := hr.u32s' hcw hcl (by omega)
            have hV1 := HV.out.below hb
            have hcmp := cmp_any (some ⟨w2.heap.size + 1, 0, none⟩) Av (nv + 1) (nv + 1) nv cv' cur (digs V) _ hU1 hV1
            rw [num_digs] at hcmp
            obtain ⟨cv2, hcv2⟩ : ∃ cv, cmp3 (num cur) V = cv := ⟨_, rfl⟩
            rw [hcv2] at hcmp
            have HCMP := Lib.hid hcmp
            have HSUM := Lib.hid hsum
            have HQ := Lib.hid hq
            have HR := Lib.hid hr
            have HCW := Lib.hid hcw
            have HCL := Lib.hid hcl
            have HB := Lib.hid hb
            have HV1 := Lib.hid hV1
            by_cases hge : V ≤ num cur
            · have g0 : 0 ≤ cv2 := by rw [← hcv2, cmp3_nonneg]; exact hge
              have HGE := Lib.hid hge
              clear hU1 hV1 hcmp hcv2 hsum hq hr hcw hcl hb hge
              go_wp2_with fail
              refine HCMP.out.mono ?_
              rintro e w6 ⟨rfl, k6, rfl⟩
              clear HCMP
              have hgs := guess_at Av (w2.heap.size + 1) nv cv' cur (digs V) (World.drewN _ k6) (HR.out.drewN k6) HCW.out (HV1.out.below (below_drewN (Below.refl _ _) k6)) hnv0 HCL.out (by omega) (by rw [num_digs]; exact HGE.out) (by rw [num_digs]; have := HT.out; have := HSUM.out; omega)
              rw [num_digs] at hgs
              have HGS := Lib.hid hgs
              clear hgs
              go_wp2_with fail
              refine HGS.out.mono ?_
              rintro e w7 ⟨x, rfl, hx0, hx1, hx2, k7, rfl⟩
              clear HGS
              have HX2 := Lib.hid hx2
              clear hx2
              go_wp2_with fail
              have hsb := sub_any Av (w2.heap.size + 1) (nv + 1) nv cv' x cur (digs V) (World.drewN (World.drewN _ k6) k7) ((HR.out.drewN k6).drewN k7) HCW.out (HV1.out.below (below_drewN (below_drewN (Below.refl _ _) k6) k7))
                (by
                  intro ad' e
                  obtain ⟨ad2, e2, hlt2, _⟩ := HV.out.at_ (by omega)
                  rw [e] at e2
                  injection e2 with e2
                  subst e2; omega) HCL.out (by omega) (by omega) hx1 (by rw [num_digs]; exact HX2.out)
              rw [num_digs] at hsb
              rw [World.drewN_drewN] at hsb
              have HSB := Lib.hid hsb
              clear hsb
              refine HSB.out.mono ?_
              rintro e w8 ⟨cur2, rfl, hr2, hw2, hl2, hn2, hg2⟩
              have HR2 := Lib.hid hr2
              have HW2 := Lib.hid hw2
              have HL2 := Lib.hid hl2
              have HN2 := Lib.hid hn2
              have HQ2 := Lib.hid (show Arr w8 w2.heap.size qs from (HQ.out.drewN (k6 + k7)).of_block (hg2.block _ (HQ.out.drewN (k6 + k7)).lt (by simp)))
              have HB2' := Lib.hid (show Below w2.heap.size w2 w8 from (below_drewN HB.out (k6 + k7)).grown hg2 HB.out.size (fun k hk => by injection hk with hk; omega))
              have hsum2 : (dd + x) * V + num cur2 = T := by
                have h1 := HSUM.out
                have h2 := HX2.out
                rw [hn2, Nat.add_mul]; omega
              have hd2 : dd + x < 4294967296 := by
                rcases Nat.lt_or_ge (dd + x) 4294967296 with h | h
                · exact h
                · have h1 : 4294967296 * V ≤ (dd + x) * V := Nat.mul_le_mul_right _ h
                  rw [Nat.mul_comm] at h1
                  have := HT.out; omega
              have HS2 := Lib.hid hsum2
              clear HSB hr2 hw2 hl2 hn2 hg2 hsum2
              go_wp2
              go_roundw
              case rel => exact ⟨dd + x, cur2, by go_num, HS2.out, HQ2.out, HR2.out, HW2.out, HL2.out, HB2'.out⟩
              case measure => simp [intOf]; omega
            · have g0 : ¬ 0 ≤ cv2 := by rw [← hcv2, cmp3_nonneg]; omega
              have hlt : num cur < V := by omega
              have HLT := Lib.hid hlt
              clear hU1 hV1 hcmp hcv2 hsum hq hr hcw hcl hb hge hlt
              go_wp2_with fail
              refine HCMP.out.mono ?_
              rintro e w6 ⟨rfl, k6, rfl⟩
              clear HCMP
              have hf1 := (HQ.out.drewN k6).frozen t
              have hc1 := (HQ.out.drewN k6).cell (j := t) (by rw [HI.out.2.1, HUL.out]; omega)
              obtain ⟨y1, hy1⟩ : ∃ y, qs[t]?.getD 0 = y := ⟨_, rfl⟩
              rw [hy1] at hc1
              have hst := HI.out.step (i := t) (d := dd) (R' := num cur) (by rw [HUL.out]; omega) hd32 (by rw [HUU.out, HTT.out, HSUM.out]) HLT.out
              have HST := Lib.hid hst
              clear hst hy1
              have m1 : (dd : Int) % 4294967296 = (dd : Int) := by omega
              go_wp2
              go_roundw
              case rel => exact ⟨t, num cur, qs.set t dd, cur, by go_num, by omega, HST.out, (HQ.out.drewN k6).set _ _, (HR.out.drewN k6).far (by simp) _, HCW.out, HCL.out, rfl, (below_drewN HB.out k6).setCell (by simp) _⟩
              case measure => simp [intOf]
        · obtain ⟨j, rfl⟩ : ∃ i, j = i + 1 := ⟨j - 1, by omega⟩
          have hl := HMV.out.1
          have hc0 := HR.out.cell (j := j) (by rw [hl, HRL.out]; omega)
          have hc1 := HR.out.cell (j := j + 1) (by rw [hl, HRL.out]; omega)
          have hf1 := HR.out.frozen (j + 1)
          have hv0 := HMV.out.2 j (by rw [HRL.out]; omega)
          rw [if_neg (by omega)] at hv0
          rw [hv0] at hc0
          obtain ⟨x1, hx1⟩ : ∃ x, cur[j + 1]?.getD 0 = x := ⟨_, rfl⟩
          rw [hx1] at hc1
          have HMS := Lib.hid (HMV.out.step (by rw [HRL.out]; omega))
          obtain ⟨x0, hx0⟩ : ∃ x, rs[j]?.getD 0 = x := ⟨_, rfl⟩
          rw [hx0] at hc0 HMS
          clear hl hv0 hx1 hx0
          rw [show ((j + 1 : Nat) : Int) = (j : Int) + 1 from by omega]
          have i4 : ((j : Int) + 1).toNat = j + 1 := by omega
          have i5 : ((j : Int) + 1) < ((nv + 1 : Nat) : Int) := by omega
          go_wp2
          go_roundw
          case rel => exact ⟨j, _, by go_num, by omega, HMS.out, HQ.out.far (by simp) _, HR.out.set _ _, HB.out.setCell (by simp) _⟩
          case measure => simp [intOf]
end Go.Proofs.YthlmlmfebpjgdaaGreatDoor

namespace Go.Proofs.YthlmlmfebpjgdaaGreatDoor
open Go.RowKit
theorem word_any (A : Option Addr) (n c : Nat) (xs : List Nat) (w : World) (hx : U32s w A n c xs) (hv : wlen xs ≤ 2) :
    Calls Tryz.prog 261 #[.slice A n c] w fun e w' => e = .returned (.tuple #[.int .u64 (num xs), .bool true]) ∧ w = w' := by
  have HX := Lib.hid hx
  have n1 := hx.small
  have l1 := wlen_le xs
  rw [hx.len] at l1
  clear hx
  go_enter Tryz.func261, Tryz.ntmps261
  go_wp2_with fail
  refine (words_any A n c xs w HX.out).mono ?_
  rintro e w' ⟨rfl, rfl⟩
  have g2 : ¬ (2 : Int) < (wlen xs : Int) := by omega
  go_wp2
  go_loop [5, 6] (fun y v => ∃ k x : Nat, v = .int .i64 ((k : Int) - 1) ∧ y = .int .u64 (x : Int) ∧ k ≤ wlen xs ∧ x = num (xs.drop k) ∧ x < 4294967296 ^ (wlen xs - k)) (fun _ v => (intOf v + 1).toNat)
  case atStart => exact ⟨wlen xs, 0, rfl, rfl, Nat.le_refl _, by rw [num_drop HX.out.w32, Nat.div_eq_of_lt (num_lt_wlen HX.out.w32)], Nat.pow_pos (by omega)⟩
  case round =>
    obtain ⟨k, x, rfl, rfl, hk, hx, hlt⟩ := hrel
    have HN := Lib.hid hx
    have HP := Lib.hid hlt
    clear hx hlt
    rcases Nat.eq_zero_or_pos k with h0 | h0
    · subst h0
      go_wp2
      go_ret2
      have hn : num xs = x := HN.out.symm
      exact ⟨by rw [hn]; rfl, rfl⟩
    · obtain ⟨i, rfl⟩ : ∃ i, k = i + 1 := ⟨k - 1, by omega⟩
      obtain ⟨ad, rfl, hc⟩ := HX.out.cell (j := i) (by omega)
      have hy := HX.out.lt i
      have hx1 : x < 4294967296 := by
        have h1 := HP.out
        have h2 : wlen xs - (i + 1) ≤ 1 := by omega
        exact Nat.lt_of_lt_of_le h1 (Nat.le_trans (Nat.pow_le_pow_right (by omega) h2) (by omega))
      have e0 : num (xs.drop i) = xs[i]?.getD 0 + 4294967296 * x := by
        rw [HN.out, num_tail (xs.drop i)]
        congr 2
        · rw [List.getElem?_drop]; rfl
        · rw [List.tail_drop]
      have E0 := Lib.hid e0
      clear e0
      rw [show (((i + 1 : Nat) : Int) - 1) = (i : Int) from by omega]
      have HB := Lib.hid (or_join (i := 32) (x := x) (y := xs[i]?.getD 0) (by omega) hy (by omega))
      go_wp2
      go_round
      case rel =>
        refine ⟨i, x * 4294967296 + xs[i]?.getD 0, rfl, ?_, by omega, by rw [E0.out]; omega, ?_⟩
        · rw [← HB.out]; rfl
        · rw [show wlen xs - i = wlen xs - (i + 1) + 1 from by omega, Nat.pow_succ]
          have h1 := HP.out
          have : (x + 1) * 4294967296 ≤ 4294967296 ^ (wlen xs - (i + 1)) * 4294967296 := Nat.mul_le_mul_right _ h1
          omega
      case measure => simp [intOf]
end Go.Proofs.YthlmlmfebpjgdaaGreatDoor

namespace Go.Proofs.YthlmlmfebpjgdaaGreatDoor
open Go.RowKit
theorem by_v {a b : Nat} (A B : Option Addr) (n c m d : Nat) (w : World) (hx : U32s w A n c (digs a)) (hy : U32s w B m d (digs b)) (hs : n ≤ 1073741824) (hm : m ≤ 1073741824) (h0 : 0 < b) :
    Calls Tryz.prog 182 #[.slice A n c, .slice B m d] w (NewU32s w (digs (a / b)) (digs (a % b))) := by
  rcases Nat.lt_or_ge a b with h | h
  · have := by_less A B n c m d _ _ w hx hy (by omega) (by rw [num_digs, num_digs]; exact h)
    rw [num_digs] at this
    rw [Nat.div_eq_of_lt h, Nat.mod_eq_of_lt h, digs_zero]
    exact this
  · have := by_main A B n c m d _ _ w hx hy hs hm (by rw [num_digs]; exact h0) (by rw [num_digs, num_digs]; exact h)
    rw [num_digs, num_digs] at this
    exact this
theorem len_v {a : Nat} (A : Option Addr) (n c : Nat) (w : World) (hx : U32s w A n c (digs a)) :
    Calls Tryz.prog 224 #[.slice A n c] w fun e w' => e = .returned (.int .i64 (blen a : Int)) ∧ w = w' := by
  have := len_any A n c _ w hx
  rw [num_digs] at this
  exact this
theorem cmp_v {a b : Nat} (A B : Option Addr) (n c m d : Nat) (w : World) (hx : U32s w A n c (digs a)) (hy : U32s w B m d (digs b)) :
    Calls Tryz.prog 98 #[.slice A n c, .slice B m d] w fun e w' => e = .returned (.int .i64 (cmp3 a b)) ∧ ∃ k, w' = w.drewN k := by
  have := cmp_any A B n c m d _ _ w hx hy
  rw [num_digs, num_digs] at this
  exact this
theorem word_v {a : Nat} (A : Option Addr) (n c : Nat) (w : World) (hx : U32s w A n c (digs a)) (h : a < 18446744073709551616) :
    Calls Tryz.prog 261 #[.slice A n c] w fun e w' => e = .returned (.tuple #[.int .u64 (a : Int), .bool true]) ∧ w = w' := by
  have h2 : n ≤ 2 := hx.len_le (k := 2) (Nat.lt_of_lt_of_le h (by decide))
  have := word_any A n c _ w hx (by have := wlen_le (digs a); have := hx.len; omega)
  rw [num_digs] at this
  exact this
def fdec (p q : Nat) (f : Int) : Bool := if 0 ≤ f then decide (p < q * 2^f.toNat) else decide (p * 2^(-f).toNat < q)
def fout (p q : Nat) (f : Int) : Int := if fdec p q f then f - 1 else f
theorem fout_sc {p q : Nat} {f : Int} (hp : 0 < p) (hq : 0 < q) (hf : f = (blen p : Int) - blen q) : Sc p q (fout p q f) := by
  unfold fout
  by_cases h : fdec p q f = true
  · rw [if_pos h]
    unfold fdec at h
    refine scale_down hp hq hf (fun h0 => ?_) (fun h0 => ?_)
    · rw [if_pos h0] at h; exact of_decide_eq_true h
    · rw [if_neg (by omega)] at h; exact of_decide_eq_true h
  · rw [if_neg h]
    unfold fdec at h
    refine scale_keep hp hq hf (fun h0 => ?_) (fun h0 => ?_)
    · rw [if_pos h0] at h; simp at h; exact h
    · rw [if_neg (by omega)] at h; simp at h; exact h
theorem cmp3_lt_iff {a b : Nat} : decide (cmp3 a b < 0) = decide (a < b) := by
  rw [decide_eq_decide]
  unfold cmp3
  split
  · constructor <;> intro <;> omega
  · split <;> constructor <;> intro <;> omega
theorem upN_lt {p K : Nat} {E : Int} (hp : p < 2^(32 * K)) (hE : -1074 ≤ E) : upN p E < 2^(32 * (K + 34)) := by
  unfold upN
  calc p * 2^(-E).toNat < 2^(32 * K) * 2^(-E).toNat := Nat.mul_lt_mul_of_pos_right hp (Nat.two_pow_pos _)
    _ = 2^(32 * K + (-E).toNat) := by rw [← Nat.pow_add]
    _ ≤ 2^(32 * (K + 34)) := Nat.pow_le_pow_right (by omega) (by omega)
theorem upM_lt {p K : Nat} {E : Int} (hp : p < 2^(32 * K)) (hE : E ≤ 971) : upM p E < 2^(32 * (K + 34)) := by
  unfold upM
  calc p * 2^E.toNat < 2^(32 * K) * 2^E.toNat := Nat.mul_lt_mul_of_pos_right hp (Nat.two_pow_pos _)
    _ = 2^(32 * K + E.toNat) := by rw [← Nat.pow_add]
    _ ≤ 2^(32 * (K + 34)) := Nat.pow_le_pow_right (by omega) (by omega)
set_option maxRecDepth 8000 in
theorem rounded_pos (K : Nat) (neg : Bool) (A B : Option Addr) (n c m d p q : Nat) (dd : Int) (w : World) (hu : U32s w A n c (digs p)) (hv : U32s w B m d (digs q)) (hp : 0 < p) (hq : 0 < q) (hpK : p < 2^(32 * K)) (hqK : q < 2^(32 * K)) (hK : K ≤ 1048576) (hd : dd = -1 ∨ dd = 1) :
    Calls Tryz.prog 234 #[.int .i64 dd, .agg #[.bool neg, .slice A n c, .slice B m d], .int .i64 53, .int .i64 1023] w fun e w' =>
      e = .returned (.int .u64 (pat (sg neg (ansT p q (fout p q ((blen p : Int) - blen q)) (decide (dd = 1) != neg))) : Int)) ∧ Below w.heap.size w w' := by
  have hr : RatV w K neg (.slice A n c) (.slice B m d) (rv neg p q) := ⟨p, q, A, n, c, B, m, d, rfl, rfl, hu, hv, hq, fun h => by omega, hpK, hqK, rfl⟩
  have ba := below_alloc w (.cells #[.bool neg, .slice A n c, .slice B m d] 42)
  have HS := Lib.hid fun W (hW : Below w.heap.size w W) => rsign_any K neg _ _ _ W (hr.below hW) (by omega)
  rw [rsg_rv hq (fun h => by omega), if_neg (by omega)] at HS
  have HL1 := Lib.hid fun W (hW : Below w.heap.size w W) => len_v A n c W (hu.below hW)
  have HL2 := Lib.hid fun W (hW : Below w.heap.size w W) => len_v B m d W (hv.below hW)
  have bp : blen p ≤ 33554432 := Nat.le_trans (blen_le_iff.2 hpK) (by omega)
  have bq : blen q ≤ 33554432 := Nat.le_trans (blen_le_iff.2 hqK) (by omega)
  obtain ⟨f0, hf0⟩ : ∃ f0, (blen p : Int) - blen q = f0 := ⟨_, rfl⟩
  have hsc := fout_sc hp hq hf0.symm
  rw [hf0]
  obtain ⟨s, hs⟩ : ∃ s : Int, (if neg = true then -1 else 1) = s := ⟨_, rfl⟩
  rw [hs] at HS
  have hs0 : (s == 0) = false := by rw [← hs]; cases neg <;> rfl
  obtain ⟨away, haw⟩ : ∃ a, (decide (dd = 1) != neg) = a := ⟨_, rfl⟩
  rw [haw]
  obtain ⟨f, hff⟩ : ∃ f, fout p q f0 = f := ⟨_, rfl⟩
  rw [hff] at hsc ⊢
  obtain ⟨PP, hPP⟩ : ∃ P, pat (sg neg (ansT p q f away)) = P := ⟨_, rfl⟩
  rw [hPP]
  have HPP := Lib.hid hPP
  have HFF := Lib.hid hff
  clear hPP hff
  have hn1 := hu.len_le hpK
  have hm1 := hv.len_le hqK
  have HU := Lib.hid hu
  have HV := Lib.hid hv
  have G0 := Lib.hid (Blk.new w 42 #[.bool neg, .slice A n c, .slice B m d])
  have BA := Lib.hid ba
  have HF0 := Lib.hid hf0
  have HAW := Lib.hid haw
  have HSS := Lib.hid hs
  have HSC := Lib.hid hsc
  have HPK := Lib.hid hpK
  have HQK := Lib.hid hqK
  have HP := Lib.hid hp
  have HQ := Lib.hid hq
  clear hr ba hu hv hsc haw hs hpK hqK hp hq
  have HHd := Lib.hid hd
  clear hd
  go_enter Tryz.func234, Tryz.ntmps234
  go_wp2_with fail
  refine (HS.out _ BA.out).mono ?_
  rintro e w1 ⟨rfl, hb1⟩
  have B1 := Lib.hid (BA.out.trans (hb1.mono BA.out.size))
  have G1 := Lib.hid (G0.out.keep hb1)
  clear hb1 BA G0 HS
  go_upto_region 4 with fail
  go_cut [10] (fun s10 wx => s10 = .bool away ∧ wx = w1)
  case first =>
    have haw := HAW.out
    have hs := HSS.out
    rcases HHd.out with rfl | rfl <;> cases neg <;> simp at haw hs <;> subst haw <;> subst hs <;> (go_wp2_with fail; go_meet; exact ⟨rfl, rfl⟩)
  case rest =>
  obtain ⟨rfl, rfl⟩ := hcut
  go_upto_region 5 with fail
  go_cut [11] (fun s11 wx => s11 = .bool false ∧ wc = wx)
  case first =>
    rcases HHd.out with rfl | rfl <;> (go_wp2_with fail; go_meet; exact ⟨rfl, rfl⟩)
  case rest =>
  obtain ⟨rfl, rfl⟩ := hcut
  have q1 := G1.out.cell 1
  have q2 := G1.out.cell 2
  simp at q1 q2
  go_wp2_with fail
  refine (HL1.out _ B1.out).mono ?_
  rintro e w2 ⟨rfl, rfl⟩
  go_wp2_with fail
  refine (HL2.out _ B1.out).mono ?_
  rintro e w2 ⟨rfl, rfl⟩
  obtain ⟨dec, hdec⟩ : ∃ b, fdec p q f0 = b := ⟨_, rfl⟩
  have HDEC := Lib.hid hdec
  clear hdec q1 q2
  have HLf := Lib.hid fun (g : Nat) W (hg : g ≤ 33554432) (hW : Below w.heap.size w W) => left_v (v := q) B m d g W (HV.out.below hW) (by omega) (by omega)
  have HLg := Lib.hid fun (g : Nat) W (hg : g ≤ 33554432) (hW : Below w.heap.size w W) => left_v (v := p) A n c g W (HU.out.below hW) (by omega) (by omega)
  go_upto_region 9 with fail
  go_cut [76] (fun s76 wx => s76 = .bool dec ∧ Below w.heap.size w wx)
  case first =>
    rcases Int.lt_or_le f0 0 with h0 | h0
    · obtain ⟨g, hg⟩ : ∃ g : Nat, -f0 = g := ⟨(-f0).toNat, by omega⟩
      have hg2 : g ≤ 33554432 := by omega
      have hd := HDEC.out
      unfold fdec at hd
      rw [if_neg (by omega), show (-f0).toNat = g from by omega, ← cmp3_lt_iff] at hd
      have c1 : decide (0 ≤ f0) = false := by simp; omega
      have c2 : decide (f0 < 0) = true := by simp; omega
      obtain ⟨cv, hcv⟩ : ∃ cv, cmp3 (p * 2^g) q = cv := ⟨_, rfl⟩
      rw [hcv] at hd
      have HCV := Lib.hid hcv
      clear hcv h0 hf0
      go_wp2_with fail
      refine (HLg.out g _ hg2 B1.out).mono ?_
      rintro e w3 ⟨A3, n3, c3, rfl, hu3, hb3⟩
      have B3 := Lib.hid (B1.out.trans (hb3.mono B1.out.size))
      have HC := Lib.hid (cmp_v A3 B n3 c3 m d w3 hu3 (HV.out.below B3.out))
      rw [HCV.out] at HC
      clear hu3 hb3
      go_wp2_with fail
      refine HC.out.mono ?_
      rintro e w4 ⟨rfl, k, rfl⟩
      cases dec <;> (go_wp2_with fail; go_meet; exact ⟨rfl, below_drewN B3.out k⟩)
    · obtain ⟨g, hg⟩ : ∃ g : Nat, f0 = g := ⟨f0.toNat, by omega⟩
      subst hg
      have hg2 : g ≤ 33554432 := by omega
      have hd := HDEC.out
      unfold fdec at hd
      rw [if_pos h0, Int.toNat_natCast, ← cmp3_lt_iff] at hd
      obtain ⟨cv, hcv⟩ : ∃ cv, cmp3 p (q * 2^g) = cv := ⟨_, rfl⟩
      rw [hcv] at hd
      have c2 : decide ((g : Int) < 0) = false := by simp
      have HCV := Lib.hid hcv
      clear hcv h0 hf0
      go_wp2_with fail
      refine (HLf.out g _ hg2 B1.out).mono ?_
      rintro e w3 ⟨A3, n3, c3, rfl, hu3, hb3⟩
      have B3 := Lib.hid (B1.out.trans (hb3.mono B1.out.size))
      have HC := Lib.hid (cmp_v A A3 n c n3 c3 w3 (HU.out.below B3.out) hu3)
      rw [HCV.out] at HC
      clear hu3 hb3
      go_wp2_with fail
      refine HC.out.mono ?_
      rintro e w4 ⟨rfl, k, rfl⟩
      cases dec <;> (go_wp2_with fail; go_meet; exact ⟨rfl, below_drewN B3.out k⟩)
  case rest =>
  obtain ⟨rfl, hbc⟩ := hcut
  have B4 := Lib.hid hbc
  clear hbc B1 G1 HLf HLg
  have hfo : (if dec = true then f0 - 1 else f0) = f := by rw [← HFF.out]; unfold fout; rw [HDEC.out]
  have HFO := Lib.hid hfo
  clear hfo
  go_upto_if 76 with fail
  go_cut [14] (fun s14 wx => s14 = .int .i64 f ∧ Below w.heap.size w wx)
  case first =>
    have hfo := HFO.out
    cases dec
    · rw [if_neg (by decide)] at hfo
      go_wp2_with fail
      go_meet
      exact ⟨by first | rfl | rw [hfo], B4.out⟩
    · rw [if_pos rfl] at hfo
      go_wp2_with fail
      go_meet
      exact ⟨by first | rfl | rw [hfo], B4.out⟩
  case rest =>
  obtain ⟨rfl, hbc⟩ := hcut
  have B5 := Lib.hid hbc
  clear hbc B4
  have hfb : -33554434 ≤ f ∧ f ≤ 33554433 := by
    have := HFO.out
    split at this <;> omega
  have hsn : decide (s < 0) = neg := by rw [← HSS.out]; cases neg <;> rfl
  clear HL1 HL2 hf0
  by_cases hov : 1023 < f
  · have hpp := HPP.out
    unfold ansT at hpp
    rw [if_pos hov] at hpp
    have HI := Lib.hid fun W => infinite_any neg W
    have HG := Lib.hid fun W => greatest_any neg W
    cases away
    · rw [if_neg (by decide)] at hpp
      rw [hpp] at HG
      clear hpp
      go_wp2_with fail
      refine (HG.out _).mono ?_
      rintro e w6 ⟨rfl, rfl⟩
      go_wp2
      go_ret
      exact ⟨rfl, B5.out⟩
    · rw [if_pos rfl] at hpp
      rw [hpp] at HI
      clear hpp
      go_wp2_with fail
      refine (HI.out _).mono ?_
      rintro e w6 ⟨rfl, rfl⟩
      go_wp2
      go_ret
      exact ⟨rfl, B5.out⟩
  · have hov2 : f ≤ 1023 := by omega
    have hov3 : decide (1023 < f) = false := by simp; omega
    obtain ⟨E, hE⟩ : ∃ E, lastBit f = E := ⟨_, rfl⟩
    have hEb := lastBit_bounds hov2
    rw [hE] at hEb
    have hpp := HPP.out
    unfold ansT at hpp
    rw [if_neg hov, hE] at hpp
    have HPP := Lib.hid hpp
    have HE := Lib.hid hE
    have HOV2 := Lib.hid hov2
    clear hpp hE hov hov2
    go_upto_if 103 with fail
    go_cut [15] (fun s15 wx => s15 = .int .i64 E ∧ wc = wx)
    case first =>
      have hE := HE.out
      unfold lastBit at hE
      by_cases h : f - 52 < -1074
      · rw [if_pos h] at hE
        have h2 : decide (f - 53 + 1 < -1074) = true := by simp; omega
        go_wp2_with fail
        go_meet
        exact ⟨by first | rfl | rw [hE], rfl⟩
      · rw [if_neg h] at hE
        have h2 : decide (f - 53 + 1 < -1074) = false := by simp; omega
        have h3 : f - 53 + 1 = E := by omega
        go_wp2_with fail
        go_meet
        exact ⟨by first | rfl | rw [h3], rfl⟩
    case rest =>
    obtain ⟨rfl, rfl⟩ := hcut
    have HLm := Lib.hid fun (g : Nat) W (hg : g ≤ 33554432) (hW : Below w.heap.size w W) => left_v (v := q) B m d g W (HV.out.below hW) (by omega) (by omega)
    have HLn := Lib.hid fun (g : Nat) W (hg : g ≤ 33554432) (hW : Below w.heap.size w W) => left_v (v := p) A n c g W (HU.out.below hW) (by omega) (by omega)
    go_upto_if 109 with fail
    go_cut [12, 13] (fun s12 s13 wx => ∃ A1 n1 c1 B1 m1 d1, s12 = .slice A1 n1 c1 ∧ s13 = .slice B1 m1 d1 ∧ U32s wx A1 n1 c1 (digs (upN p E)) ∧ U32s wx B1 m1 d1 (digs (upM q E)) ∧ Below w.heap.size w wx)
    case first =>
      rcases Int.lt_or_le E 0 with h0 | h0
      · obtain ⟨g, hg⟩ : ∃ g : Nat, -E = g := ⟨(-E).toNat, by omega⟩
        have hg2 : g ≤ 33554432 := by omega
        have e1 : upN p E = p * 2^g := by unfold upN; rw [show (-E).toNat = g from by omega]
        have e2 : upM q E = q := by unfold upM; rw [show E.toNat = 0 from by omega, Nat.pow_zero, Nat.mul_one]
        have E1 := Lib.hid e1
        have E2 := Lib.hid e2
        have c1 : decide (0 ≤ E) = false := by simp; omega
        have c2 : ¬ (0 ≤ E) := by omega
        clear e1 e2
        go_wp2_with fail
        refine (HLn.out g _ hg2 B5.out).mono ?_
        rintro e w6 ⟨A3, n3, c3, rfl, hu3, hb3⟩
        have HU3 := Lib.hid hu3
        have B6 := Lib.hid (B5.out.trans (hb3.mono B5.out.size))
        clear hu3 hb3
        go_wp2_with fail
        go_meet
        exact ⟨A3, n3, c3, B, m, d, rfl, rfl, by rw [E1.out]; exact HU3.out, by rw [E2.out]; exact HV.out.below B6.out, B6.out⟩
      · obtain ⟨g, hg⟩ : ∃ g : Nat, E = g := ⟨E.toNat, by omega⟩
        subst hg
        have hg2 : g ≤ 33554432 := by omega
        have e1 : upM q (g : Int) = q * 2^g := by unfold upM; rw [Int.toNat_natCast]
        have e2 : upN p (g : Int) = p := by unfold upN; rw [show (-(g : Int)).toNat = 0 from by omega, Nat.pow_zero, Nat.mul_one]
        have E1 := Lib.hid e1
        have E2 := Lib.hid e2
        clear e1 e2 h0
        go_wp2_with fail
        refine (HLm.out g _ hg2 B5.out).mono ?_
        rintro e w6 ⟨A3, n3, c3, rfl, hu3, hb3⟩
        have HU3 := Lib.hid hu3
        have B6 := Lib.hid (B5.out.trans (hb3.mono B5.out.size))
        clear hu3 hb3
        go_wp2_with fail
        go_meet
        exact ⟨A, n, c, A3, n3, c3, rfl, rfl, by rw [E2.out]; exact HU.out.below B6.out, by rw [E1.out]; exact HU3.out, B6.out⟩
    case rest =>
    obtain ⟨A1, n1, c1, B1, m1, d1, rfl, rfl, hu1, hv1, hb1⟩ := hcut
    have ln1 := hu1.len_le (upN_lt HPK.out hEb.1)
    have lm1 := hv1.len_le (upM_lt HQK.out hEb.2)
    have hwlt := w_lt HQ.out HSC.out
    have hwge := w_ge HQ.out HSC.out
    rw [HE.out] at hwlt hwge
    have hM : 0 < upM q E := Nat.mul_pos HQ.out (Nat.two_pow_pos _)
    have hpp := HPP.out
    unfold capT cutT at hpp
    obtain ⟨a, ha⟩ : ∃ a, upN p E = a := ⟨_, rfl⟩
    obtain ⟨b, hb⟩ : ∃ a, upM q E = a := ⟨_, rfl⟩
    rw [ha] at hu1 hwlt hwge hpp
    rw [hb] at hv1 hwlt hwge hpp hM
    have HBY := Lib.hid (by_v A1 B1 n1 c1 m1 d1 wc hu1 hv1 (by omega) (by omega) hM)
    obtain ⟨W, hW⟩ : ∃ x, a / b = x := ⟨_, rfl⟩
    obtain ⟨R, hR⟩ : ∃ x, a % b = x := ⟨_, rfl⟩
    rw [hW] at hwlt hwge hpp HBY
    rw [hR] at hpp HBY
    have hRlt : R < 2^(32 * (K + 34)) := by
      have h1 := Nat.mod_lt a hM
      have h2 := upM_lt HQK.out hEb.2
      rw [hb] at h2
      omega
    obtain ⟨k, hk⟩ : ∃ k : Nat, (E + 1074).toNat = k := ⟨_, rfl⟩
    rw [hk] at hpp
    have hEk : ((k : Int) - 1074) = E := by omega
    have hk2 : k ≤ 2045 := by omega
    have hform : k = 0 ∨ 4503599627370496 ≤ W := by
      by_cases h : -1074 < E
      · right; exact hwge h
      · left; omega
    have hWlt : W < 9007199254740992 := hwlt
    have HRLT := Lib.hid hRlt
    have HPP3 := Lib.hid hpp
    have B7 := Lib.hid hb1
    have HV1 := Lib.hid hv1
    have HB0 := Lib.hid hM
    clear hu1 hv1 hb1 hwlt hwge hM hpp ha hb hW hR hRlt hk HPP HE HLm HLn HPK HQK HP HQ HSC HU HV HDEC HFO HFF HF0 HHd HAW HSS HOV2
    have HI := Lib.hid fun W => infinite_any neg W
    have HMD := Lib.hid fun (sg : Nat) X (h1 : sg ≤ 9007199254740992) (h2 : k = 0 ∨ 4503599627370496 ≤ sg) (h3 : k * 4503599627370496 + sg < 9218868437227405312) => made_any neg sg k X h1 hk2 h2 h3
    rw [hEk] at HMD
    have HEk := Lib.hid hEk
    have HK2 := Lib.hid hk2
    have HFM := Lib.hid hform
    clear hEk hk2 hform
    go_wp2_with fail
    refine HBY.out.mono ?_
    rintro e w7 ⟨A2, n2, c2, A3, n3, c3, rfl, hu2, hu3, hb7⟩
    have B8 := Lib.hid (B7.out.trans (hb7.mono B7.out.size))
    have HWD := Lib.hid (word_v A2 n2 c2 w7 hu2 (by omega))
    have hn3 := hu3.len_le HRLT.out
    have hn0 : n3 = 0 ↔ R = 0 := by
      have := @digs_length_eq_zero R
      rw [hu3.len] at this; exact this
    have HL3 := Lib.hid (left_v (v := R) A3 n3 c3 1 w7 hu3 (by omega) (by omega))
    have HV7 := Lib.hid (HV1.out.below hb7)
    have HN0 := Lib.hid hn0
    clear hu2 hu3 hb7 hn0 HBY HV1
    go_wp2_with fail
    refine HWD.out.mono ?_
    rintro e w8 ⟨rfl, rfl⟩
    go_wp2_with fail
    refine HL3.out.mono ?_
    rintro e w8 ⟨A4, n4, c4, rfl, hu4, hb8⟩
    have B9 := Lib.hid (B8.out.trans (hb8.mono B8.out.size))
    have HC4 := Lib.hid (cmp_v A4 B1 n4 c4 m1 d1 w8 hu4 (HV7.out.below hb8))
    clear hu4 hb8 HWD HL3
    obtain ⟨hf, hhf⟩ : ∃ x, cmp3 (R * 2^1) b = x := ⟨_, rfl⟩
    rw [hhf] at HC4
    clear hhf
    go_wp2_with fail
    refine HC4.out.mono ?_
    rintro e w9 ⟨rfl, kk, rfl⟩
    clear HC4
    have hpp := HPP3.out
    have hEk := HEk.out
    have hk2 := HK2.out
    cases away
    · rw [if_neg (by decide)] at hpp
      have hc : ((W : Int) == 9007199254740992) = false := by simp; omega
      have HM1 := Lib.hid fun X => HMD.out W X (by omega) HFM.out (by omega)
      rw [show k * 4503599627370496 + W = k * 2^52 + W from rfl, hpp] at HM1
      clear hpp hEk hk2 HFM HMD HPP3
      go_wp2_with fail
      refine (HM1.out _).mono ?_
      rintro e w10 ⟨rfl, rfl⟩
      go_wp2
      go_ret
      exact ⟨rfl, below_drewN B9.out _⟩
    · rw [if_pos rfl] at hpp
      rcases Nat.eq_zero_or_pos R with hR | hR
      · rw [if_pos hR, Nat.add_zero] at hpp
        obtain rfl : n3 = 0 := HN0.out.2 hR
        clear hR
        have hc : ((W : Int) == 9007199254740992) = false := by simp; omega
        have HM1 := Lib.hid fun X => HMD.out W X (by omega) HFM.out (by omega)
        rw [show k * 4503599627370496 + W = k * 2^52 + W from rfl, hpp] at HM1
        clear hpp hEk hk2 HFM HMD HPP3
        go_wp2_with fail
        refine (HM1.out _).mono ?_
        rintro e w10 ⟨rfl, rfl⟩
        go_wp2
        go_ret
        exact ⟨rfl, below_drewN B9.out _⟩
      · rw [if_neg (by omega)] at hpp
        have hn30 : 0 < n3 := by
          rcases Nat.eq_zero_or_pos n3 with h | h
          · have := HN0.out.1 h; omega
          · exact h
        have hn31 : decide (0 < n3) = true := by simp; exact hn30
        have hn32 : decide ((0 : Int) < (n3 : Int)) = true := by simp; exact hn30
        clear hR
        by_cases h53 : W + 1 = 9007199254740992
        · have hc : ((W : Int) + 1 == 9007199254740992) = true := by simp; omega
          by_cases hov : 970 < E
          · have hc2 : decide (1023 < E + 53) = true := by simp; omega
            have HI1 := HI
            have hk3 : k = 2045 := by omega
            have e3 : 2045 * 2^52 + 9007199254740992 = M := by decide
            rw [h53, hk3, e3] at hpp
            rw [hpp] at HI1
            clear hpp hEk hk2 HFM HMD HPP3 HI
            go_wp2_with fail
            refine (HI1.out _).mono ?_
            rintro e w10 ⟨rfl, rfl⟩
            go_wp2
            go_ret
            exact ⟨rfl, below_drewN B9.out _⟩
          · have hc2 : decide (1023 < E + 53) = false := by simp; omega
            have HM1 := Lib.hid fun X => HMD.out (W + 1) X (by omega) (by have := HFM.out; omega) (by omega)
            rw [show k * 4503599627370496 + (W + 1) = k * 2^52 + (W + 1) from rfl, hpp, show ((W + 1 : Nat) : Int) = (W : Int) + 1 from by omega] at HM1
            clear hpp hEk hk2 HFM HMD HPP3
            go_wp2_with fail
            refine (HM1.out _).mono ?_
            rintro e w10 ⟨rfl, rfl⟩
            go_wp2
            go_ret
            exact ⟨rfl, below_drewN B9.out _⟩
        · have hc : ((W : Int) + 1 == 9007199254740992) = false := by simp; omega
          have HM1 := Lib.hid fun X => HMD.out (W + 1) X (by omega) (by have := HFM.out; omega) (by omega)
          rw [show k * 4503599627370496 + (W + 1) = k * 2^52 + (W + 1) from rfl, hpp, show ((W + 1 : Nat) : Int) = (W : Int) + 1 from by omega] at HM1
          clear hpp hEk hk2 HFM HMD HPP3
          go_wp2_with fail
          refine (HM1.out _).mono ?_
          rintro e w10 ⟨rfl, rfl⟩
          go_wp2
          go_ret
          exact ⟨rfl, below_drewN B9.out _⟩
end Go.Proofs.YthlmlmfebpjgdaaGreatDoor

namespace Go.Proofs.YthlmlmfebpjgdaaGreatDoor
open Go.RowKit
set_option maxRecDepth 8000 in
theorem rounded_zero (K : Nat) (neg : Bool) (A B : Option Addr) (n c m d : Nat) (dd : Int) (w : World) (h : RatV w K neg (.slice A n c) (.slice B m d) 0) (hK : K ≤ 1048576) :
    Calls Tryz.prog 234 #[.int .i64 dd, .agg #[.bool neg, .slice A n c, .slice B m d], .int .i64 53, .int .i64 1023] w fun e w' => e = .returned (.int .u64 0) ∧ Below w.heap.size w w' := by
  have ba := below_alloc w (.cells #[.bool neg, .slice A n c, .slice B m d] 42)
  have HS := Lib.hid fun W (hW : Below w.heap.size w W) => rsign_any K neg _ _ _ W (h.below hW) (by omega)
  rw [show rsg 0 = 0 from rfl] at HS
  have BA := Lib.hid ba
  clear ba h
  go_enter Tryz.func234, Tryz.ntmps234
  go_wp2_with fail
  refine (HS.out _ BA.out).mono ?_
  rintro e w1 ⟨rfl, hb1⟩
  have B1 := Lib.hid (BA.out.trans (hb1.mono BA.out.size))
  clear hb1
  go_wp2
  go_ret
  exact ⟨rfl, B1.out⟩
def IsRnd (w : World) (d : Int) (x : Rat) (e : Ending) (w' : World) : Prop := ∃ i, e = .returned (.int .u64 (pat i : Int)) ∧ Rnd d x i ∧ Below w.heap.size w w'
theorem rounded_any (K : Nat) (neg : Bool) (A B : Option Addr) (n c m d : Nat) (x : Rat) (dd : Int) (w : World) (h : RatV w K neg (.slice A n c) (.slice B m d) x) (hK : K ≤ 1048576) (hd : dd = -1 ∨ dd = 1) :
    Calls Tryz.prog 234 #[.int .i64 dd, .agg #[.bool neg, .slice A n c, .slice B m d], .int .i64 53, .int .i64 1023] w (IsRnd w dd x) := by
  have h' := h
  obtain ⟨p, q, A', n', c', B', m', d', e1, e2, hu, hv, hq, h0, hpK, hqK, rfl⟩ := h'
  cases e1; cases e2
  rcases Nat.eq_zero_or_pos p with hp | hp
  · subst hp
    rw [rv_zero] at h
    refine (rounded_zero K neg A B n c m d dd w h hK).mono ?_
    rintro e w' ⟨rfl, hb⟩
    refine ⟨0, rfl, ?_, hb⟩
    rw [rv_zero]
    exact rnd_zero hd
  · refine (rounded_pos K neg A B n c m d p q dd w hu hv hp hq hpK hqK hK hd).mono ?_
    rintro e w' ⟨rfl, hb⟩
    exact ⟨_, rfl, rnd_ans hp hq (fout_sc hp hq rfl) hd, hb⟩
theorem bits_any (K : Nat) (neg : Bool) (A B : Option Addr) (n c m d : Nat) (x : Rat) (dd : Int) (w : World) (h : RatV w K neg (.slice A n c) (.slice B m d) x) (hK : K ≤ 1048576) (hd : dd = -1 ∨ dd = 1) :
    Calls Tryz.prog 207 #[.int .i64 dd, .agg #[.bool neg, .slice A n c, .slice B m d]] w (IsRnd w dd x) := by
  have ba := below_alloc w (.cells #[.bool neg, .slice A n c, .slice B m d] 42)
  have HS := Lib.hid fun W (hW : Below w.heap.size w W) => rounded_any K neg A B n c m d x dd W (h.below hW) hK hd
  have BA := Lib.hid ba
  clear ba h hd
  go_enter Tryz.func207, Tryz.ntmps207
  go_wp2_with fail
  refine (HS.out _ BA.out).mono ?_
  rintro e w1 ⟨i, rfl, hr, hb1⟩
  have B1 := Lib.hid (BA.out.trans (hb1.mono BA.out.size))
  have HR := Lib.hid hr
  clear hb1 hr
  go_wp2
  go_ret
  exact ⟨i, rfl, HR.out, B1.out⟩
end Go.Proofs.YthlmlmfebpjgdaaGreatDoor
