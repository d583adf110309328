/-
Walks: package vergeref2, Power.
Walks: package vergeref2, Frac.
Walks: package vergeref2, RSign, RNeg.
How two ratios compare: plain.
Walks: package vergeref2, RNeg of what is not below nought.
Walks: package vergeref2, RCmp.
Floats of 64 bits as rungs: the magnitude of a rung, its order, and how the model's 'nearest', 'order', 'add' read in these words. Plain Lean: no program in sight.
-/
import Derived.Test.YtmjkmoahkanblaaGreatPMinusT
import Derived.Deep.RegionHeld3
import Derived.Test.YtmjkmoahkanblaaGreatM01
import Derived.Laws.FloatBits
set_option linter.unusedSimpArgs false
set_option linter.unusedVariables false

namespace Go.Proofs.YtmjkmoahkanblaaGreat
open Go.RowKit

theorem digs_one : digs 1 = [1] := by rw [digs_pos (by omega)]; simp [digs_zero]
theorem U32s.len_le {w : World} {A : Option Addr} {n c : Nat} {v k : Nat} (h : U32s w A n c (digs v)) (hv : v < 2^(32 * k)) : n ≤ k := by
  rw [← h.len]; exact digs_length_le hv

def PowInv (N k P X j : Nat) : Prop := P * X^j = N^k
theorem PowInv.odd {N k P X j : Nat} (h : PowInv N k P X j) (hj : j % 2 = 1) : PowInv N k (P * X) (X * X) (j / 2) := by
  unfold PowInv at *
  rw [← h, ← Nat.pow_two, ← Nat.pow_mul, Nat.mul_assoc, ← Nat.pow_succ']
  congr 2; omega
theorem PowInv.even {N k P X j : Nat} (h : PowInv N k P X j) (hj : j % 2 = 0) : PowInv N k P (X * X) (j / 2) := by
  unfold PowInv at *
  rw [← h, ← Nat.pow_two, ← Nat.pow_mul]
  congr 2; omega
theorem PowInv.last {N k P X j X' : Nat} (h : PowInv N k P X j) (hj : j = 0) : PowInv N k P X' j := by
  unfold PowInv at *
  subst hj; simpa using h
theorem PowInv.done {N k P X : Nat} (h : PowInv N k P X 0) : P = N^k := by unfold PowInv at h; simpa using h
theorem PowInv.pos {N k P X j : Nat} (h : PowInv N k P X j) (hN : 0 < N) : 0 < P := by
  unfold PowInv at h
  have := Nat.pow_pos (n := k) hN
  rcases Nat.eq_zero_or_pos P with h0 | h0
  · rw [h0] at h; omega
  · exact h0
theorem PowInv.xpos {N k P X j : Nat} (h : PowInv N k P X j) (hN : 0 < N) (hj : 0 < j) : 0 < X := by
  unfold PowInv at h
  have := Nat.pow_pos (n := k) hN
  rcases Nat.eq_zero_or_pos X with h0 | h0
  · rw [h0, Nat.zero_pow hj] at h; omega
  · exact h0
/-- What is multiplied next is not greater than the whole. -/
theorem PowInv.le_px {N k P X j : Nat} (h : PowInv N k P X j) (hN : 0 < N) (hj : 0 < j) : P * X ≤ N^k := by
  have hx := h.xpos hN hj
  unfold PowInv at h
  rw [← h]
  exact Nat.mul_le_mul_left _ (by
    calc X = X^1 := (Nat.pow_one X).symm
      _ ≤ X^j := Nat.pow_le_pow_right hx hj)
theorem PowInv.le_xx {N k P X j : Nat} (h : PowInv N k P X j) (hN : 0 < N) (hj : 2 ≤ j) : X * X ≤ N^k := by
  have hx := h.xpos hN (by omega)
  have hp := h.pos hN
  unfold PowInv at h
  rw [← h]
  calc X * X = 1 * X^2 := by rw [Nat.pow_two, Nat.one_mul]
    _ ≤ P * X^j := Nat.mul_le_mul hp (Nat.pow_le_pow_right hx hj)

set_option maxHeartbeats 1600000 in
theorem power_any (A : Option Addr) (n c k S : Nat) (xs : List Nat) (w : World) (hx : U32s w A n c xs) (hs : n ≤ 8589934592) (hN : 0 < num xs) (hS1 : num xs < 2^(32 * S)) (hS : num xs ^ k < 2^(32 * S)) (hS2 : S ≤ 1073741824) (hk : k ≤ 1048576) :
    Calls Tryz.prog 240 #[.slice A n c, .int .i64 (k : Int)] w (NewU32 w (digs (num xs ^ k))) := by
  have HX := Lib.hid hx
  have HS := Lib.hid hS
  have HS1 := Lib.hid hS1
  have HN0 := Lib.hid hN
  have hS0 : 1 ≤ S := by
    rcases Nat.eq_zero_or_pos S with h | h
    · subst h; simp at hS1; omega
    · exact h
  clear hx hS hS1 hN
  go_enter Tryz.func240, Tryz.ntmps240
  go_wp2_with fail
  have hu0 := HX.out.below (below_alloc w (.cells #[.int .u32 1] 124))
  have hnorm := norm_any A n c xs _ hu0 (by omega)
  rw [trim_eq_digs HX.out.w32] at hnorm
  have HN := Lib.hid hnorm
  clear hnorm hu0
  refine HN.out.mono ?_
  rintro e w1 ⟨A1, n1, c1, rfl, hu1, hb1⟩
  have h1 : U32s w1 (some ⟨w.heap.size, 0, none⟩) 1 1 (digs 1) := by
    rw [digs_one]; exact (U32s.lit1 w 124 (a := 1) (by omega)).below hb1
  have HB := Lib.hid (show Below w.heap.size w w1 from (below_alloc w _).trans (hb1.mono (by simp)))
  have HU1 := Lib.hid hu1
  have H1 := Lib.hid h1
  clear HN hu1 hb1 h1
  go_wp2
  go_loopw [1, 5, 6] (fun jv pv xv wr => ∃ (j P X : Nat) (Ap Ax : Option Addr) (np nx cp cx : Nat), jv = .int .i64 j ∧ pv = .slice Ap np cp ∧ xv = .slice Ax nx cx ∧ j ≤ k ∧ PowInv (num xs) k P X j ∧
    U32s wr Ap np cp (digs P) ∧ U32s wr Ax nx cx (digs X) ∧ np ≤ S ∧ nx ≤ S ∧ Below w.heap.size w wr) (fun jv _ _ _ => (intOf jv).toNat)
  case atStart => exact ⟨k, 1, num xs, some ⟨w.heap.size, 0, none⟩, A1, 1, n1, 1, c1, rfl, rfl, rfl, Nat.le_refl _, by unfold PowInv; rw [Nat.one_mul], H1.out, HU1.out, hS0, HU1.out.len_le HS1.out, HB.out⟩
  case round =>
    obtain ⟨j, P, X, Ap, Ax, np, nx, cp, cx, rfl, rfl, rfl, hj, hinv, hp, hx, hnp, hnx, hb⟩ := hrel
    have HI := Lib.hid hinv
    have HP := Lib.hid hp
    have HXX := Lib.hid hx
    have HBB := Lib.hid hb
    clear hinv hp hx hb H1 HU1 HB
    rcases Nat.eq_zero_or_pos j with h0 | h0
    · subst h0
      have e := HI.out.done
      subst e
      go_wp2
      go_ret
      exact ⟨Ap, np, cp, rfl, HP.out, HBB.out⟩
    have hj2 : (0 : Int) < (j : Int) := by omega
    by_cases hodd : j % 2 = 1
    · have g1 : (j : Int) % 2 = 1 := by omega
      have ht := times_any Ap Ax np cp nx cx _ _ wr HP.out HXX.out (by omega) (by omega)
      rw [num_digs, num_digs] at ht
      have HT := Lib.hid ht
      clear ht
      go_wp2_with fail
      refine HT.out.mono ?_
      rintro e w2 ⟨A2, n2, c2, rfl, hu2, hb2⟩
      have hn2 : n2 ≤ S := hu2.len_le (Nat.lt_of_le_of_lt (HI.out.le_px HN0.out h0) HS.out)
      have HU2 := Lib.hid hu2
      have HX2 := Lib.hid (HXX.out.below hb2)
      have HB2 := Lib.hid (show Below w.heap.size w w2 from HBB.out.trans (hb2.mono HBB.out.size))
      clear HT hu2 hb2
      by_cases h2 : 2 ≤ j
      · have g2 : (0 : Int) < (j : Int) / 2 := by omega
        have ht := times_any Ax Ax nx cx nx cx _ _ w2 HX2.out HX2.out (by omega) (by omega)
        rw [num_digs] at ht
        have HT := Lib.hid ht
        clear ht
        go_wp2_with fail
        refine HT.out.mono ?_
        rintro e w3 ⟨A3, n3, c3, rfl, hu3, hb3⟩
        have hn3 : n3 ≤ S := hu3.len_le (Nat.lt_of_le_of_lt (HI.out.le_xx HN0.out (by omega)) HS.out)
        have HU3 := Lib.hid hu3
        have HP3 := Lib.hid (HU2.out.below hb3)
        have HB3 := Lib.hid (show Below w.heap.size w w3 from HB2.out.trans (hb3.mono HB2.out.size))
        clear HT hu3 hb3
        go_wp2
        go_roundw
        case rel => exact ⟨j / 2, P * X, X * X, A2, A3, n2, n3, c2, c3, by go_num, rfl, rfl, by omega, HI.out.odd hodd, HP3.out, HU3.out, hn2, hn3, HB3.out⟩
        case measure => simp [intOf]; omega
      · obtain rfl : j = 1 := by omega
        go_wp2
        go_roundw
        case rel => exact ⟨0, P * X, X, A2, Ax, n2, nx, c2, cx, by go_num, rfl, rfl, by omega, (HI.out.odd (by omega)).last rfl, HU2.out, HX2.out, hn2, hnx, HB2.out⟩
        case measure => simp [intOf]
    · have g1 : (j : Int) % 2 = 0 := by omega
      have g2 : (0 : Int) < (j : Int) / 2 := by omega
      have ht := times_any Ax Ax nx cx nx cx _ _ wr HXX.out HXX.out (by omega) (by omega)
      rw [num_digs] at ht
      have HT := Lib.hid ht
      clear ht
      go_wp2_with fail
      refine HT.out.mono ?_
      rintro e w3 ⟨A3, n3, c3, rfl, hu3, hb3⟩
      have hn3 : n3 ≤ S := hu3.len_le (Nat.lt_of_le_of_lt (HI.out.le_xx HN0.out (by omega)) HS.out)
      have HU3 := Lib.hid hu3
      have HP3 := Lib.hid (HP.out.below hb3)
      have HB3 := Lib.hid (show Below w.heap.size w w3 from HBB.out.trans (hb3.mono HBB.out.size))
      clear HT hu3 hb3
      go_wp2
      go_roundw
      case rel => exact ⟨j / 2, P, X * X, Ap, A3, np, n3, cp, c3, by go_num, rfl, rfl, by omega, HI.out.even (by omega), HP3.out, HU3.out, hnp, hn3, HB3.out⟩
      case measure => simp [intOf]; omega

end Go.Proofs.YtmjkmoahkanblaaGreat

namespace Go.Proofs.YtmjkmoahkanblaaGreat
open Go.RowKit

/-- What Frac makes of it. -/
theorem frac_value {neg : Bool} {a b ka kb K : Nat} {exp e : Int} (he : e = exp + ka - kb) (hb : 0 < b) (ha1 : a % 2^ka = 0) (hb1 : b % 2^kb = 0)
    (hka : a * 2^exp.toNat < 2^(32 * K)) (hkb : b * 2^(-exp).toNat < 2^(32 * K)) (ha : 0 < a) :
    0 < a / 2^ka * 2^e.toNat ∧ 0 < b / 2^kb * 2^(-e).toNat ∧ a / 2^ka * 2^e.toNat < 2^(32 * K) ∧ b / 2^kb * 2^(-e).toNat < 2^(32 * K) ∧
      rv neg a b * 2^exp = rv neg (a / 2^ka * 2^e.toNat) (b / 2^kb * 2^(-e).toNat) := by
  have hea := odd_part ha1
  have heb := odd_part hb1
  have pa : 0 < a / 2^ka := by
    rcases Nat.eq_zero_or_pos (a / 2^ka) with h | h
    · rw [h] at hea; omega
    · exact h
  have pb : 0 < b / 2^kb := by
    rcases Nat.eq_zero_or_pos (b / 2^kb) with h | h
    · rw [h] at heb; omega
    · exact h
  have q1 := Nat.mul_pos pa (Nat.two_pow_pos e.toNat)
  have q2 := Nat.mul_pos pb (Nat.two_pow_pos (-e).toNat)
  refine ⟨q1, q2, ?_, ?_, ?_⟩
  · refine Nat.lt_of_le_of_lt ?_ hka
    rw [← hea, Nat.mul_div_cancel _ (Nat.two_pow_pos ka), Nat.mul_assoc, ← Nat.pow_add]
    exact Nat.mul_le_mul_left _ (Nat.pow_le_pow_right (by omega) (by omega))
  · refine Nat.lt_of_le_of_lt ?_ hkb
    rw [← heb, Nat.mul_div_cancel _ (Nat.two_pow_pos kb), Nat.mul_assoc, ← Nat.pow_add]
    exact Nat.mul_le_mul_left _ (Nat.pow_le_pow_right (by omega) (by omega))
  · rw [← rv_scale neg hb]
    refine rv_eq (Nat.mul_pos hb (Nat.two_pow_pos _)) q2 ?_
    generalize a / 2^ka = x at *
    generalize b / 2^kb = y at *
    subst hea heb
    rw [Nat.mul_assoc, Nat.mul_assoc, Nat.mul_assoc, Nat.mul_assoc]
    congr 1
    rw [Nat.mul_left_comm _ y, Nat.mul_left_comm _ y, Nat.mul_left_comm _ y]
    congr 1
    rw [← Nat.pow_add, ← Nat.pow_add, ← Nat.pow_add, ← Nat.pow_add]
    congr 1; omega

set_option maxHeartbeats 1600000 in
theorem frac_zero (neg : Bool) (A B : Option Addr) (n c m d K : Nat) (xs ys : List Nat) (exp : Int) (w : World) (hx : U32s w A n c xs) (hy : U32s w B m d ys) (hs1 : n ≤ 8589934592) (hs2 : m ≤ 8589934592) (h0 : num xs = 0) (hK : 1 ≤ K) :
    Calls Tryz.prog 139 #[.bool neg, .slice A n c, .slice B m d, .int .i64 exp] w (NewRat w K 0) := by
  have HX := Lib.hid hx
  have HY := Lib.hid hy
  clear hx hy
  have ba := below_alloc w (.cells #[.bool false, .slice none 0 0, .slice none 0 0] 60)
  have hn1 := norm_any A n c xs _ (HX.out.below ba) (by omega)
  rw [trim_eq_digs HX.out.w32, h0, digs_zero] at hn1
  have HN1 := Lib.hid hn1
  clear hn1
  go_enter Tryz.func139, Tryz.ntmps139
  go_wp2_with fail
  refine HN1.out.mono ?_
  rintro e w1 ⟨A1, n1, c1, rfl, hu1, hb1⟩
  obtain rfl : n1 = 0 := hu1.len.symm
  have hn2 := norm_any B m d ys w1 ((HY.out.below ba).below hb1) (by omega)
  have HN2 := Lib.hid hn2
  go_wp2_with fail
  refine HN2.out.mono ?_
  rintro e w2 ⟨A2, n2, c2, rfl, hu2, hb2⟩
  have hblk := ((Blk.new w 60 #[.bool false, .slice none 0 0, .slice none 0 0]).keep hb1).keep hb2
  have k0 := hblk.cell 0
  have k1 := hblk.cell 1
  have k2 := hblk.cell 2
  have f0 := hblk.frozen 0
  have f1 := hblk.frozen 1
  have f2 := hblk.frozen 2
  have hlt := hblk.lt
  have HB := Lib.hid (show Below w.heap.size w w2 from (ba.trans (hb1.mono (by simp))).trans (hb2.mono (by have := hb1.size; simp at this; omega)))
  clear hblk hb1 hb2 hu2 hu1 HN1 HN2 hn2 ba
  simp at k0 k1 k2
  go_wp2
  refine bodyPost_ret (v := .agg #[.bool false, .slice none 0 0, .slice (some ⟨w2.heap.size, 0, none⟩) 1 1]) (by simp [results, Tryz.results139, go_sem, hlt, k0, k1, k2]) rfl ?_
  refine ⟨false, .slice none 0 0, .slice (some ⟨w2.heap.size, 0, none⟩) 1 1, rfl, ⟨0, 1, none, 0, 0, _, 1, 1, rfl, rfl, ?_, ?_, by omega, fun _ => rfl, Nat.two_pow_pos _, ?_, (rv_zero _ _).symm⟩, ?_⟩
  · rw [digs_zero]; exact U32s.nil _ _ _
  · rw [digs_one]
    exact U32s.lit1_at (by simp) 124 (a := 1) (by omega)
  · exact Nat.one_lt_two_pow (by omega)
  · exact (below_set3 HB.out (Nat.le_refl _) _ _ _).alloc (by simpa using HB.out.size) _

theorem norm_v {v : Nat} (A : Option Addr) (n c : Nat) (xs : List Nat) (w : World) (h : U32s w A n c xs) (hs : n ≤ 34359738367) (ev : num xs = v) :
    Calls Tryz.prog 160 #[.slice A n c] w fun e w' => ∃ A1 n1 c1, e = .returned (.slice A1 n1 c1) ∧ U32s w' A1 n1 c1 (digs v) ∧ n1 ≤ n ∧ (0 < v → 0 < n1) ∧ Below w.heap.size w w' := by
  have h1 := norm_any A n c xs w h hs
  rw [trim_eq_digs h.w32, ev] at h1
  refine h1.mono ?_
  rintro e w' ⟨A1, n1, c1, rfl, hu, hb⟩
  have l := wlen_le xs
  have l2 : wlen xs = (digs v).length := by unfold wlen; rw [trim_eq_digs h.w32, ev]
  have l3 := hu.len
  refine ⟨A1, n1, c1, rfl, hu, by rw [h.len] at l; omega, fun hv => ?_, hb⟩
  rcases Nat.eq_zero_or_pos n1 with h0 | h0
  · have := digs_length_eq_zero.1 (show (digs v).length = 0 by omega)
    omega
  · exact h0
theorem zeros_v {v : Nat} (A : Option Addr) (n c : Nat) (w : World) (hx : U32s w A n c (digs v)) (h0 : 0 < v) :
    Calls Tryz.prog 199 #[.slice A n c] w fun e w' => (∃ k : Nat, e = .returned (.int .i64 (k : Int)) ∧ k ≤ 32 * n ∧ v % 2^k = 0) ∧ w = w' := by
  refine (zeros_any A n c _ w hx (by rw [num_digs]; omega)).mono ?_
  rintro e w' ⟨⟨k, rfl, h1, h2, _⟩, rfl⟩
  rw [num_digs] at h2
  exact ⟨⟨k, rfl, h1, h2⟩, rfl⟩
theorem right_v {v : Nat} (A : Option Addr) (n c k : Nat) (w : World) (hx : U32s w A n c (digs v)) (hs1 : n ≤ 1073741824) (hk : k ≤ 32 * n) :
    Calls Tryz.prog 200 #[.slice A n c, .int .i64 (k : Int)] w fun e w' => ∃ A1 n1 c1 t, e = .returned (.tuple #[.slice A1 n1 c1, .bool t]) ∧ U32s w' A1 n1 c1 (digs (v / 2^k)) ∧ n1 ≤ n ∧ Below w.heap.size w w' := by
  have h1 := right_any A n c k _ w hx (by omega) (by omega)
  rw [num_digs] at h1
  refine h1.mono ?_
  rintro e w' ⟨A1, n1, c1, rfl, hu, hb⟩
  refine ⟨A1, n1, c1, _, rfl, hu, ?_, hb⟩
  have l := hu.len
  have l2 : (digs (v / 2^k)).length ≤ n := digs_length_le (Nat.lt_of_le_of_lt (Nat.div_le_self _ _) (by have := num_lt hx.w32; rw [num_digs, hx.len] at this; exact this))
  omega
theorem left_v {v : Nat} (A : Option Addr) (n c k : Nat) (w : World) (hx : U32s w A n c (digs v)) (hs1 : n ≤ 1073741824) (hk : k ≤ 137438953472) :
    Calls Tryz.prog 201 #[.slice A n c, .int .i64 (k : Int)] w (NewU32 w (digs (v * 2^k))) := by
  have h1 := left_any A n c k _ w hx (by omega) hk
  rw [num_digs] at h1
  exact h1

theorem mul_one_pow (v : Nat) : v * 2^0 = v := by simp

set_option maxHeartbeats 3200000 in
theorem frac_pos (neg : Bool) (A B : Option Addr) (n c m d K a b : Nat) (xs ys : List Nat) (exp : Int) (w : World) (hx : U32s w A n c xs) (hy : U32s w B m d ys) (hs1 : n ≤ 1073741824) (hs2 : m ≤ 1073741824)
    (ea : num xs = a) (eb : num ys = b) (ha : 0 < a) (hb : 0 < b) (he1 : -1073741824 ≤ exp) (he2 : exp ≤ 1073741824)
    (hka : a * 2^exp.toNat < 2^(32 * K)) (hkb : b * 2^(-exp).toNat < 2^(32 * K)) :
    Calls Tryz.prog 139 #[.bool neg, .slice A n c, .slice B m d, .int .i64 exp] w (NewRat w K (rv neg a b * 2^exp)) := by
  have HX := Lib.hid hx
  have HY := Lib.hid hy
  have HKA := Lib.hid hka
  have HKB := Lib.hid hkb
  have ba := below_alloc w (.cells #[.bool false, .slice none 0 0, .slice none 0 0] 60)
  have hn1 := norm_v A n c xs _ (hx.below ba) (by omega) ea
  have HN1 := Lib.hid hn1
  have BA := Lib.hid ba
  clear hn1 hx hy hka hkb ba ea
  go_enter Tryz.func139, Tryz.ntmps139
  go_wp2_with fail
  refine HN1.out.mono ?_
  rintro e w1 ⟨A1, n1, c1, rfl, hu1, hn1, hp1, hb1⟩
  have hp1 := hp1 ha
  have HN2 := Lib.hid (norm_v B m d ys w1 ((HY.out.below BA.out).below hb1) (by omega) eb)
  have U1 := Lib.hid hu1
  have B1 := Lib.hid hb1
  clear hu1 hb1 HN1 eb
  go_wp2_with fail
  refine HN2.out.mono ?_
  rintro e w2 ⟨A2, n2, c2, rfl, hu2, hn2, hp2, hb2⟩
  have hp2 := hp2 hb
  have U2 := Lib.hid hu2
  have U1' := Lib.hid (U1.out.below hb2)
  have HZ1 := Lib.hid (zeros_v A1 n1 c1 w2 U1'.out ha)
  have B2 := Lib.hid hb2
  clear hu2 hb2 U1 HN2
  go_wp2_with fail
  refine HZ1.out.mono ?_
  rintro e w2' ⟨⟨ka, rfl, hka, hza⟩, rfl⟩
  have HR1 := Lib.hid (right_v A1 n1 c1 ka w2 U1'.out (by omega) hka)
  go_wp2_with fail
  refine HR1.out.mono ?_
  rintro e w3 ⟨A3, n3, c3, t3, rfl, hu3, hn3, hb3⟩
  have U3 := Lib.hid hu3
  have U2' := Lib.hid (U2.out.below hb3)
  have HZ2 := Lib.hid (zeros_v A2 n2 c2 w3 U2'.out hb)
  have B3 := Lib.hid hb3
  clear hu3 hb3 HR1 HZ1 U2 U1'
  go_wp2_with fail
  refine HZ2.out.mono ?_
  rintro e w3' ⟨⟨kb, rfl, hkb, hzb⟩, rfl⟩
  have HR2 := Lib.hid (right_v A2 n2 c2 kb w3 U2'.out (by omega) hkb)
  go_wp2_with fail
  refine HR2.out.mono ?_
  rintro e w4 ⟨A4, n4, c4, t4, rfl, hu4, hn4, hb4⟩
  have U4 := Lib.hid hu4
  have U3' := Lib.hid (U3.out.below hb4)
  have hblk := ((((Blk.new w 60 #[.bool false, .slice none 0 0, .slice none 0 0]).keep B1.out).keep B2.out).keep B3.out).keep hb4
  have HB := Lib.hid (show Below w.heap.size w w4 from (((BA.out.trans (B1.out.mono BA.out.size)).trans (B2.out.mono (by have := BA.out.size; have := B1.out.size; omega))).trans (B3.out.mono (by have := BA.out.size; have := B1.out.size; have := B2.out.size; omega))).trans (hb4.mono (by have := BA.out.size; have := B1.out.size; have := B2.out.size; have := B3.out.size; omega)))
  have HBLK := Lib.hid hblk
  clear hu4 hb4 HR2 HZ2 U3 B1 B2 B3 hblk U2'
  obtain ⟨ex, hex⟩ : ∃ ex, exp + ka - kb = ex := ⟨_, rfl⟩
  have F := Lib.hid (frac_value (neg := neg) (K := K) hex.symm hb hza hzb HKA.out HKB.out ha)
  have FIN0 : ∀ w5 A5 n5 c5 A6 n6 c6, U32s w5 A5 n5 c5 (digs (a / 2^ka * 2^ex.toNat)) → U32s w5 A6 n6 c6 (digs (b / 2^kb * 2^(-ex).toNat)) → Below w.heap.size w w5 → Blk w5 w.heap.size 60 #[.bool false, .slice none 0 0, .slice none 0 0] →
      NewRat w K (rv neg a b * 2^exp) (.returned (.agg #[.bool neg, .slice A5 n5 c5, .slice A6 n6 c6])) (((w5.setCell ⟨w.heap.size, 0, none⟩ (.bool neg)).setCell ⟨w.heap.size, 1, none⟩ (.slice A5 n5 c5)).setCell ⟨w.heap.size, 2, none⟩ (.slice A6 n6 c6)) := by
    intro w5 A5 n5 c5 A6 n6 c6 h5 h6 hb5 hk5
    obtain ⟨f1, f2, f3, f4, f5⟩ := F.out
    exact RatV.ret ⟨_, _, A5, n5, c5, A6, n6, c6, rfl, rfl, h5, h6, f2, by omega, f3, f4, f5⟩ hb5 hk5 NoWd.zero (Nat.le_refl _)
  obtain ⟨xl, hxl⟩ : ∃ xl : Nat, ex.toNat = xl := ⟨_, rfl⟩
  obtain ⟨xr, hxr⟩ : ∃ xr : Nat, (-ex).toNat = xr := ⟨_, rfl⟩
  rw [hxl, hxr] at FIN0
  have FIN := Lib.hid FIN0
  clear F FIN0
  by_cases e1 : 0 < ex
  · have ex1 : ex = (xl : Int) := by omega
    obtain rfl : xr = 0 := by omega
    have HL := Lib.hid (left_v A3 n3 c3 xl w4 U3'.out (by omega) (by omega))
    clear hxl hxr
    subst ex1
    go_wp2_with fail
    refine HL.out.mono ?_
    rintro e w5 ⟨A5, n5, c5, rfl, hu5, hb5⟩
    have hblk := HBLK.out.keep hb5
    have HB5 := HB.out.trans (hb5.mono HB.out.size)
    have k0 := hblk.cell 0
    have k1 := hblk.cell 1
    have k2 := hblk.cell 2
    have f0 := hblk.frozen 0
    have f1 := hblk.frozen 1
    have f2 := hblk.frozen 2
    have hlt := hblk.lt
    have FF := Lib.hid (FIN.out w5 A5 n5 c5 A4 n4 c4 hu5 (by rw [mul_one_pow]; exact U4.out.below hb5) HB5 hblk)
    clear hblk hb5 hu5 HB5
    simp at k0 k1 k2
    go_wp2
    exact bodyPost_ret (v := .agg #[.bool neg, .slice A5 n5 c5, .slice A4 n4 c4]) (by simp [results, Tryz.results139, go_sem, k0, k1, k2]) rfl FF.out
  · by_cases e2 : ex < 0
    · have ex1 : -ex = (xr : Int) := by omega
      obtain rfl : xl = 0 := by omega
      have HL := Lib.hid (left_v A4 n4 c4 xr w4 U4.out (by omega) (by omega))
      clear hxl hxr
      obtain rfl : ex = -(xr : Int) := by omega
      have nn : -(-(xr : Int)) = (xr : Int) := by omega
      go_wp2_with fail
      refine HL.out.mono ?_
      rintro e w5 ⟨A5, n5, c5, rfl, hu5, hb5⟩
      have hblk := HBLK.out.keep hb5
      have HB5 := HB.out.trans (hb5.mono HB.out.size)
      have k0 := hblk.cell 0
      have k1 := hblk.cell 1
      have k2 := hblk.cell 2
      have f0 := hblk.frozen 0
      have f1 := hblk.frozen 1
      have f2 := hblk.frozen 2
      have hlt := hblk.lt
      have FF := Lib.hid (FIN.out w5 A3 n3 c3 A5 n5 c5 (by rw [mul_one_pow]; exact U3'.out.below hb5) hu5 HB5 hblk)
      clear hblk hb5 hu5 HB5
      simp at k0 k1 k2
      go_wp2
      exact bodyPost_ret (v := .agg #[.bool neg, .slice A3 n3 c3, .slice A5 n5 c5]) (by simp [results, Tryz.results139, go_sem, k0, k1, k2]) rfl FF.out
    · obtain rfl : xl = 0 := by omega
      obtain rfl : xr = 0 := by omega
      have hblk := HBLK.out
      have k0 := hblk.cell 0
      have k1 := hblk.cell 1
      have k2 := hblk.cell 2
      have f0 := hblk.frozen 0
      have f1 := hblk.frozen 1
      have f2 := hblk.frozen 2
      have hlt := hblk.lt
      have FF := Lib.hid (FIN.out w4 A3 n3 c3 A4 n4 c4 (by rw [mul_one_pow]; exact U3'.out) (by rw [mul_one_pow]; exact U4.out) HB.out hblk)
      clear hblk
      simp at k0 k1 k2
      go_wp2
      exact bodyPost_ret (v := .agg #[.bool neg, .slice A3 n3 c3, .slice A4 n4 c4]) (by simp [results, Tryz.results139, go_sem, k0, k1, k2]) rfl FF.out

theorem frac_any (neg : Bool) (A B : Option Addr) (n c m d K a b : Nat) (xs ys : List Nat) (exp : Int) (w : World) (hx : U32s w A n c xs) (hy : U32s w B m d ys) (hs1 : n ≤ 1073741824) (hs2 : m ≤ 1073741824)
    (ea : num xs = a) (eb : num ys = b) (hb : 0 < b) (he1 : -1073741824 ≤ exp) (he2 : exp ≤ 1073741824)
    (hka : a * 2^exp.toNat < 2^(32 * K)) (hkb : b * 2^(-exp).toNat < 2^(32 * K)) (hK : 1 ≤ K) :
    Calls Tryz.prog 139 #[.bool neg, .slice A n c, .slice B m d, .int .i64 exp] w (NewRat w K (rv neg a b * 2^exp)) := by
  rcases Nat.eq_zero_or_pos a with h | h
  · subst h
    rw [rv_zero, Rat.zero_mul]
    exact frac_zero neg A B n c m d K xs ys exp w hx hy (by omega) (by omega) ea hK
  · exact frac_pos neg A B n c m d K a b xs ys exp w hx hy hs1 hs2 ea eb h hb he1 he2 hka hkb
/-- The same, of exponent nought. -/
theorem frac_plain (neg : Bool) (A B : Option Addr) (n c m d K a b : Nat) (w : World) (hx : U32s w A n c (digs a)) (hy : U32s w B m d (digs b)) (hb : 0 < b) (hka : a < 2^(32 * K)) (hkb : b < 2^(32 * K)) (hK : 1 ≤ K) (hK2 : K ≤ 1073741824) :
    Calls Tryz.prog 139 #[.bool neg, .slice A n c, .slice B m d, .int .i64 0] w (NewRat w K (rv neg a b)) := by
  have h := frac_any neg A B n c m d K a b _ _ 0 w hx hy (by have := hx.len_le hka; omega) (by have := hy.len_le hkb; omega) (num_digs _) (num_digs _) hb (by omega) (by omega) (by simpa using hka) (by simpa using hkb) hK
  rw [show (2 : Rat)^(0 : Int) = 1 from rfl, Rat.mul_one] at h
  exact h

end Go.Proofs.YtmjkmoahkanblaaGreat

namespace Go.Proofs.YtmjkmoahkanblaaGreat
open Go.RowKit

/-- The sign of a rational number. -/
def rsg (x : Rat) : Int := if x = 0 then 0 else if x < 0 then -1 else 1
theorem rv_pos {p q : Nat} (hp : 0 < p) (hq : 0 < q) : 0 < rv false p q := by
  unfold rv
  have h1 := cast_pos hp
  have h2 := cast_pos hq
  have h3 : (0 : Rat) < (q : Rat)⁻¹ := Rat.inv_pos.2 h2
  rw [Rat.div_def]
  exact Rat.mul_pos h1 h3
theorem rv_true (p q : Nat) : rv true p q = - rv false p q := by
  unfold rv
  simp only [Rat.div_def, if_true, Bool.false_eq_true, if_false]
  grind
theorem rsg_rv {neg : Bool} {p q : Nat} (hq : 0 < q) (h0 : p = 0 → neg = false) : rsg (rv neg p q) = if p = 0 then 0 else if neg then -1 else 1 := by
  rcases Nat.eq_zero_or_pos p with hp | hp
  · subst hp; rw [rv_zero]; simp [rsg]
  · have h1 := rv_pos hp hq
    have h2 := rv_true p q
    unfold rsg
    cases neg
    · rw [if_neg (by grind), if_neg (by grind), if_neg (by omega)]; rfl
    · rw [if_neg (by grind), if_pos (by grind), if_neg (by omega)]; rfl

set_option maxHeartbeats 1600000 in
theorem rsign_any (K : Nat) (neg : Bool) (vn vd : Value) (x : Rat) (w : World) (h : RatV w K neg vn vd x) (hK : K ≤ 1073741824) :
    Calls Tryz.prog 141 #[.agg #[.bool neg, vn, vd]] w fun e w' => e = .returned (.int .i64 (rsg x)) ∧ Below w.heap.size w w' := by
  obtain ⟨p, q, A, n, c, B, m, d, rfl, rfl, hu, -, hq, h0, hp, -, rfl⟩ := h
  rw [rsg_rv hq h0]
  obtain ⟨s, hs⟩ : ∃ s : Int, (if p = 0 then 0 else if neg then -1 else 1) = s := ⟨_, rfl⟩
  have hs0 : p = 0 → s = 0 := by intro h; rw [if_pos h] at hs; exact hs.symm
  have hs1 : p ≠ 0 → neg = true → s = -1 := by intro h h'; rw [if_neg h, if_pos h'] at hs; exact hs.symm
  have hs2 : p ≠ 0 → neg = false → s = 1 := by intro h h'; rw [if_neg h, h'] at hs; exact hs.symm
  rw [hs]
  clear hs
  have hn := hu.len_le hp
  have ba := below_alloc w (.cells #[.bool neg, .slice A n c, .slice B m d] 60)
  have HN := Lib.hid (norm_v A n c _ _ (hu.below ba) (by omega) (num_digs p))
  clear hp hu
  go_enter Tryz.func141, Tryz.ntmps141
  go_wp2_with fail
  refine HN.out.mono ?_
  rintro e w1 ⟨A1, n1, c1, rfl, hu1, hn1, hp1, hb1⟩
  have hblk := (Blk.new w 60 #[.bool neg, .slice A n c, .slice B m d]).keep hb1
  have k0 := hblk.cell 0
  have hlt := hblk.lt
  have hz : n1 = 0 ↔ p = 0 := by
    have := @digs_length_eq_zero p
    rw [hu1.len] at this; exact this
  have HB := Lib.hid (ba.trans (hb1.mono ba.size))
  clear hblk hb1 hu1 hp1 HN ba
  simp at k0
  go_wp2
  · obtain rfl : p = 0 := by simp at *; omega
    go_ret
    exact ⟨ret_int (hs0 rfl).symm, HB.out⟩
  · have hp0 : p ≠ 0 := by simp at *; omega
    go_ret
    exact ⟨ret_int (hs1 hp0 (by assumption)).symm, HB.out⟩
  · have hp0 : p ≠ 0 := by simp at *; omega
    go_ret
    exact ⟨ret_int (hs2 hp0 (by assumption)).symm, HB.out⟩

end Go.Proofs.YtmjkmoahkanblaaGreat

namespace Go.Proofs.YtmjkmoahkanblaaGreat
open Go.RowKit

/-- Which of two numbers is the lesser. -/
def rc (x y : Rat) : Int := if x < y then -1 else if y < x then 1 else 0

theorem div_lt {a b c d : Rat} (hc : 0 < c) (hd : 0 < d) : a / c < b / d ↔ a * d < b * c := by
  have h1 : 0 < c * d := Rat.mul_pos hc hd
  have e1 : a / c * (c * d) = a * d := by
    rw [← Rat.mul_assoc, Rat.div_mul_cancel (by grind)]
  have e2 : b / d * (c * d) = b * c := by
    rw [Rat.mul_comm c d, ← Rat.mul_assoc, Rat.div_mul_cancel (by grind)]
  rw [← e1, ← e2]
  exact (Rat.mul_lt_mul_right h1).symm

theorem rv_lt_false {p q p' q' : Nat} (hq : 0 < q) (hq' : 0 < q') : rv false p q < rv false p' q' ↔ p * q' < p' * q := by
  unfold rv
  simp only [Bool.false_eq_true, if_false]
  rw [div_lt (cast_pos hq) (cast_pos hq'), ← Rat.natCast_mul, ← Rat.natCast_mul, Rat.natCast_lt_natCast]

/-- What RCmp makes of two ratios of one sign. -/
theorem rc_same {n n' : Bool} {p q p' q' : Nat} (hq : 0 < q) (hq' : 0 < q') (h0 : p = 0 → n = false) (h0' : p' = 0 → n' = false) (hs : rsg (rv n p q) = rsg (rv n' p' q')) :
    rc (rv n p q) (rv n' p' q') = if rsg (rv n p q) = 0 then 0 else if n then -cmp3 (p * q') (p' * q) else cmp3 (p * q') (p' * q) := by
  rw [rsg_rv hq h0, rsg_rv hq' h0'] at hs
  rw [rsg_rv hq h0]
  by_cases hp : p = 0
  · have hp' : p' = 0 := by
      rw [if_pos hp] at hs
      by_cases h : p' = 0
      · exact h
      · rw [if_neg h] at hs; cases n' <;> simp at hs
    rw [if_pos hp, if_pos rfl, hp, hp', rv_zero, rv_zero]
    unfold rc
    rw [if_neg (by grind), if_neg (by grind)]
  · have hp' : p' ≠ 0 := by
      intro h
      rw [if_neg hp, if_pos h] at hs; cases n <;> simp at hs
    rw [if_neg hp, if_neg hp'] at hs
    have l1 := @rv_lt_false p q p' q' hq hq'
    have l2 := @rv_lt_false p' q' p q hq' hq
    have hc : rc (rv false p q) (rv false p' q') = cmp3 (p * q') (p' * q) := by
      unfold rc cmp3
      by_cases h1 : p * q' < p' * q
      · rw [if_pos (l1.2 h1), if_pos h1]
      · rw [if_neg (fun h => h1 (l1.1 h)), if_neg h1]
        by_cases h2 : p' * q < p * q'
        · rw [if_pos (l2.2 h2), if_pos h2]
        · rw [if_neg (fun h => h2 (l2.1 h)), if_neg h2]
    cases n <;> cases n' <;> simp at hs
    · rw [if_neg hp, if_neg (by decide), hc]; rfl
    · rw [if_neg hp, if_neg (by decide), if_pos rfl, ← hc, rv_true, rv_true]
      unfold rc
      by_cases h1 : rv false p q < rv false p' q'
      · rw [if_neg (by grind), if_pos (by grind), if_pos h1]; rfl
      · by_cases h2 : rv false p' q' < rv false p q
        · rw [if_pos (by grind), if_neg h1, if_pos h2]
        · rw [if_neg (by grind), if_neg (by grind), if_neg h1, if_neg h2]; rfl
theorem rc_below {x y : Rat} (h : rsg x < rsg y) : rc x y = -1 := by
  unfold rsg at h
  unfold rc
  by_cases h1 : x = 0
  · rw [if_pos h1] at h
    by_cases h2 : y = 0
    · rw [if_pos h2] at h; omega
    · rw [if_neg h2] at h
      by_cases h3 : y < 0
      · rw [if_pos h3] at h; omega
      · rw [if_pos (by grind)]
  · rw [if_neg h1] at h
    by_cases h4 : x < 0
    · rw [if_pos h4] at h
      by_cases h2 : y = 0
      · rw [if_pos (by grind)]
      · rw [if_neg h2] at h
        by_cases h3 : y < 0
        · rw [if_pos h3] at h; omega
        · rw [if_pos (by grind)]
    · rw [if_neg h4] at h
      by_cases h2 : y = 0
      · rw [if_pos h2] at h; omega
      · rw [if_neg h2] at h
        by_cases h3 : y < 0
        · rw [if_pos h3] at h; omega
        · rw [if_neg h3] at h; omega
theorem rc_swap (x y : Rat) : rc x y = -rc y x := by
  unfold rc
  by_cases h1 : x < y
  · rw [if_pos h1, if_neg (by grind), if_pos h1]
  · by_cases h2 : y < x
    · rw [if_neg h1, if_pos h2, if_pos h2]; rfl
    · rw [if_neg h1, if_neg h2, if_neg h2, if_neg h1]; rfl
theorem rc_above {x y : Rat} (h : rsg y < rsg x) : rc x y = 1 := by rw [rc_swap, rc_below h]; rfl

end Go.Proofs.YtmjkmoahkanblaaGreat

namespace Go.Proofs.YtmjkmoahkanblaaGreat
open Go.RowKit

theorem cell_below {W W' : World} {a : Addr} {v : Value} (h : W.cell? a = some v) (hb : Below W.heap.size W W') : W'.cell? a = some v := by
  have hlt : a.block < W.heap.size := by
    unfold World.cell? at h
    split at h
    · rename_i e
      exact (Array.getElem?_eq_some_iff.1 e).1
    · cases h
  rw [World.cell?_of_block (w := W)]
  · exact h
  · exact hb.block _ hlt

/-- What a cell holds now. -/
def cellOf (W : World) (a : Addr) : Value := (W.cell? a).getD (.bool false)
theorem cellOf_some {W : World} {a : Addr} {v : Value} (h : W.cell? a = some v) : W.cell? a = some (cellOf W a) := by
  unfold cellOf; rw [h]; rfl
theorem frozen_below {W W' : World} {a : Addr} {v : Value} (h : W.cell? a = some v) (hf : W.frozen? a = false) (hb : Below W.heap.size W W') : W'.frozen? a = false := by
  have hlt : a.block < W.heap.size := by
    unfold World.cell? at h
    split at h
    · rename_i e
      exact (Array.getElem?_eq_some_iff.1 e).1
    · cases h
  rw [World.frozen?_of_block (w := W)]
  · exact hf
  · exact hb.block _ hlt
/-- A row of cells that is kept: a ratio's box at g, a result's block at r. -/
theorem held3 {w W W' : World} {a0 a1 a2 r0 r1 r2 : Addr} {v0 v1 v2 : Value} (h : W.cell? a0 = some v0 ∧ W.cell? a1 = some v1 ∧ W.cell? a2 = some v2 ∧ W.cell? r0 = some (cellOf W r0) ∧ W.cell? r1 = some (cellOf W r1) ∧ W.cell? r2 = some (cellOf W r2) ∧
      W.frozen? r0 = false ∧ W.frozen? r1 = false ∧ W.frozen? r2 = false ∧ Below w.heap.size w W) (hb : Below W.heap.size W W') :
    W'.cell? a0 = some v0 ∧ W'.cell? a1 = some v1 ∧ W'.cell? a2 = some v2 ∧ W'.cell? r0 = some (cellOf W' r0) ∧ W'.cell? r1 = some (cellOf W' r1) ∧ W'.cell? r2 = some (cellOf W' r2) ∧
      W'.frozen? r0 = false ∧ W'.frozen? r1 = false ∧ W'.frozen? r2 = false ∧ Below w.heap.size w W' := by
  obtain ⟨h0, h1, h2, h3, h4, h5, h6, h7, h8, h9⟩ := h
  exact ⟨cell_below h0 hb, cell_below h1 hb, cell_below h2 hb, cellOf_some (cell_below h3 hb), cellOf_some (cell_below h4 hb), cellOf_some (cell_below h5 hb),
    frozen_below h3 h6 hb, frozen_below h4 h7 hb, frozen_below h5 h8 hb, h9.trans (hb.mono h9.size)⟩
theorem cell_other {W : World} {a b : Addr} {v : Value} (h : a ≠ b) : (W.setCell a v).cell? b = W.cell? b := World.cell?_setCell_other (h := h) ..
theorem cell_same {W : World} {a : Addr} {v u : Value} (h : W.cell? a = some u) : (W.setCell a v).cell? a = some v := World.cell?_setCell_same (h := h) ..
theorem set3_cells {W : World} {r : Nat} {u0 u1 u2 : Value} (h0 : W.cell? ⟨r, 0, none⟩ = some u0) (h1 : W.cell? ⟨r, 1, none⟩ = some u1) (h2 : W.cell? ⟨r, 2, none⟩ = some u2) (a b d : Value) :
    (((W.setCell ⟨r, 0, none⟩ a).setCell ⟨r, 1, none⟩ b).setCell ⟨r, 2, none⟩ d).cell? ⟨r, 0, none⟩ = some a ∧ (((W.setCell ⟨r, 0, none⟩ a).setCell ⟨r, 1, none⟩ b).setCell ⟨r, 2, none⟩ d).cell? ⟨r, 1, none⟩ = some b ∧
      (((W.setCell ⟨r, 0, none⟩ a).setCell ⟨r, 1, none⟩ b).setCell ⟨r, 2, none⟩ d).cell? ⟨r, 2, none⟩ = some d := by
  have n01 : (⟨r, 0, none⟩ : Addr) ≠ ⟨r, 1, none⟩ := by intro h; injection h; omega
  have n02 : (⟨r, 0, none⟩ : Addr) ≠ ⟨r, 2, none⟩ := by intro h; injection h; omega
  have n12 : (⟨r, 1, none⟩ : Addr) ≠ ⟨r, 2, none⟩ := by intro h; injection h; omega
  refine ⟨?_, ?_, ?_⟩
  · rw [cell_other n02.symm, cell_other n01.symm, cell_same h0]
  · rw [cell_other n12.symm, cell_same (u := u1)]
    rw [cell_other n01]; exact h1
  · rw [cell_same (u := u2)]
    rw [cell_other n12, cell_other n02]; exact h2
theorem held3_set {w W : World} {g r : Nat} {v0 v1 v2 : Value} (hgr : g ≠ r) (hr : w.heap.size ≤ r)
    (h : W.cell? ⟨g, 0, none⟩ = some v0 ∧ W.cell? ⟨g, 1, none⟩ = some v1 ∧ W.cell? ⟨g, 2, none⟩ = some v2 ∧ W.cell? ⟨r, 0, none⟩ = some (cellOf W ⟨r, 0, none⟩) ∧ W.cell? ⟨r, 1, none⟩ = some (cellOf W ⟨r, 1, none⟩) ∧ W.cell? ⟨r, 2, none⟩ = some (cellOf W ⟨r, 2, none⟩) ∧
      W.frozen? ⟨r, 0, none⟩ = false ∧ W.frozen? ⟨r, 1, none⟩ = false ∧ W.frozen? ⟨r, 2, none⟩ = false ∧ Below w.heap.size w W) (a b d : Value) :
    ∀ W', W' = (((W.setCell ⟨r, 0, none⟩ a).setCell ⟨r, 1, none⟩ b).setCell ⟨r, 2, none⟩ d) →
    W'.cell? ⟨g, 0, none⟩ = some v0 ∧ W'.cell? ⟨g, 1, none⟩ = some v1 ∧ W'.cell? ⟨g, 2, none⟩ = some v2 ∧ W'.cell? ⟨r, 0, none⟩ = some (cellOf W' ⟨r, 0, none⟩) ∧ W'.cell? ⟨r, 1, none⟩ = some (cellOf W' ⟨r, 1, none⟩) ∧ W'.cell? ⟨r, 2, none⟩ = some (cellOf W' ⟨r, 2, none⟩) ∧
      W'.frozen? ⟨r, 0, none⟩ = false ∧ W'.frozen? ⟨r, 1, none⟩ = false ∧ W'.frozen? ⟨r, 2, none⟩ = false ∧ Below w.heap.size w W' := by
  obtain ⟨h0, h1, h2, h3, h4, h5, h6, h7, h8, h9⟩ := h
  rintro W' rfl
  obtain ⟨s0, s1, s2⟩ := set3_cells h3 h4 h5 a b d
  have e : ∀ (i j : Nat), (⟨r, j, none⟩ : Addr) ≠ ⟨g, i, none⟩ := by intro i j h; injection h; omega
  have far : ∀ i, (((W.setCell ⟨r, 0, none⟩ a).setCell ⟨r, 1, none⟩ b).setCell ⟨r, 2, none⟩ d).cell? ⟨g, i, none⟩ = W.cell? ⟨g, i, none⟩ := by
    intro i
    rw [cell_other (e i 2), cell_other (e i 1), cell_other (e i 0)]
  refine ⟨(far 0).trans h0, (far 1).trans h1, (far 2).trans h2, cellOf_some s0, cellOf_some s1, cellOf_some s2, ?_, ?_, ?_, below_set3 h9 hr a b d⟩ <;> simp only [World.frozen?_setCell] <;> assumption
theorem Blk.new2 (w : World) (o : Obj) (t : TypeId) (cs : Array Value) : Blk ((w.alloc o).alloc (.cells cs t)) (w.heap.size + 1) t cs := by
  have h := Blk.new (w.alloc o) t cs
  rw [show (w.alloc o).heap.size = w.heap.size + 1 from by simp] at h
  exact h
theorem below_two (w : World) (a b : Obj) : Below w.heap.size w (((w.alloc a).alloc b).drew) := ((below_alloc w a).alloc (by simp) b).drew

set_option maxHeartbeats 1600000 in
theorem rneg_false (K : Nat) (vn vd : Value) (x : Rat) (w : World) (h : RatV w K false vn vd x) (hK : K ≤ 1073741824) :
    Calls Tryz.prog 97 #[.agg #[.bool false, vn, vd]] w (NewRat w K (-x)) := by
  obtain ⟨p, q, A, n, c, B, m, d, rfl, rfl, hu, hv, hq, h0, hp, hq2, rfl⟩ := h
  have hn := hu.len_le hp
  have hm := hv.len_le hq2
  have HU := Lib.hid hu
  have HV := Lib.hid hv
  have hz : n = 0 ↔ p = 0 := by
    have := @digs_length_eq_zero p
    rw [hu.len] at this; exact this
  have HP := Lib.hid hp
  have HQ := Lib.hid hq2
  have H0 := Lib.hid h0
  have HZ := Lib.hid hz
  clear hp hq2 hu hv h0 hz
  have HN : ∀ (W : World) (A : Option Addr) (n c v : Nat), Below w.heap.size w W → U32s w A n c (digs v) → n ≤ K → Calls Tryz.prog 160 #[.slice A n c] W fun e w' => ∃ A1 n1 c1, e = .returned (.slice A1 n1 c1) ∧ U32s w' A1 n1 c1 (digs v) ∧ Below W.heap.size W w' ∧ Below w.heap.size w w' := fun W A n c v hW hu hn =>
    (norm_v A n c _ W (hu.below hW) (by omega) (num_digs v)).mono (by
      rintro e w' ⟨A1, n1, c1, h1, h2, h3, h4, h5⟩
      exact ⟨A1, n1, c1, h1, h2, h5, hW.trans (h5.mono hW.size)⟩)
  have H := Lib.hid HN
  clear HN
  go_enter Tryz.func97, Tryz.ntmps97
  go_wp2_with fail
  go_region_held3 (fun w' => w'.cell? ⟨w.heap.size, 0, none⟩ = some (.bool false) ∧ w'.cell? ⟨w.heap.size, 1, none⟩ = some (.slice A n c) ∧ w'.cell? ⟨w.heap.size, 2, none⟩ = some (.slice B m d) ∧
      w'.cell? ⟨w.heap.size + 1, 0, none⟩ = some (cellOf w' ⟨w.heap.size + 1, 0, none⟩) ∧ w'.cell? ⟨w.heap.size + 1, 1, none⟩ = some (cellOf w' ⟨w.heap.size + 1, 1, none⟩) ∧ w'.cell? ⟨w.heap.size + 1, 2, none⟩ = some (cellOf w' ⟨w.heap.size + 1, 2, none⟩) ∧
      w'.frozen? ⟨w.heap.size + 1, 0, none⟩ = false ∧ w'.frozen? ⟨w.heap.size + 1, 1, none⟩ = false ∧ w'.frozen? ⟨w.heap.size + 1, 2, none⟩ = false ∧ Below w.heap.size w w')
    (first | (exact held3_set (by omega) (by omega) (by assumption) _ _ _ _ rfl) | (exact held3 (by assumption) hb1) | (refine ⟨?_, ?_, ?_, ?_, ?_, ?_, ?_, ?_, ?_, ?_⟩ <;> first | exact below_two _ _ _ | (simp [cellOf]; done) | (go_keep; done) | (trace_state; fail)))
    (first | (go_at_call 160; refine (H.out _ _ _ _ ?_ ?_ ?_ ?_).mono ?_; rotate_left; (first | exact below_two _ _ _ | assumption); (first | exact HU.out | exact HV.out); (assumption); rintro e w1 ⟨A1, n1, c1, rfl, hu1, hb1, hbw⟩))
  rename_i wa Aa na ca hua hba hbwa hHeld
  have hblk := (((Blk.new2 w (.cells #[.bool false, .slice A n c, .slice B m d] 60) 60 #[.bool false, .slice none 0 0, .slice none 0 0]).drewN 1).keep hba).keep hb1
  have z1 : p = 0 → decide (0 < n) = false := by
    intro h; have := HZ.out.2 h; subst this; rfl
  have z2 : -rv false p q = rv (decide (0 < n)) p q := by
    rcases Nat.eq_zero_or_pos n with h | h
    · rw [HZ.out.1 h, rv_zero, rv_zero]; rfl
    · rw [decide_eq_true h, rv_true]
  have hNR : NewRat w K (-rv false p q) (.returned (.agg #[.bool (decide (0 < n)), .slice Aa na ca, .slice A1 n1 c1])) _ :=
    RatV.ret (g := w.heap.size + 1) ⟨p, q, Aa, na, ca, A1, n1, c1, rfl, rfl, hua.below hb1, hu1, hq, z1, HP.out, HQ.out, z2⟩ hbw hblk NoWd.zero (by omega)
  have k := set3_cells (hblk.cell 0) (hblk.cell 1) (hblk.cell 2) (.bool (decide (0 < n))) (.slice Aa na ca) (.slice A1 n1 c1)
  have HNR := Lib.hid hNR
  obtain ⟨k0, k1, k2⟩ := k
  clear hHeld hNR hblk z1 z2 hba hbwa hua hu1 hb1 hbw
  go_wp2
  exact bodyPost_ret (v := .agg #[.bool (decide (0 < n)), .slice Aa na ca, .slice A1 n1 c1]) (by simp [results, Tryz.results97, go_sem, k0, k1, k2]) rfl HNR.out

end Go.Proofs.YtmjkmoahkanblaaGreat

namespace Go.Proofs.YtmjkmoahkanblaaGreat
open Go.RowKit

theorem heldc {w W W' : World} {a0 a1 a2 b1 b2 : Addr} {v0 v1 v2 u1 u2 : Value} (h : W.cell? a0 = some v0 ∧ W.cell? a1 = some v1 ∧ W.cell? a2 = some v2 ∧ W.cell? b1 = some u1 ∧ W.cell? b2 = some u2 ∧ Below w.heap.size w W) (hb : Below W.heap.size W W') :
    W'.cell? a0 = some v0 ∧ W'.cell? a1 = some v1 ∧ W'.cell? a2 = some v2 ∧ W'.cell? b1 = some u1 ∧ W'.cell? b2 = some u2 ∧ Below w.heap.size w W' := by
  obtain ⟨h0, h1, h2, h3, h4, h5⟩ := h
  exact ⟨cell_below h0 hb, cell_below h1 hb, cell_below h2 hb, cell_below h3 hb, cell_below h4 hb, h5.trans (hb.mono h5.size)⟩

set_option maxHeartbeats 3200000 in
theorem rcmp_any (K : Nat) (neg : Bool) (vn vd : Value) (x : Rat) (neg' : Bool) (vn' vd' : Value) (y : Rat) (w : World) (h : RatV w K neg vn vd x) (h' : RatV w K neg' vn' vd' y) (hK : K ≤ 1073741824) :
    Calls Tryz.prog 71 #[.agg #[.bool neg, vn, vd], .agg #[.bool neg', vn', vd']] w fun e w' => e = .returned (.int .i64 (rc x y)) ∧ Below w.heap.size w w' := by
  obtain ⟨A, n, c, B, m, d, rfl, rfl⟩ := h.shape
  obtain ⟨A', n', c', B', m', d', rfl, rfl⟩ := h'.shape
  have H := Lib.hid h
  have H' := Lib.hid h'
  have ba : Below w.heap.size w ((w.alloc (.cells #[.bool neg, .slice A n c, .slice B m d] 60)).alloc (.cells #[.bool neg', .slice A' n' c', .slice B' m' d'] 60)) := (below_alloc w _).alloc (by simp) _
  have h1 := Lib.hid (rsign_any K neg _ _ x _ (h.below ba) hK)
  have BA := Lib.hid ba
  clear h h' ba
  go_enter Tryz.func71, Tryz.ntmps71
  go_wp2_with fail
  refine h1.out.mono ?_
  rintro e w1 ⟨rfl, hb1⟩
  have B1 := Lib.hid (BA.out.trans (hb1.mono BA.out.size))
  have K1 := Lib.hid (((Blk.new w 60 #[.bool neg, .slice A n c, .slice B m d]).alloc (.cells #[.bool neg', .slice A' n' c', .slice B' m' d'] 60)).keep hb1)
  have K2 := Lib.hid ((Blk.new2 w (.cells #[.bool neg, .slice A n c, .slice B m d] 60) 60 #[.bool neg', .slice A' n' c', .slice B' m' d']).keep hb1)
  have k0 := K2.out.cell 0
  have k1 := K2.out.cell 1
  have k2 := K2.out.cell 2
  have h2 := Lib.hid (rsign_any K neg' _ _ y _ (H'.out.below B1.out) hK)
  clear hb1 h1
  simp at k0 k1 k2
  go_wp2_with fail
  refine h2.out.mono ?_
  rintro e w2 ⟨rfl, hb2⟩
  have B2 := Lib.hid (B1.out.trans (hb2.mono B1.out.size))
  have Q1 := Lib.hid (K1.out.keep hb2)
  have Q2 := Lib.hid (K2.out.keep hb2)
  clear hb2 k0 k1 k2 K1 K2 h2 B1 BA
  obtain ⟨s, hs⟩ : ∃ s, rsg x = s := ⟨_, rfl⟩
  obtain ⟨t, ht⟩ : ∃ t, rsg y = t := ⟨_, rfl⟩
  have HS := Lib.hid hs
  have HT := Lib.hid ht
  rw [hs, ht]
  clear hs ht
  rcases Int.lt_trichotomy s t with h0 | h0 | h0
  · go_wp2
    go_ret
    exact ⟨ret_int (by rw [rc_below (by rw [HS.out, HT.out]; exact h0)]), B2.out⟩
  · subst h0
    obtain ⟨p, q, A1, n1, c1, D1, m1, d1, e1, e2, hu, hv, hq, hp0, hp, hq2, rfl⟩ := H.out
    obtain ⟨p', q', A2, n2, c2, D2, m2, d2, e3, e4, hu', hv', hq', hp0', hp', hq2', rfl⟩ := H'.out
    cases e1; cases e2; cases e3; cases e4
    have l1 := hu.len_le hp
    have l2 := hv.len_le hq2
    have l3 := hu'.len_le hp'
    have l4 := hv'.len_le hq2'
    have HTm : ∀ (W : World) (A B : Option Addr) (n c m d a b : Nat), Below w.heap.size w W → U32s w A n c (digs a) → U32s w B m d (digs b) → n ≤ K → m ≤ K → Calls Tryz.prog 143 #[.slice A n c, .slice B m d] W fun e w' => ∃ A1 n1 c1, e = .returned (.slice A1 n1 c1) ∧ U32s w' A1 n1 c1 (digs (a * b)) ∧ Below W.heap.size W w' ∧ Below w.heap.size w w' := fun W A B n c m d a b hW h1 h2 h3 h4 =>
      (times_any A B n c m d _ _ W (h1.below hW) (h2.below hW) (by omega) (by omega)).mono (by
        rintro e w' ⟨A1, n1, c1, h5, h6, h7⟩
        rw [num_digs, num_digs] at h6
        exact ⟨A1, n1, c1, h5, h6, h7, hW.trans (h7.mono hW.size)⟩)
    have HCm : ∀ (W : World) (A B : Option Addr) (n c m d a b : Nat), Below w.heap.size w W → U32s W A n c (digs a) → U32s W B m d (digs b) → Calls Tryz.prog 142 #[.slice A n c, .slice B m d] W fun e w' => e = .returned (.int .i64 (cmp3 a b)) ∧ Below W.heap.size W w' ∧ Below w.heap.size w w' := fun W A B n c m d a b hW h1 h2 =>
      (cmp_any A B n c m d _ _ W h1 h2).mono (by
        rintro e w' ⟨h5, k, rfl⟩
        rw [num_digs, num_digs] at h5
        exact ⟨h5, below_drewN (Below.refl _ _) k, below_drewN hW k⟩)
    have R := Lib.hid (rc_same hq hq' hp0 hp0' (by rw [HS.out, HT.out]))
    have HU := Lib.hid hu
    have HV := Lib.hid hv
    have HU' := Lib.hid hu'
    have HV' := Lib.hid hv'
    have HTm := Lib.hid HTm
    have HCm := Lib.hid HCm
    have k0 := Q1.out.cell 0
    have k1 := Q1.out.cell 1
    have k2 := Q1.out.cell 2
    have j1 := Q2.out.cell 1
    have j2 := Q2.out.cell 2
    have b2 := B2.out
    simp at k0 k1 k2 j1 j2
    clear hu hv hu' hv' hp hq2 hp' hq2' hp0 hp0' H H' hq hq' Q1 Q2
    go_wp2_with fail
    go_region_held3 (fun w' => w'.cell? ⟨w.heap.size, 0, none⟩ = some (.bool neg) ∧ w'.cell? ⟨w.heap.size, 1, none⟩ = some (.slice A n c) ∧ w'.cell? ⟨w.heap.size, 2, none⟩ = some (.slice B m d) ∧ w'.cell? ⟨w.heap.size + 1, 1, none⟩ = some (.slice A' n' c') ∧ w'.cell? ⟨w.heap.size + 1, 2, none⟩ = some (.slice B' m' d') ∧ Below w.heap.size w w')
      (first | (exact heldc (by assumption) hb1) | (exact ⟨k0, k1, k2, j1, j2, b2.drew⟩))
      (first | (go_at_call 143; refine (HTm.out _ _ _ _ _ _ _ ?_ ?_ ?_ ?_ ?_ ?_ ?_).mono ?_; rotate_left; rotate_left; (first | exact B2.out.drew | assumption); (first | exact HU.out | exact HU'.out); (first | exact HV.out | exact HV'.out); (assumption); (assumption); rintro e w1 ⟨A1, n1, c1, rfl, hu1, hb1, hbw⟩) | (go_at_call 142; refine (HCm.out _ _ _ _ _ _ _ ?_ ?_ ?_ ?_ ?_).mono ?_; rotate_left; rotate_left; (assumption); (exact U32s.below (by assumption) hb1); (assumption); rintro e w1 ⟨rfl, hb1, hbw⟩))
    rename_i hHeld
    have kk := hHeld.1
    have BW := Lib.hid hbw
    have hc := cmp3_range (p * q') (p' * q)
    obtain ⟨r, hr⟩ : ∃ r, rc (rv neg p q) (rv neg' p' q') = r := ⟨_, rfl⟩
    have R := R.out
    rw [hr, HS.out] at R
    obtain ⟨c, hcc⟩ : ∃ c, cmp3 (p * q') (p' * q) = c := ⟨_, rfl⟩
    rw [hcc] at R hc ⊢
    have Hr := Lib.hid hr
    have r0 : s = 0 → r = 0 := by intro h; rw [if_pos h] at R; exact R
    have r1 : s ≠ 0 → neg = true → r = -c := by intro h h2; rw [if_neg h, if_pos h2] at R; exact R
    have r2 : s ≠ 0 → neg = false → r = c := by intro h h2; rw [if_neg h, h2] at R; exact R
    have R0 := Lib.hid r0
    have R1 := Lib.hid r1
    have R2 := Lib.hid r2
    clear R r0 r1 r2 hr hcc hHeld hbw hb1 hu1 HS HT HCm HTm HU HV HU' HV' k0 k1 k2 j1 j2 b2
    rcases Int.lt_trichotomy s 0 with hs | hs | hs
    · have hs1 : (s == 0) = false := by simp; omega
      cases neg
      · go_wp2
        go_ret
        exact ⟨ret_int (Hr.out.trans (R2.out (by omega) (by simp))).symm, BW.out⟩
      · go_wp2
        go_ret
        exact ⟨ret_int (Hr.out.trans (R1.out (by omega) (by simp))).symm, BW.out⟩
    · subst hs
      cases neg
      · go_wp2
        go_ret
        exact ⟨ret_int (Hr.out.trans (R0.out (by simp))).symm, BW.out⟩
      · go_wp2
        go_ret
        exact ⟨ret_int (Hr.out.trans (R0.out (by simp))).symm, BW.out⟩
    · have hs1 : (s == 0) = false := by simp; omega
      cases neg
      · go_wp2
        go_ret
        exact ⟨ret_int (Hr.out.trans (R2.out (by omega) (by simp))).symm, BW.out⟩
      · go_wp2
        go_ret
        exact ⟨ret_int (Hr.out.trans (R1.out (by omega) (by simp))).symm, BW.out⟩
  · have h0' : ¬ s < t := by omega
    go_wp2
    go_ret
    exact ⟨ret_int (by rw [rc_above (by rw [HS.out, HT.out]; exact h0)]), B2.out⟩

end Go.Proofs.YtmjkmoahkanblaaGreat

namespace Go.Proofs.YtmjkmoahkanblaaGreat
open Ieee

/-- The magnitude of a rung, in units of 2^-1074. -/
def mag (r : Nat) : Nat := if r < 2^52 then r else (2^52 + r % 2^52) * 2^(r / 2^52 - 1)

theorem mag_small {r : Nat} (h : r < 2^52) : mag r = r := by unfold mag; rw [if_pos h]

/-- A rung by its binade and its significand. -/
theorem mag_form (k q : Nat) (h : k = 0 ∨ 2^52 ≤ q) (hq : q ≤ 2^53) : mag (k * 2^52 + q) = q * 2^k := by
  unfold mag
  rcases Nat.lt_or_ge q (2^52) with h1 | h1
  · rcases h with rfl | h
    · rw [if_pos (by omega), Nat.zero_mul, Nat.zero_add, Nat.pow_zero, Nat.mul_one]
    · omega
  · rw [if_neg (by omega)]
    rcases Nat.lt_or_ge q (2^53) with h2 | h2
    · have e1 : (k * 2^52 + q) % 2^52 = q - 2^52 := by omega
      have e2 : (k * 2^52 + q) / 2^52 - 1 = k := by omega
      rw [e1, e2, Nat.add_sub_of_le h1]
    · obtain rfl : q = 2^53 := by omega
      have e1 : (k * 2^52 + 2^53) % 2^52 = 0 := by omega
      have e2 : (k * 2^52 + 2^53) / 2^52 - 1 = k + 1 := by omega
      rw [e1, e2, Nat.add_zero, ← Nat.pow_add, ← Nat.pow_add, Nat.add_comm 52, Nat.add_comm 53, Nat.add_assoc k 1 52]

/-- Every rung has such a form. -/
theorem rung_form (r : Nat) : ∃ k q, r = k * 2^52 + q ∧ (k = 0 ∨ 2^52 ≤ q) ∧ q < 2^53 := by
  rcases Nat.lt_or_ge r (2^52) with h | h
  · exact ⟨0, r, by omega, .inl rfl, by omega⟩
  · refine ⟨r / 2^52 - 1, 2^52 + r % 2^52, by omega, .inr (by omega), by omega⟩

theorem mag_succ (r : Nat) : mag r < mag (r + 1) := by
  obtain ⟨k, q, rfl, h, hq⟩ := rung_form r
  rw [mag_form k q h (by omega), Nat.add_assoc, mag_form k (q + 1) (by omega) (by omega)]
  exact Nat.mul_lt_mul_of_pos_right (by omega) (Nat.two_pow_pos _)

theorem mag_lt {r s : Nat} (h : r < s) : mag r < mag s := by
  induction s with
  | zero => omega
  | succ s ih =>
    rcases Nat.lt_or_ge r s with h1 | h1
    · exact Nat.lt_trans (ih h1) (mag_succ s)
    · obtain rfl : r = s := by omega
      exact mag_succ r

theorem mag_lt_iff {r s : Nat} : mag r < mag s ↔ r < s := by
  constructor
  · intro h
    rcases Nat.lt_or_ge r s with h1 | h1
    · exact h1
    · rcases Nat.lt_or_ge s r with h2 | h2
      · have := mag_lt h2; omega
      · obtain rfl : r = s := by omega
        omega
  · exact mag_lt

theorem mag_le_iff {r s : Nat} : mag r ≤ mag s ↔ r ≤ s := by
  have := @mag_lt_iff s r
  omega

theorem mag_inj {r s : Nat} (h : mag r = mag s) : r = s := by
  have h1 := @mag_le_iff r s
  have h2 := @mag_le_iff s r
  omega

theorem mag_zero : mag 0 = 0 := rfl
theorem mag_pos {r : Nat} (h : 0 < r) : 0 < mag r := by have := mag_lt h; rw [mag_zero] at this; exact this
theorem mag_eq_zero {r : Nat} : mag r = 0 ↔ r = 0 := by
  constructor
  · intro h; exact mag_inj (h.trans mag_zero.symm)
  · rintro rfl; rfl

/-! ### The rung below a number -/

/-- How many places a number of units has beyond 53. -/
def over (n : Nat) : Nat := n.log2 - 52
/-- The rung at or just below 'n' units. -/
def floorRung (n : Nat) : Nat := over n * 2^52 + n / 2^over n

theorem over_spec (n : Nat) : (over n = 0 ∨ 2^52 ≤ n / 2^over n) ∧ n / 2^over n < 2^53 := by
  unfold over
  by_cases h0 : n = 0
  · subst h0; simp
  have h1 := Nat.log2_self_le h0
  have h2 : n < 2^(n.log2 + 1) := Nat.lt_log2_self
  constructor
  · by_cases h : n.log2 ≤ 52
    · left; omega
    · right
      rw [Nat.le_div_iff_mul_le (Nat.two_pow_pos _), ← Nat.pow_add]
      exact Nat.le_trans (Nat.pow_le_pow_right (by omega) (by omega)) h1
  · rw [Nat.div_lt_iff_lt_mul (Nat.two_pow_pos _), ← Nat.pow_add]
    exact Nat.lt_of_lt_of_le h2 (Nat.pow_le_pow_right (by omega) (by omega))

theorem mag_floorRung (n : Nat) : mag (floorRung n) = n / 2^over n * 2^over n := by
  unfold floorRung
  have h := over_spec n
  exact mag_form _ _ h.1 (by omega)

theorem mag_floorRung_le (n : Nat) : mag (floorRung n) ≤ n := by
  rw [mag_floorRung]; exact Nat.div_mul_le_self _ _

theorem lt_mag_floorRung_succ (n : Nat) : n < mag (floorRung n + 1) := by
  unfold floorRung
  have h := over_spec n
  rw [Nat.add_assoc, mag_form _ _ (by omega) (by omega)]
  have h1 := Nat.lt_div_mul_add (a := n) (Nat.two_pow_pos (over n))
  rw [Nat.add_mul]
  omega

theorem le_floorRung {r n : Nat} : r ≤ floorRung n ↔ mag r ≤ n := by
  constructor
  · intro h; exact Nat.le_trans (mag_le_iff.2 h) (mag_floorRung_le n)
  · intro h
    have := Nat.lt_of_le_of_lt h (lt_mag_floorRung_succ n)
    have := mag_lt_iff.1 this
    omega

theorem floorRung_mag (r : Nat) : floorRung (mag r) = r := by
  have h1 := (@le_floorRung r (mag r)).2 (Nat.le_refl _)
  have h2 := (@le_floorRung (floorRung (mag r)) (mag r)).1 (Nat.le_refl _)
  have := mag_le_iff.1 h2
  omega

/-! ### The nearest rung -/

/-- Is the rest of 'n' by 2^k more than a half, or a half with an odd quotient? -/
def bump (n k : Nat) : Bool := decide (2^k < 2 * (n % 2^k)) || (2^k == 2 * (n % 2^k) && n / 2^k % 2 == 1)
/-- The rung nearest to 'n / 2^d' units, as if there were no infinity. -/
def nearRung (n d : Nat) : Nat := floorRung (n / 2^d) + (bump n (d + over (n / 2^d))).toNat

theorem bump_rest {n k : Nat} (h : bump n k = true) : n / 2^k * 2^k < n := by
  have h0 : 0 < n % 2^k := by
    unfold bump at h
    have := Nat.two_pow_pos k
    simp at h
    omega
  have h1 := Nat.div_add_mod n (2^k)
  rw [Nat.mul_comm] at h1
  omega

theorem div_div_pow (n d k : Nat) : n / 2^d / 2^k = n / 2^(d + k) := by
  rw [Nat.div_div_eq_div_mul, Nat.pow_add]

theorem le_nearRung {r n d : Nat} (h : mag r * 2^d ≤ n) : r ≤ nearRung n d := by
  have : mag r ≤ n / 2^d := (Nat.le_div_iff_mul_le (Nat.two_pow_pos _)).2 h
  have := le_floorRung.2 this
  unfold nearRung; omega

theorem nearRung_le {r n d : Nat} (h : n ≤ mag r * 2^d) : nearRung n d ≤ r := by
  unfold nearRung
  cases hb : bump n (d + over (n / 2^d))
  · simp
    refine mag_le_iff.1 (Nat.le_trans (mag_floorRung_le _) ?_)
    exact Nat.le_trans (Nat.div_le_div_right h) (by rw [Nat.mul_div_cancel _ (Nat.two_pow_pos _)]; exact Nat.le_refl _)
  · have h1 := bump_rest hb
    rw [← div_div_pow, Nat.add_comm d, Nat.pow_add, ← Nat.mul_assoc, ← mag_floorRung] at h1
    have h2 := Nat.lt_of_mul_lt_mul_right (Nat.lt_of_lt_of_le h1 h)
    have := mag_lt_iff.1 h2
    simp; omega

theorem nearRung_mag (r d : Nat) : nearRung (mag r * 2^d) d = r :=
  Nat.le_antisymm (nearRung_le (Nat.le_refl _)) (le_nearRung (Nat.le_refl _))

end Go.Proofs.YtmjkmoahkanblaaGreat
