/-
Walks: package vergeref2, Right.
Walks: package vergeref2, Times.
Walks: package vergeref2, Power.
Walks: package vergeref2, Frac.
Walks: package vergeref2, RSign, RNeg.
Walks: package vergeref2, Small, Word.
Walks: package vergeref2, FromBits.
Walks: package vergeref2, Int of a natural.
-/
import Derived.Test.YtmjkmoahkanblaaGreatM02
import Derived.Test.YtmjkmoahkanblaaGreatM01
set_option linter.unusedSimpArgs false
set_option linter.unusedVariables false

namespace Go.Proofs.YtmjkmoahkanblaaGreat
open Go.RowKit

/-- A slice of words and a bool. -/
def NewU32B (w : World) (xs : List Nat) (b : Bool) (e : Ending) (w' : World) : Prop :=
  ∃ A n c, e = .returned (.tuple #[.slice A n c, .bool b]) ∧ U32s w' A n c xs ∧ Below w.heap.size w w'

theorem right_lost {xs : List Nat} (hx : W32 xs) (q s : Nat) (hs : s < 32) : num xs % 2^(32 * q + s) = num (xs.take q) + 2^(32 * q) * (xs[q]?.getD 0 % 2^s) := by
  rw [Nat.pow_add, Nat.mod_mul, ← num_take_mod hx, ← num_word hx]
  congr 2
  rw [show (2:Nat)^32 = 2^s * 2^(32 - s) from by rw [← Nat.pow_add, show s + (32 - s) = 32 from by omega], Nat.mod_mul_right_mod]

set_option maxRecDepth 100000 in
set_option maxHeartbeats 1600000 in
theorem right_any (A : Option Addr) (n c k : Nat) (xs : List Nat) (w : World) (hx : U32s w A n c xs) (hs1 : n ≤ 8589934592) (hk : k ≤ 137438953472) :
    Calls Tryz.prog 200 #[.slice A n c, .int .i64 (k : Int)] w (NewU32B w (digs (num xs / 2^k)) (decide (num xs % 2^k ≠ 0))) := by
  have HX := Lib.hid hx
  have l1 := wlen_le xs
  rw [hx.len] at l1
  have w1 := words_any A n c xs w hx
  clear hx
  obtain ⟨m, hm⟩ : ∃ m, wlen xs = m := ⟨_, rfl⟩
  rw [hm] at w1 l1
  have W1 := Lib.hid w1
  clear w1
  obtain ⟨s, hs⟩ : ∃ s, k % 32 = s := ⟨_, rfl⟩
  obtain ⟨q, hq⟩ : ∃ q, k / 32 = q := ⟨_, rfl⟩
  have hs2 : s < 32 := by omega
  have hkq : 32 * q + s = k := by omega
  have hq2 : q ≤ 4294967296 := by omega
  have d1 : (k : Int) / 32 = (q : Int) := by omega
  have d2 : (k : Int) % 32 = (s : Int) := by omega
  clear hs hq
  have HM := Lib.hid hm
  have HK := Lib.hid hkq
  clear hm hkq
  by_cases h0 : m = 0
  · subst h0
    rw [wlen_eq_zero.1 HM.out, Nat.zero_div, Nat.zero_mod, digs_zero]
    go_enter Tryz.func200, Tryz.ntmps200
    go_wp2_with fail
    refine W1.out.mono ?_
    rintro e w' ⟨rfl, rfl⟩
    clear W1
    go_wp2
    go_ret2
    exact ⟨none, 0, 0, rfl, U32s.nil _ _ _, Below.refl _ _⟩
  have h0' : ((m : Int) == 0) = false := by simp; omega
  by_cases hqm : m ≤ q
  · have hlt : num xs < 2^k := by
      refine Nat.lt_of_lt_of_le (num_lt_wlen HX.out.w32) (Nat.pow_le_pow_right (by omega) ?_)
      rw [HM.out, ← HK.out]; omega
    have hne : num xs ≠ 0 := by
      have := @wlen_eq_zero xs
      rw [HM.out] at this; omega
    rw [Nat.div_eq_of_lt hlt, Nat.mod_eq_of_lt hlt, digs_zero, decide_eq_true hne]
    clear hlt hne
    go_enter Tryz.func200, Tryz.ntmps200
    go_wp2_with fail
    refine W1.out.mono ?_
    rintro e w' ⟨rfl, rfl⟩
    clear W1
    go_wp2
    go_ret2
    exact ⟨none, 0, 0, rfl, U32s.nil _ _ _, Below.refl _ _⟩
  obtain ⟨ad, rfl, hc⟩ := HX.out.cell (j := q) (by omega)
  have hx1 := HX.out.lt q
  obtain ⟨x, hx⟩ : ∃ x, xs[q]?.getD 0 = x := ⟨_, rfl⟩
  rw [hx] at hc hx1
  have HXX := Lib.hid hx
  clear hx
  obtain ⟨s', hs'⟩ : ∃ s', s + s' = 31 := ⟨31 - s, by omega⟩
  have d3 : (31 : Int) - (s : Int) = (s' : Int) := by omega
  obtain ⟨z, hz⟩ : ∃ z, x * 2^s' % 4294967296 * 2 % 4294967296 = z := ⟨_, rfl⟩
  have hz0 : z = 0 ↔ x % 2^s = 0 := by
    have e1 : z = 2^(s' + 1) * (x % 2^s) := by
      rw [← hz, Nat.pow_succ, show x * 2^s' % 4294967296 * 2 % 4294967296 = x * (2^s' * 2) % 4294967296 from by rw [← Nat.mul_assoc]; omega]
      rw [← Nat.pow_succ, Nat.mul_comm x, show (4294967296 : Nat) = 2^(s' + 1) * 2^s from by rw [← Nat.pow_add, show s' + 1 + s = 32 from by omega], Nat.mul_mod_mul_left]
    rw [e1]
    have := Nat.two_pow_pos (s' + 1)
    constructor
    · intro h
      rcases Nat.mul_eq_zero.1 h with h | h
      · omega
      · exact h
    · intro h; rw [h]; rfl
  have d4 : (x : Int) * 2^s' % 4294967296 * 2 % 4294967296 = (z : Int) := by
    rw [← hz, show (x : Int) * 2^s' = ((x * 2^s' : Nat) : Int) from by simp]; omega
  have HZ := Lib.hid hz0
  clear hz0 hz hs'
  have hinit : ∀ lost : Bool, lost = decide (x % 2^s ≠ 0) → lost = decide (xs[q]?.getD 0 % 2^s ≠ 0 ∨ num (xs.take 0) ≠ 0) := by
    intro lost h
    rw [h, HXX.out]; simp [num]
  have HIN := Lib.hid hinit
  clear hinit
  by_cases hzz : z = 0
  case' pos =>
    have hl := HIN.out false (by rw [decide_eq_false (by rw [HZ.out.1 hzz]; omega)])
    have HL := Lib.hid hl
    clear hl HZ HIN
    have g1 : ((z : Int) == 0) = true := by simp; exact hzz
    have g2 : ((z : Int) != 0) = false := by simp; exact hzz
    go_enter Tryz.func200, Tryz.ntmps200
    go_wp2_with fail
    refine W1.out.mono ?_
    rintro e w' ⟨rfl, rfl⟩
    clear W1
    go_wp2
    clear g1 g2 hzz d4 hc
  case' neg =>
    have hx0 : x % 2^s ≠ 0 := fun h => hzz (HZ.out.2 h)
    have hl := HIN.out true (by rw [decide_eq_true hx0])
    have HL := Lib.hid hl
    have hs0 : 0 < s := by
      rcases Nat.eq_zero_or_pos s with h | h
      · subst h; simp [Nat.mod_one] at hx0
      · exact h
    clear hl HZ HIN hx0
    have g1 : ((z : Int) == 0) = false := by simp; exact hzz
    have g2 : ((z : Int) != 0) = true := by simp; exact hzz
    have g3 : (0 : Int) < (s : Int) := by omega
    go_enter Tryz.func200, Tryz.ntmps200
    go_wp2_with fail
    refine W1.out.mono ?_
    rintro e w' ⟨rfl, rfl⟩
    clear W1
    go_wp2
    clear g1 g2 hzz d4 hc g3 hs0
  all_goals
    go_loop [8, 9] (fun bv iv => ∃ (i : Nat) (b : Bool), iv = .int .i64 i ∧ bv = .bool b ∧ i ≤ q ∧ b = decide (xs[q]?.getD 0 % 2^s ≠ 0 ∨ num (xs.take i) ≠ 0)) (fun _ iv => q - (intOf iv).toNat)
    case atStart => exact ⟨0, _, rfl, rfl, Nat.zero_le _, HL.out⟩
    case round =>
      clear HL
      obtain ⟨i, b, rfl, rfl, hi, hbv⟩ := hrel
      have HB := Lib.hid hbv
      clear hbv
      by_cases hlt : i < q
      · obtain ⟨ad', e, hc'⟩ := HX.out.cell (j := i) (by omega)
        cases e
        have hy1 := HX.out.lt i
        have hstep : ∀ b' : Bool, b' = (b || decide (xs[i]?.getD 0 ≠ 0)) → b' = decide (xs[q]?.getD 0 % 2^s ≠ 0 ∨ num (xs.take (i + 1)) ≠ 0) := by
          intro b' h
          rw [h, HB.out, num_take_next]
          have hp := Nat.two_pow_pos (32 * i)
          rw [Bool.eq_iff_iff]
          simp only [Bool.or_eq_true, decide_eq_true_eq]
          have : (num (xs.take i) + 2^(32 * i) * xs[i]?.getD 0 ≠ 0) ↔ (num (xs.take i) ≠ 0 ∨ xs[i]?.getD 0 ≠ 0) := by
            constructor
            · intro h1
              by_cases h2 : xs[i]?.getD 0 = 0
              · left; rw [h2] at h1; simpa using h1
              · exact .inr h2
            · intro h1
              rcases h1 with h1 | h1
              · omega
              · have := Nat.mul_pos hp (Nat.pos_of_ne_zero h1); omega
          rw [this, or_assoc]
        have HS := Lib.hid hstep
        clear hstep
        obtain ⟨y, hy⟩ : ∃ y, xs[i]?.getD 0 = y := ⟨_, rfl⟩
        rw [hy] at hc' hy1
        have HYY := Lib.hid hy
        clear hy
        cases b
        · go_wp2
          go_round
          case rel => exact ⟨i + 1, _, by go_num, rfl, by omega, HS.out _ (by rw [HYY.out]; simp [bne]; rw [Bool.eq_iff_iff]; simp)⟩
          case measure => simp [intOf]; omega
        · go_wp2
          go_round
          case rel => exact ⟨i + 1, _, by go_num, rfl, by omega, HS.out _ (by simp)⟩
          case measure => simp [intOf]; omega
      · obtain rfl : i = q := by omega
        go_wp2
        go_loopw [10, 11] (fun v iv wr => ∃ (t : Nat) (ls : List Nat), iv = .int .i64 ((i + t : Nat) : Int) ∧ i + t ≤ m ∧ RightInv xs ls i s t ∧ Own wr w.heap.size v ls ∧ Below w.heap.size w wr) (fun _ iv _ => m - (intOf iv).toNat)
        case atStart => exact ⟨0, [], by go_num, by omega, RightInv.start _ _ _, Own.nil _ _, Below.refl _ _⟩
        case round =>
          obtain ⟨t, ls, rfl, ht, hinv, hown, hb⟩ := hrel
          have HI := Lib.hid hinv
          have HO := Lib.hid hown
          clear hinv hown
          have hbs := hb.size
          by_cases hlt3 : i + t < m
          · obtain ⟨ad', e, hc⟩ := (HX.out.below hb).cell (j := i + t) (by omega)
            cases e
            have hy1 := HX.out.lt (i + t)
            have hy2 := HX.out.lt (i + t + 1)
            obtain ⟨x1, hx1'⟩ : ∃ x1, xs[i + t + 1]?.getD 0 = x1 := ⟨_, rfl⟩
            obtain ⟨x0, hx0'⟩ : ∃ x0, xs[i + t]?.getD 0 = x0 := ⟨_, rfl⟩
            rw [hx0'] at hc hy1
            rw [hx1'] at hy2
            obtain ⟨v, hv⟩ : ∃ v, x0 + 4294967296 * x1 = v := ⟨_, rfl⟩
            have hv1 : v < 18446744073709551616 := by omega
            obtain ⟨u, hu⟩ : ∃ u, v / 2^s = u := ⟨_, rfl⟩
            have hu1 : u < 18446744073709551616 := by rw [← hu]; exact Nat.lt_of_le_of_lt (Nat.div_le_self _ _) hv1
            have hd : (v : Int) / 2^s = (u : Int) := by rw [← hu]; simp
            have hm := mask32_i (a := (u : Int)) (by omega) (by omega)
            have hst := HI.out.step (v := v) HX.out.w32 hs2 (by rw [hx0', hx1']; exact hv.symm)
            rw [hu] at hst
            have HST := Lib.hid hst
            clear hst hu
            have hor := or_join' (i := 32) (x := x1) (y := x0) (by omega) (by omega) (by omega)
            rw [show x0 + x1 * 2^32 = v from by rw [← hv]; omega, show ((x1 * 2^32 : Nat) : Int) = (x1 : Int) * 4294967296 from by omega] at hor
            have hcell : i + t + 1 < m → wr.cell? (ad.add (i + t + 1)) = some (wd x1) := by
              intro h
              have hc2 := (HX.out.below hb).cellAt (j := i + t + 1) (by omega)
              rw [hx1'] at hc2; exact hc2
            have hnot : ¬ i + t + 1 < m → x0 = v := by
              intro h
              have h1 := (wlen_spec xs).1 (i + t + 1) (by rw [HM.out]; omega)
              rw [hx1'] at h1; omega
            have HC := Lib.hid hcell
            have HN := Lib.hid hnot
            clear hcell hnot hx1' hx0' hv
            rw [show ((i + t : Nat) : Int) = (i : Int) + (t : Int) from by omega]
            have j1 : ((i : Int) + (t : Int)).toNat = i + t := by omega
            have j2 : ((i : Int) + (t : Int) + 1).toNat = i + t + 1 := by omega
            by_cases h4 : i + t + 1 < m
            · have hc2 := HC.out h4
              rw [show ad.add (i + t + 1) = ⟨ad.block, ad.off + (i + t + 1), none⟩ from by simp [Addr.add]] at hc2
              clear HC HN
              go_wp2_with (at_builtin; refine wpList_append_u32 _ rfl _ _ rfl w.heap.size _ ls rfl (HO.out.alloc _) ⟨_, 0, none⟩ 1 (u % 4294967296) rfl ?c1 ?c2 ?c3 ?_)
              case c1 => simp
              case c2 => rw [HI.out.2.1]; omega
              case c3 => simp; omega
              intro v' w' hown' hgrow
              have HO' := Lib.hid hown'
              have hb' : Below w.heap.size w w' := (hb.alloc hbs _).grown hgrow (by simp; omega) (fun g hg => (HO.out.lt g hg).1)
              clear hown' hb hgrow hc hbs hm
              go_wp2
              go_roundw
              case rel => exact ⟨t + 1, _, by go_num, by omega, HST.out, HO'.out, hb'⟩
              case measure => simp [intOf]; omega
            · obtain rfl := HN.out h4
              clear HC HN hor
              go_wp2_with (at_builtin; refine wpList_append_u32 _ rfl _ _ rfl w.heap.size _ ls rfl (HO.out.alloc _) ⟨_, 0, none⟩ 1 (u % 4294967296) rfl ?c1 ?c2 ?c3 ?_)
              case c1 => simp
              case c2 => rw [HI.out.2.1]; omega
              case c3 => simp; omega
              intro v' w' hown' hgrow
              have HO' := Lib.hid hown'
              have hb' : Below w.heap.size w w' := (hb.alloc hbs _).grown hgrow (by simp; omega) (fun g hg => (HO.out.lt g hg).1)
              clear hown' hb hgrow hc hbs hm
              go_wp2
              go_roundw
              case rel => exact ⟨t + 1, _, by go_num, by omega, HST.out, HO'.out, hb'⟩
              case measure => simp [intOf]; omega
          · have hnum := HI.out.done HX.out.w32 (by rw [HM.out]; omega)
            rw [HK.out] at hnum
            have hlost := right_lost HX.out.w32 i s hs2
            rw [HK.out] at hlost
            have hbb : b = decide (num xs % 2^k ≠ 0) := by
              rw [HB.out, hlost, Bool.eq_iff_iff]
              simp only [decide_eq_true_eq]
              have hp := Nat.two_pow_pos (32 * i)
              constructor
              · intro h
                rcases h with h | h
                · have := Nat.mul_pos hp (Nat.pos_of_ne_zero h); omega
                · omega
              · intro h
                by_cases h2 : xs[i]?.getD 0 % 2^s = 0
                · right; rw [h2] at h; simpa using h
                · exact .inl h2
            obtain ⟨A', c', rfl⟩ := HO.out.form
            have hu := HO.out.u32s rfl HI.out.1 (by rw [HI.out.2.1]; omega)
            have hnorm := norm_any _ _ _ _ wr hu (by rw [HI.out.2.1]; omega)
            rw [trim_eq_digs HI.out.1, hnum] at hnorm
            have HN := Lib.hid hnorm
            have HBB := Lib.hid hbb
            clear hnorm hu hnum hlost hbb
            go_wp2_with fail
            refine HN.out.mono ?_
            rintro e w'' ⟨A2, n2, c2, rfl, hu2, hb2⟩
            have H2 := Lib.hid (show NewU32B w (digs (num xs / 2^k)) (decide (num xs % 2^k ≠ 0)) (.returned (.tuple #[.slice A2 n2 c2, .bool b])) w'' from ⟨A2, n2, c2, by rw [HBB.out], hu2, hb.trans (hb2.mono hbs)⟩)
            clear hu2 hb2 hb
            go_wp2
            go_ret2
            exact H2.out

end Go.Proofs.YtmjkmoahkanblaaGreat

namespace Go.Proofs.YtmjkmoahkanblaaGreat
open Go.RowKit

set_option maxHeartbeats 1600000 in
theorem times_any (A B : Option Addr) (n c m d : Nat) (xs ys : List Nat) (w : World) (hx : U32s w A n c xs) (hy : U32s w B m d ys) (hs1 : n ≤ 8589934592) (hs2 : m ≤ 8589934592) :
    Calls Tryz.prog 143 #[.slice A n c, .slice B m d] w (NewU32 w (digs (num xs * num ys))) := by
  have HX := Lib.hid hx
  have HY := Lib.hid hy
  have l1 := wlen_le xs
  have l2 := wlen_le ys
  rw [hx.len] at l1
  rw [hy.len] at l2
  have w1 := words_any A n c xs w hx
  have w2 := words_any B m d ys w hy
  clear hx hy
  obtain ⟨p, hp⟩ : ∃ p, wlen xs = p := ⟨_, rfl⟩
  obtain ⟨q, hq⟩ : ∃ q, wlen ys = q := ⟨_, rfl⟩
  rw [hp] at w1 l1
  rw [hq] at w2 l2
  have W1 := Lib.hid w1
  have W2 := Lib.hid w2
  have HP := Lib.hid hp
  have HQ := Lib.hid hq
  clear w1 w2 hp hq
  have hmk := fun W => make_u32 (N := (p : Int) + (q : Int)) (n := p + q) (by omega) (by omega) W
  go_enter Tryz.func143, Tryz.ntmps143
  go_wp2_with fail
  refine W1.out.mono ?_
  rintro e w' ⟨rfl, rfl⟩
  go_wp2_with fail
  refine W2.out.mono ?_
  rintro e w' ⟨rfl, rfl⟩
  go_wp2
  go_loopw [8] (fun jv wr => ∃ (j : Nat) (ls : List Nat), jv = .int .i64 j ∧ j ≤ q ∧ TimesOut xs ys ls p q j ∧ Arr wr w.heap.size ls ∧ Below w.heap.size w wr) (fun jv _ => q - (intOf jv).toNat)
  case atStart => exact ⟨0, _, rfl, Nat.zero_le _, TimesOut.start _ _ _ _, Arr.zeros _ _, below_alloc _ _⟩
  case round =>
    obtain ⟨j, ls, rfl, hj, hinv, harr, hb⟩ := hrel
    have HI := Lib.hid hinv
    have HA := Lib.hid harr
    clear hinv harr hmk W1 W2
    have hbs := hb.size
    by_cases hlt : j < q
    · obtain ⟨ad', e, hc'⟩ := (HY.out.below hb).cell (j := j) (by omega)
      cases e
      have hy1 := HY.out.lt j
      by_cases hy0 : ys[j]?.getD 0 = 0
      · rw [hy0] at hc'
        have HZ := Lib.hid hy0
        clear hy0
        go_wp2
        go_roundw
        case rel => exact ⟨j + 1, ls, by go_num, hlt, HI.out.skip HZ.out, HA.out, hb⟩
        case measure => simp [intOf]; omega
      · obtain ⟨y, hy⟩ : ∃ y, ys[j]?.getD 0 = y := ⟨_, rfl⟩
        rw [hy] at hc' hy1 hy0
        have HYY := Lib.hid hy
        have hy2 : ((y : Int) == 0) = false := by simp; omega
        clear hy hy0
        obtain ⟨wo, rfl⟩ : ∃ wo : World, wo = wr := ⟨_, rfl⟩
        go_wp2
        go_loopw [10, 11] (fun cv iv wr => ∃ (i k : Nat) (ls' : List Nat), iv = .int .i64 i ∧ cv = .int .u64 k ∧ i ≤ p ∧ TimesIn xs ls' ls p q j i y k ∧ Arr wr w.heap.size ls' ∧ Below w.heap.size w wr) (fun _ iv _ => p - (intOf iv).toNat)
        case atStart => exact ⟨0, 0, ls, rfl, rfl, Nat.zero_le _, TimesIn.start y HI.out, HA.out, hb⟩
        case round =>
          clear hb hbs HA hc'
          obtain ⟨i, k, ls', rfl, rfl, hi, hin, harr, hb⟩ := hrel
          have hk := hin.2.2.2.1
          have HIN := Lib.hid hin
          have HA := Lib.hid harr
          clear hin harr
          by_cases hlt2 : i < p
          · obtain ⟨ad, e, hc⟩ := (HX.out.below hb).cell (j := i) (by omega)
            cases e
            have hx1 := HX.out.lt i
            have hc2 := HA.out.cell (j := i + j) (by rw [HIN.out.2.1]; omega)
            have hf2 := HA.out.frozen (i + j)
            have hl1 : ls'[i + j]?.getD 0 < 4294967296 := HIN.out.1.get (i + j)
            obtain ⟨x, hx⟩ : ∃ x, xs[i]?.getD 0 = x := ⟨_, rfl⟩
            obtain ⟨l, hl⟩ : ∃ l, ls'[i + j]?.getD 0 = l := ⟨_, rfl⟩
            rw [hx] at hc hx1
            rw [hl] at hc2 hl1
            have HXX := Lib.hid hx
            have HLL := Lib.hid hl
            clear hx hl
            have hz1 : x * y ≤ 4294967295 * 4294967295 := Nat.mul_le_mul (by omega) (by omega)
            obtain ⟨z, hz⟩ : ∃ z, x * y = z := ⟨_, rfl⟩
            rw [hz] at hz1
            have e1 : (x : Int) * (y : Int) = (z : Int) := by rw [← hz]; simp
            have HZ := Lib.hid hz
            clear hz
            have hij : ((i : Int) + (j : Int)) < ((p + q : Nat) : Int) := by omega
            have b1 : ((i : Int) + (j : Int)).toNat = i + j := by omega
            have hm := mask32_i (a := (k : Int) + (l : Int) + (z : Int)) (by omega) (by omega)
            go_wp2_with fail
            go_quiet (fail)
            go_wp2
            go_roundw
            case rel =>
              refine ⟨i + 1, (k + l + z) / 4294967296, ls'.set (i + j) ((k + l + z) % 4294967296), by go_num, by go_num, by omega, ?_, ?_, (below_drewN hb _).setCell (Nat.le_refl _) _⟩
              · exact HIN.out.step hlt2 hlt HX.out.w32 hy1 (by rw [HXX.out, HLL.out, HZ.out])
              · have := (HA.out.drewN nq).set (i + j) ((k + l + z) % 4294967296)
                rw [show ((k : Int) + (l : Int) + (z : Int)) % 4294967296 = (((k + l + z) % 4294967296 : Nat) : Int) from by omega]
                exact this
            case measure => simp [intOf]; omega
          · obtain rfl : i = p := by omega
            have hc2 := HA.out.cell (j := j + i) (by rw [HIN.out.2.1]; omega)
            have hf2 := HA.out.frozen (j + i)
            have hij : ((j : Int) + (i : Int)) < ((i + q : Nat) : Int) := by omega
            have b1 : ((j : Int) + (i : Int)).toNat = j + i := by omega
            have hk2 : (k : Int) % 4294967296 = (k : Int) := by omega
            obtain ⟨l, hl⟩ : ∃ l, ls'[j + i]?.getD 0 = l := ⟨_, rfl⟩
            rw [hl] at hc2
            clear hl
            go_wp2
            go_roundw
            case rel =>
              exact ⟨j + 1, ls'.set (j + i) k, by go_num, hlt, HIN.out.done HI.out hlt (by rw [HP.out]; omega) HYY.out, HA.out.set _ _, hb.setCell (Nat.le_refl _) _⟩
            case measure => simp [intOf]; omega
    · obtain rfl : j = q := by omega
      have hnum := HI.out.done (by rw [HQ.out]; omega)
      have hu := HA.out.u32s' HI.out.1 HI.out.2.1 (by omega)
      have hnorm := norm_any _ _ _ _ wr hu (by omega)
      rw [trim_eq_digs HI.out.1, hnum] at hnorm
      have HN := Lib.hid hnorm
      clear hnorm hu hnum
      go_wp2_with fail
      refine HN.out.mono ?_
      rintro e w'' ⟨A2, n2, c2, rfl, hu2, hb2⟩
      have H2 := Lib.hid (show NewU32 w (digs (num xs * num ys)) (.returned (.slice A2 n2 c2)) w'' from NewU32.trans ⟨A2, n2, c2, rfl, hu2, hb2⟩ hb)
      clear hu2 hb2 hb
      go_wp2
      go_ret
      exact H2.out

end Go.Proofs.YtmjkmoahkanblaaGreat

namespace Go.Proofs.YtmjkmoahkanblaaGreat
open Go.RowKit

theorem digs_one : digs 1 = [1] := by rw [digs_pos (by omega)]; simp [digs_zero]
theorem U32s.len_le {w : World} {A : Option Addr} {n c : Nat} {v k : Nat} (h : U32s w A n c (digs v)) (hv : v < 2^(32 * k)) : n ≤ k := by
  rw [← h.len]; exact digs_length_le hv

def PowInv (N k P X j : Nat) : Prop := P * X^j = N^k
theorem PowInv.odd {N k P X j : Nat} (h : PowInv N k P X j) (hj : j % 2 = 1) : PowInv N k (P * X) (X * X) (j / 2) := by
  unfold PowInv at *
  rw [← h, ← Nat.pow_two, ← Nat.pow_mul, Nat.mul_assoc, ← Nat.pow_succ']
  congr 2; omega
theorem PowInv.even {N k P X j : Nat} (h : PowInv N k P X j) (hj : j % 2 = 0) : PowInv N k P (X * X) (j / 2) := by
  unfold PowInv at *
  rw [← h, ← Nat.pow_two, ← Nat.pow_mul]
  congr 2; omega
theorem PowInv.last {N k P X j X' : Nat} (h : PowInv N k P X j) (hj : j = 0) : PowInv N k P X' j := by
  unfold PowInv at *
  subst hj; simpa using h
theorem PowInv.done {N k P X : Nat} (h : PowInv N k P X 0) : P = N^k := by unfold PowInv at h; simpa using h
theorem PowInv.pos {N k P X j : Nat} (h : PowInv N k P X j) (hN : 0 < N) : 0 < P := by
  unfold PowInv at h
  have := Nat.pow_pos (n := k) hN
  rcases Nat.eq_zero_or_pos P with h0 | h0
  · rw [h0] at h; omega
  · exact h0
theorem PowInv.xpos {N k P X j : Nat} (h : PowInv N k P X j) (hN : 0 < N) (hj : 0 < j) : 0 < X := by
  unfold PowInv at h
  have := Nat.pow_pos (n := k) hN
  rcases Nat.eq_zero_or_pos X with h0 | h0
  · rw [h0, Nat.zero_pow hj] at h; omega
  · exact h0
/-- What is multiplied next is not greater than the whole. -/
theorem PowInv.le_px {N k P X j : Nat} (h : PowInv N k P X j) (hN : 0 < N) (hj : 0 < j) : P * X ≤ N^k := by
  have hx := h.xpos hN hj
  unfold PowInv at h
  rw [← h]
  exact Nat.mul_le_mul_left _ (by
    calc X = X^1 := (Nat.pow_one X).symm
      _ ≤ X^j := Nat.pow_le_pow_right hx hj)
theorem PowInv.le_xx {N k P X j : Nat} (h : PowInv N k P X j) (hN : 0 < N) (hj : 2 ≤ j) : X * X ≤ N^k := by
  have hx := h.xpos hN (by omega)
  have hp := h.pos hN
  unfold PowInv at h
  rw [← h]
  calc X * X = 1 * X^2 := by rw [Nat.pow_two, Nat.one_mul]
    _ ≤ P * X^j := Nat.mul_le_mul hp (Nat.pow_le_pow_right hx hj)

set_option maxHeartbeats 1600000 in
theorem power_any (A : Option Addr) (n c k S : Nat) (xs : List Nat) (w : World) (hx : U32s w A n c xs) (hs : n ≤ 8589934592) (hN : 0 < num xs) (hS1 : num xs < 2^(32 * S)) (hS : num xs ^ k < 2^(32 * S)) (hS2 : S ≤ 1073741824) (hk : k ≤ 1048576) :
    Calls Tryz.prog 240 #[.slice A n c, .int .i64 (k : Int)] w (NewU32 w (digs (num xs ^ k))) := by
  have HX := Lib.hid hx
  have HS := Lib.hid hS
  have HS1 := Lib.hid hS1
  have HN0 := Lib.hid hN
  have hS0 : 1 ≤ S := by
    rcases Nat.eq_zero_or_pos S with h | h
    · subst h; simp at hS1; omega
    · exact h
  clear hx hS hS1 hN
  go_enter Tryz.func240, Tryz.ntmps240
  go_wp2_with fail
  have hu0 := HX.out.below (below_alloc w (.cells #[.int .u32 1] 124))
  have hnorm := norm_any A n c xs _ hu0 (by omega)
  rw [trim_eq_digs HX.out.w32] at hnorm
  have HN := Lib.hid hnorm
  clear hnorm hu0
  refine HN.out.mono ?_
  rintro e w1 ⟨A1, n1, c1, rfl, hu1, hb1⟩
  have h1 : U32s w1 (some ⟨w.heap.size, 0, none⟩) 1 1 (digs 1) := by
    rw [digs_one]; exact (U32s.lit1 w 124 (a := 1) (by omega)).below hb1
  have HB := Lib.hid (show Below w.heap.size w w1 from (below_alloc w _).trans (hb1.mono (by simp)))
  have HU1 := Lib.hid hu1
  have H1 := Lib.hid h1
  clear HN hu1 hb1 h1
  go_wp2
  go_loopw [1, 5, 6] (fun jv pv xv wr => ∃ (j P X : Nat) (Ap Ax : Option Addr) (np nx cp cx : Nat), jv = .int .i64 j ∧ pv = .slice Ap np cp ∧ xv = .slice Ax nx cx ∧ j ≤ k ∧ PowInv (num xs) k P X j ∧
    U32s wr Ap np cp (digs P) ∧ U32s wr Ax nx cx (digs X) ∧ np ≤ S ∧ nx ≤ S ∧ Below w.heap.size w wr) (fun jv _ _ _ => (intOf jv).toNat)
  case atStart => exact ⟨k, 1, num xs, some ⟨w.heap.size, 0, none⟩, A1, 1, n1, 1, c1, rfl, rfl, rfl, Nat.le_refl _, by unfold PowInv; rw [Nat.one_mul], H1.out, HU1.out, hS0, HU1.out.len_le HS1.out, HB.out⟩
  case round =>
    obtain ⟨j, P, X, Ap, Ax, np, nx, cp, cx, rfl, rfl, rfl, hj, hinv, hp, hx, hnp, hnx, hb⟩ := hrel
    have HI := Lib.hid hinv
    have HP := Lib.hid hp
    have HXX := Lib.hid hx
    have HBB := Lib.hid hb
    clear hinv hp hx hb H1 HU1 HB
    rcases Nat.eq_zero_or_pos j with h0 | h0
    · subst h0
      have e := HI.out.done
      subst e
      go_wp2
      go_ret
      exact ⟨Ap, np, cp, rfl, HP.out, HBB.out⟩
    have hj2 : (0 : Int) < (j : Int) := by omega
    by_cases hodd : j % 2 = 1
    · have g1 : (j : Int) % 2 = 1 := by omega
      have ht := times_any Ap Ax np cp nx cx _ _ wr HP.out HXX.out (by omega) (by omega)
      rw [num_digs, num_digs] at ht
      have HT := Lib.hid ht
      clear ht
      go_wp2_with fail
      refine HT.out.mono ?_
      rintro e w2 ⟨A2, n2, c2, rfl, hu2, hb2⟩
      have hn2 : n2 ≤ S := hu2.len_le (Nat.lt_of_le_of_lt (HI.out.le_px HN0.out h0) HS.out)
      have HU2 := Lib.hid hu2
      have HX2 := Lib.hid (HXX.out.below hb2)
      have HB2 := Lib.hid (show Below w.heap.size w w2 from HBB.out.trans (hb2.mono HBB.out.size))
      clear HT hu2 hb2
      by_cases h2 : 2 ≤ j
      · have g2 : (0 : Int) < (j : Int) / 2 := by omega
        have ht := times_any Ax Ax nx cx nx cx _ _ w2 HX2.out HX2.out (by omega) (by omega)
        rw [num_digs] at ht
        have HT := Lib.hid ht
        clear ht
        go_wp2_with fail
        refine HT.out.mono ?_
        rintro e w3 ⟨A3, n3, c3, rfl, hu3, hb3⟩
        have hn3 : n3 ≤ S := hu3.len_le (Nat.lt_of_le_of_lt (HI.out.le_xx HN0.out (by omega)) HS.out)
        have HU3 := Lib.hid hu3
        have HP3 := Lib.hid (HU2.out.below hb3)
        have HB3 := Lib.hid (show Below w.heap.size w w3 from HB2.out.trans (hb3.mono HB2.out.size))
        clear HT hu3 hb3
        go_wp2
        go_roundw
        case rel => exact ⟨j / 2, P * X, X * X, A2, A3, n2, n3, c2, c3, by go_num, rfl, rfl, by omega, HI.out.odd hodd, HP3.out, HU3.out, hn2, hn3, HB3.out⟩
        case measure => simp [intOf]; omega
      · obtain rfl : j = 1 := by omega
        go_wp2
        go_roundw
        case rel => exact ⟨0, P * X, X, A2, Ax, n2, nx, c2, cx, by go_num, rfl, rfl, by omega, (HI.out.odd (by omega)).last rfl, HU2.out, HX2.out, hn2, hnx, HB2.out⟩
        case measure => simp [intOf]
    · have g1 : (j : Int) % 2 = 0 := by omega
      have g2 : (0 : Int) < (j : Int) / 2 := by omega
      have ht := times_any Ax Ax nx cx nx cx _ _ wr HXX.out HXX.out (by omega) (by omega)
      rw [num_digs] at ht
      have HT := Lib.hid ht
      clear ht
      go_wp2_with fail
      refine HT.out.mono ?_
      rintro e w3 ⟨A3, n3, c3, rfl, hu3, hb3⟩
      have hn3 : n3 ≤ S := hu3.len_le (Nat.lt_of_le_of_lt (HI.out.le_xx HN0.out (by omega)) HS.out)
      have HU3 := Lib.hid hu3
      have HP3 := Lib.hid (HP.out.below hb3)
      have HB3 := Lib.hid (show Below w.heap.size w w3 from HBB.out.trans (hb3.mono HBB.out.size))
      clear HT hu3 hb3
      go_wp2
      go_roundw
      case rel => exact ⟨j / 2, P, X * X, Ap, A3, np, n3, cp, c3, by go_num, rfl, rfl, by omega, HI.out.even (by omega), HP3.out, HU3.out, hnp, hn3, HB3.out⟩
      case measure => simp [intOf]; omega

end Go.Proofs.YtmjkmoahkanblaaGreat

namespace Go.Proofs.YtmjkmoahkanblaaGreat
open Go.RowKit

/-- What Frac makes of it. -/
theorem frac_value {neg : Bool} {a b ka kb K : Nat} {exp e : Int} (he : e = exp + ka - kb) (hb : 0 < b) (ha1 : a % 2^ka = 0) (hb1 : b % 2^kb = 0)
    (hka : a * 2^exp.toNat < 2^(32 * K)) (hkb : b * 2^(-exp).toNat < 2^(32 * K)) (ha : 0 < a) :
    0 < a / 2^ka * 2^e.toNat ∧ 0 < b / 2^kb * 2^(-e).toNat ∧ a / 2^ka * 2^e.toNat < 2^(32 * K) ∧ b / 2^kb * 2^(-e).toNat < 2^(32 * K) ∧
      rv neg a b * 2^exp = rv neg (a / 2^ka * 2^e.toNat) (b / 2^kb * 2^(-e).toNat) := by
  have hea := odd_part ha1
  have heb := odd_part hb1
  have pa : 0 < a / 2^ka := by
    rcases Nat.eq_zero_or_pos (a / 2^ka) with h | h
    · rw [h] at hea; omega
    · exact h
  have pb : 0 < b / 2^kb := by
    rcases Nat.eq_zero_or_pos (b / 2^kb) with h | h
    · rw [h] at heb; omega
    · exact h
  have q1 := Nat.mul_pos pa (Nat.two_pow_pos e.toNat)
  have q2 := Nat.mul_pos pb (Nat.two_pow_pos (-e).toNat)
  refine ⟨q1, q2, ?_, ?_, ?_⟩
  · refine Nat.lt_of_le_of_lt ?_ hka
    rw [← hea, Nat.mul_div_cancel _ (Nat.two_pow_pos ka), Nat.mul_assoc, ← Nat.pow_add]
    exact Nat.mul_le_mul_left _ (Nat.pow_le_pow_right (by omega) (by omega))
  · refine Nat.lt_of_le_of_lt ?_ hkb
    rw [← heb, Nat.mul_div_cancel _ (Nat.two_pow_pos kb), Nat.mul_assoc, ← Nat.pow_add]
    exact Nat.mul_le_mul_left _ (Nat.pow_le_pow_right (by omega) (by omega))
  · rw [← rv_scale neg hb]
    refine rv_eq (Nat.mul_pos hb (Nat.two_pow_pos _)) q2 ?_
    generalize a / 2^ka = x at *
    generalize b / 2^kb = y at *
    subst hea heb
    rw [Nat.mul_assoc, Nat.mul_assoc, Nat.mul_assoc, Nat.mul_assoc]
    congr 1
    rw [Nat.mul_left_comm _ y, Nat.mul_left_comm _ y, Nat.mul_left_comm _ y]
    congr 1
    rw [← Nat.pow_add, ← Nat.pow_add, ← Nat.pow_add, ← Nat.pow_add]
    congr 1; omega

set_option maxHeartbeats 1600000 in
theorem frac_zero (neg : Bool) (A B : Option Addr) (n c m d K : Nat) (xs ys : List Nat) (exp : Int) (w : World) (hx : U32s w A n c xs) (hy : U32s w B m d ys) (hs1 : n ≤ 8589934592) (hs2 : m ≤ 8589934592) (h0 : num xs = 0) (hK : 1 ≤ K) :
    Calls Tryz.prog 139 #[.bool neg, .slice A n c, .slice B m d, .int .i64 exp] w (NewRat w K 0) := by
  have HX := Lib.hid hx
  have HY := Lib.hid hy
  clear hx hy
  have ba := below_alloc w (.cells #[.bool false, .slice none 0 0, .slice none 0 0] 60)
  have hn1 := norm_any A n c xs _ (HX.out.below ba) (by omega)
  rw [trim_eq_digs HX.out.w32, h0, digs_zero] at hn1
  have HN1 := Lib.hid hn1
  clear hn1
  go_enter Tryz.func139, Tryz.ntmps139
  go_wp2_with fail
  refine HN1.out.mono ?_
  rintro e w1 ⟨A1, n1, c1, rfl, hu1, hb1⟩
  obtain rfl : n1 = 0 := hu1.len.symm
  have hn2 := norm_any B m d ys w1 ((HY.out.below ba).below hb1) (by omega)
  have HN2 := Lib.hid hn2
  go_wp2_with fail
  refine HN2.out.mono ?_
  rintro e w2 ⟨A2, n2, c2, rfl, hu2, hb2⟩
  have hblk := ((Blk.new w 60 #[.bool false, .slice none 0 0, .slice none 0 0]).keep hb1).keep hb2
  have k0 := hblk.cell 0
  have k1 := hblk.cell 1
  have k2 := hblk.cell 2
  have f0 := hblk.frozen 0
  have f1 := hblk.frozen 1
  have f2 := hblk.frozen 2
  have hlt := hblk.lt
  have HB := Lib.hid (show Below w.heap.size w w2 from (ba.trans (hb1.mono (by simp))).trans (hb2.mono (by have := hb1.size; simp at this; omega)))
  clear hblk hb1 hb2 hu2 hu1 HN1 HN2 hn2 ba
  simp at k0 k1 k2
  go_wp2
  refine bodyPost_ret (v := .agg #[.bool false, .slice none 0 0, .slice (some ⟨w2.heap.size, 0, none⟩) 1 1]) (by simp [results, Tryz.results139, go_sem, hlt, k0, k1, k2]) rfl ?_
  refine ⟨false, .slice none 0 0, .slice (some ⟨w2.heap.size, 0, none⟩) 1 1, rfl, ⟨0, 1, none, 0, 0, _, 1, 1, rfl, rfl, ?_, ?_, by omega, fun _ => rfl, Nat.two_pow_pos _, ?_, (rv_zero _ _).symm⟩, ?_⟩
  · rw [digs_zero]; exact U32s.nil _ _ _
  · rw [digs_one]
    exact U32s.lit1_at (by simp) 124 (a := 1) (by omega)
  · exact Nat.one_lt_two_pow (by omega)
  · exact (below_set3 HB.out (Nat.le_refl _) _ _ _).alloc (by simpa using HB.out.size) _

theorem norm_v {v : Nat} (A : Option Addr) (n c : Nat) (xs : List Nat) (w : World) (h : U32s w A n c xs) (hs : n ≤ 34359738367) (ev : num xs = v) :
    Calls Tryz.prog 160 #[.slice A n c] w fun e w' => ∃ A1 n1 c1, e = .returned (.slice A1 n1 c1) ∧ U32s w' A1 n1 c1 (digs v) ∧ n1 ≤ n ∧ (0 < v → 0 < n1) ∧ Below w.heap.size w w' := by
  have h1 := norm_any A n c xs w h hs
  rw [trim_eq_digs h.w32, ev] at h1
  refine h1.mono ?_
  rintro e w' ⟨A1, n1, c1, rfl, hu, hb⟩
  have l := wlen_le xs
  have l2 : wlen xs = (digs v).length := by unfold wlen; rw [trim_eq_digs h.w32, ev]
  have l3 := hu.len
  refine ⟨A1, n1, c1, rfl, hu, by rw [h.len] at l; omega, fun hv => ?_, hb⟩
  rcases Nat.eq_zero_or_pos n1 with h0 | h0
  · have := digs_length_eq_zero.1 (show (digs v).length = 0 by omega)
    omega
  · exact h0
theorem zeros_v {v : Nat} (A : Option Addr) (n c : Nat) (w : World) (hx : U32s w A n c (digs v)) (h0 : 0 < v) :
    Calls Tryz.prog 199 #[.slice A n c] w fun e w' => (∃ k : Nat, e = .returned (.int .i64 (k : Int)) ∧ k ≤ 32 * n ∧ v % 2^k = 0) ∧ w = w' := by
  refine (zeros_any A n c _ w hx (by rw [num_digs]; omega)).mono ?_
  rintro e w' ⟨⟨k, rfl, h1, h2, _⟩, rfl⟩
  rw [num_digs] at h2
  exact ⟨⟨k, rfl, h1, h2⟩, rfl⟩
theorem right_v {v : Nat} (A : Option Addr) (n c k : Nat) (w : World) (hx : U32s w A n c (digs v)) (hs1 : n ≤ 1073741824) (hk : k ≤ 32 * n) :
    Calls Tryz.prog 200 #[.slice A n c, .int .i64 (k : Int)] w fun e w' => ∃ A1 n1 c1 t, e = .returned (.tuple #[.slice A1 n1 c1, .bool t]) ∧ U32s w' A1 n1 c1 (digs (v / 2^k)) ∧ n1 ≤ n ∧ Below w.heap.size w w' := by
  have h1 := right_any A n c k _ w hx (by omega) (by omega)
  rw [num_digs] at h1
  refine h1.mono ?_
  rintro e w' ⟨A1, n1, c1, rfl, hu, hb⟩
  refine ⟨A1, n1, c1, _, rfl, hu, ?_, hb⟩
  have l := hu.len
  have l2 : (digs (v / 2^k)).length ≤ n := digs_length_le (Nat.lt_of_le_of_lt (Nat.div_le_self _ _) (by have := num_lt hx.w32; rw [num_digs, hx.len] at this; exact this))
  omega
theorem left_v {v : Nat} (A : Option Addr) (n c k : Nat) (w : World) (hx : U32s w A n c (digs v)) (hs1 : n ≤ 1073741824) (hk : k ≤ 137438953472) :
    Calls Tryz.prog 201 #[.slice A n c, .int .i64 (k : Int)] w (NewU32 w (digs (v * 2^k))) := by
  have h1 := left_any A n c k _ w hx (by omega) hk
  rw [num_digs] at h1
  exact h1

theorem mul_one_pow (v : Nat) : v * 2^0 = v := by simp

set_option maxHeartbeats 3200000 in
theorem frac_pos (neg : Bool) (A B : Option Addr) (n c m d K a b : Nat) (xs ys : List Nat) (exp : Int) (w : World) (hx : U32s w A n c xs) (hy : U32s w B m d ys) (hs1 : n ≤ 1073741824) (hs2 : m ≤ 1073741824)
    (ea : num xs = a) (eb : num ys = b) (ha : 0 < a) (hb : 0 < b) (he1 : -1073741824 ≤ exp) (he2 : exp ≤ 1073741824)
    (hka : a * 2^exp.toNat < 2^(32 * K)) (hkb : b * 2^(-exp).toNat < 2^(32 * K)) :
    Calls Tryz.prog 139 #[.bool neg, .slice A n c, .slice B m d, .int .i64 exp] w (NewRat w K (rv neg a b * 2^exp)) := by
  have HX := Lib.hid hx
  have HY := Lib.hid hy
  have HKA := Lib.hid hka
  have HKB := Lib.hid hkb
  have ba := below_alloc w (.cells #[.bool false, .slice none 0 0, .slice none 0 0] 60)
  have hn1 := norm_v A n c xs _ (hx.below ba) (by omega) ea
  have HN1 := Lib.hid hn1
  have BA := Lib.hid ba
  clear hn1 hx hy hka hkb ba ea
  go_enter Tryz.func139, Tryz.ntmps139
  go_wp2_with fail
  refine HN1.out.mono ?_
  rintro e w1 ⟨A1, n1, c1, rfl, hu1, hn1, hp1, hb1⟩
  have hp1 := hp1 ha
  have HN2 := Lib.hid (norm_v B m d ys w1 ((HY.out.below BA.out).below hb1) (by omega) eb)
  have U1 := Lib.hid hu1
  have B1 := Lib.hid hb1
  clear hu1 hb1 HN1 eb
  go_wp2_with fail
  refine HN2.out.mono ?_
  rintro e w2 ⟨A2, n2, c2, rfl, hu2, hn2, hp2, hb2⟩
  have hp2 := hp2 hb
  have U2 := Lib.hid hu2
  have U1' := Lib.hid (U1.out.below hb2)
  have HZ1 := Lib.hid (zeros_v A1 n1 c1 w2 U1'.out ha)
  have B2 := Lib.hid hb2
  clear hu2 hb2 U1 HN2
  go_wp2_with fail
  refine HZ1.out.mono ?_
  rintro e w2' ⟨⟨ka, rfl, hka, hza⟩, rfl⟩
  have HR1 := Lib.hid (right_v A1 n1 c1 ka w2 U1'.out (by omega) hka)
  go_wp2_with fail
  refine HR1.out.mono ?_
  rintro e w3 ⟨A3, n3, c3, t3, rfl, hu3, hn3, hb3⟩
  have U3 := Lib.hid hu3
  have U2' := Lib.hid (U2.out.below hb3)
  have HZ2 := Lib.hid (zeros_v A2 n2 c2 w3 U2'.out hb)
  have B3 := Lib.hid hb3
  clear hu3 hb3 HR1 HZ1 U2 U1'
  go_wp2_with fail
  refine HZ2.out.mono ?_
  rintro e w3' ⟨⟨kb, rfl, hkb, hzb⟩, rfl⟩
  have HR2 := Lib.hid (right_v A2 n2 c2 kb w3 U2'.out (by omega) hkb)
  go_wp2_with fail
  refine HR2.out.mono ?_
  rintro e w4 ⟨A4, n4, c4, t4, rfl, hu4, hn4, hb4⟩
  have U4 := Lib.hid hu4
  have U3' := Lib.hid (U3.out.below hb4)
  have hblk := ((((Blk.new w 60 #[.bool false, .slice none 0 0, .slice none 0 0]).keep B1.out).keep B2.out).keep B3.out).keep hb4
  have HB := Lib.hid (show Below w.heap.size w w4 from (((BA.out.trans (B1.out.mono BA.out.size)).trans (B2.out.mono (by have := BA.out.size; have := B1.out.size; omega))).trans (B3.out.mono (by have := BA.out.size; have := B1.out.size; have := B2.out.size; omega))).trans (hb4.mono (by have := BA.out.size; have := B1.out.size; have := B2.out.size; have := B3.out.size; omega)))
  have HBLK := Lib.hid hblk
  clear hu4 hb4 HR2 HZ2 U3 B1 B2 B3 hblk U2'
  obtain ⟨ex, hex⟩ : ∃ ex, exp + ka - kb = ex := ⟨_, rfl⟩
  have F := Lib.hid (frac_value (neg := neg) (K := K) hex.symm hb hza hzb HKA.out HKB.out ha)
  have FIN0 : ∀ w5 A5 n5 c5 A6 n6 c6, U32s w5 A5 n5 c5 (digs (a / 2^ka * 2^ex.toNat)) → U32s w5 A6 n6 c6 (digs (b / 2^kb * 2^(-ex).toNat)) → Below w.heap.size w w5 → Blk w5 w.heap.size 60 #[.bool false, .slice none 0 0, .slice none 0 0] →
      NewRat w K (rv neg a b * 2^exp) (.returned (.agg #[.bool neg, .slice A5 n5 c5, .slice A6 n6 c6])) (((w5.setCell ⟨w.heap.size, 0, none⟩ (.bool neg)).setCell ⟨w.heap.size, 1, none⟩ (.slice A5 n5 c5)).setCell ⟨w.heap.size, 2, none⟩ (.slice A6 n6 c6)) := by
    intro w5 A5 n5 c5 A6 n6 c6 h5 h6 hb5 hk5
    obtain ⟨f1, f2, f3, f4, f5⟩ := F.out
    exact RatV.ret ⟨_, _, A5, n5, c5, A6, n6, c6, rfl, rfl, h5, h6, f2, by omega, f3, f4, f5⟩ hb5 hk5 NoWd.zero (Nat.le_refl _)
  obtain ⟨xl, hxl⟩ : ∃ xl : Nat, ex.toNat = xl := ⟨_, rfl⟩
  obtain ⟨xr, hxr⟩ : ∃ xr : Nat, (-ex).toNat = xr := ⟨_, rfl⟩
  rw [hxl, hxr] at FIN0
  have FIN := Lib.hid FIN0
  clear F FIN0
  by_cases e1 : 0 < ex
  · have ex1 : ex = (xl : Int) := by omega
    obtain rfl : xr = 0 := by omega
    have HL := Lib.hid (left_v A3 n3 c3 xl w4 U3'.out (by omega) (by omega))
    clear hxl hxr
    subst ex1
    go_wp2_with fail
    refine HL.out.mono ?_
    rintro e w5 ⟨A5, n5, c5, rfl, hu5, hb5⟩
    have hblk := HBLK.out.keep hb5
    have HB5 := HB.out.trans (hb5.mono HB.out.size)
    have k0 := hblk.cell 0
    have k1 := hblk.cell 1
    have k2 := hblk.cell 2
    have f0 := hblk.frozen 0
    have f1 := hblk.frozen 1
    have f2 := hblk.frozen 2
    have hlt := hblk.lt
    have FF := Lib.hid (FIN.out w5 A5 n5 c5 A4 n4 c4 hu5 (by rw [mul_one_pow]; exact U4.out.below hb5) HB5 hblk)
    clear hblk hb5 hu5 HB5
    simp at k0 k1 k2
    go_wp2
    exact bodyPost_ret (v := .agg #[.bool neg, .slice A5 n5 c5, .slice A4 n4 c4]) (by simp [results, Tryz.results139, go_sem, k0, k1, k2]) rfl FF.out
  · by_cases e2 : ex < 0
    · have ex1 : -ex = (xr : Int) := by omega
      obtain rfl : xl = 0 := by omega
      have HL := Lib.hid (left_v A4 n4 c4 xr w4 U4.out (by omega) (by omega))
      clear hxl hxr
      obtain rfl : ex = -(xr : Int) := by omega
      have nn : -(-(xr : Int)) = (xr : Int) := by omega
      go_wp2_with fail
      refine HL.out.mono ?_
      rintro e w5 ⟨A5, n5, c5, rfl, hu5, hb5⟩
      have hblk := HBLK.out.keep hb5
      have HB5 := HB.out.trans (hb5.mono HB.out.size)
      have k0 := hblk.cell 0
      have k1 := hblk.cell 1
      have k2 := hblk.cell 2
      have f0 := hblk.frozen 0
      have f1 := hblk.frozen 1
      have f2 := hblk.frozen 2
      have hlt := hblk.lt
      have FF := Lib.hid (FIN.out w5 A3 n3 c3 A5 n5 c5 (by rw [mul_one_pow]; exact U3'.out.below hb5) hu5 HB5 hblk)
      clear hblk hb5 hu5 HB5
      simp at k0 k1 k2
      go_wp2
      exact bodyPost_ret (v := .agg #[.bool neg, .slice A3 n3 c3, .slice A5 n5 c5]) (by simp [results, Tryz.results139, go_sem, k0, k1, k2]) rfl FF.out
    · obtain rfl : xl = 0 := by omega
      obtain rfl : xr = 0 := by omega
      have hblk := HBLK.out
      have k0 := hblk.cell 0
      have k1 := hblk.cell 1
      have k2 := hblk.cell 2
      have f0 := hblk.frozen 0
      have f1 := hblk.frozen 1
      have f2 := hblk.frozen 2
      have hlt := hblk.lt
      have FF := Lib.hid (FIN.out w4 A3 n3 c3 A4 n4 c4 (by rw [mul_one_pow]; exact U3'.out) (by rw [mul_one_pow]; exact U4.out) HB.out hblk)
      clear hblk
      simp at k0 k1 k2
      go_wp2
      exact bodyPost_ret (v := .agg #[.bool neg, .slice A3 n3 c3, .slice A4 n4 c4]) (by simp [results, Tryz.results139, go_sem, k0, k1, k2]) rfl FF.out

theorem frac_any (neg : Bool) (A B : Option Addr) (n c m d K a b : Nat) (xs ys : List Nat) (exp : Int) (w : World) (hx : U32s w A n c xs) (hy : U32s w B m d ys) (hs1 : n ≤ 1073741824) (hs2 : m ≤ 1073741824)
    (ea : num xs = a) (eb : num ys = b) (hb : 0 < b) (he1 : -1073741824 ≤ exp) (he2 : exp ≤ 1073741824)
    (hka : a * 2^exp.toNat < 2^(32 * K)) (hkb : b * 2^(-exp).toNat < 2^(32 * K)) (hK : 1 ≤ K) :
    Calls Tryz.prog 139 #[.bool neg, .slice A n c, .slice B m d, .int .i64 exp] w (NewRat w K (rv neg a b * 2^exp)) := by
  rcases Nat.eq_zero_or_pos a with h | h
  · subst h
    rw [rv_zero, Rat.zero_mul]
    exact frac_zero neg A B n c m d K xs ys exp w hx hy (by omega) (by omega) ea hK
  · exact frac_pos neg A B n c m d K a b xs ys exp w hx hy hs1 hs2 ea eb h hb he1 he2 hka hkb
/-- The same, of exponent nought. -/
theorem frac_plain (neg : Bool) (A B : Option Addr) (n c m d K a b : Nat) (w : World) (hx : U32s w A n c (digs a)) (hy : U32s w B m d (digs b)) (hb : 0 < b) (hka : a < 2^(32 * K)) (hkb : b < 2^(32 * K)) (hK : 1 ≤ K) (hK2 : K ≤ 1073741824) :
    Calls Tryz.prog 139 #[.bool neg, .slice A n c, .slice B m d, .int .i64 0] w (NewRat w K (rv neg a b)) := by
  have h := frac_any neg A B n c m d K a b _ _ 0 w hx hy (by have := hx.len_le hka; omega) (by have := hy.len_le hkb; omega) (num_digs _) (num_digs _) hb (by omega) (by omega) (by simpa using hka) (by simpa using hkb) hK
  rw [show (2 : Rat)^(0 : Int) = 1 from rfl, Rat.mul_one] at h
  exact h

end Go.Proofs.YtmjkmoahkanblaaGreat

namespace Go.Proofs.YtmjkmoahkanblaaGreat
open Go.RowKit

/-- The sign of a rational number. -/
def rsg (x : Rat) : Int := if x = 0 then 0 else if x < 0 then -1 else 1
theorem rv_pos {p q : Nat} (hp : 0 < p) (hq : 0 < q) : 0 < rv false p q := by
  unfold rv
  have h1 := cast_pos hp
  have h2 := cast_pos hq
  have h3 : (0 : Rat) < (q : Rat)⁻¹ := Rat.inv_pos.2 h2
  rw [Rat.div_def]
  exact Rat.mul_pos h1 h3
theorem rv_true (p q : Nat) : rv true p q = - rv false p q := by
  unfold rv
  simp only [Rat.div_def, if_true, Bool.false_eq_true, if_false]
  grind
theorem rsg_rv {neg : Bool} {p q : Nat} (hq : 0 < q) (h0 : p = 0 → neg = false) : rsg (rv neg p q) = if p = 0 then 0 else if neg then -1 else 1 := by
  rcases Nat.eq_zero_or_pos p with hp | hp
  · subst hp; rw [rv_zero]; simp [rsg]
  · have h1 := rv_pos hp hq
    have h2 := rv_true p q
    unfold rsg
    cases neg
    · rw [if_neg (by grind), if_neg (by grind), if_neg (by omega)]; rfl
    · rw [if_neg (by grind), if_pos (by grind), if_neg (by omega)]; rfl

set_option maxHeartbeats 1600000 in
theorem rsign_any (K : Nat) (neg : Bool) (vn vd : Value) (x : Rat) (w : World) (h : RatV w K neg vn vd x) (hK : K ≤ 1073741824) :
    Calls Tryz.prog 141 #[.agg #[.bool neg, vn, vd]] w fun e w' => e = .returned (.int .i64 (rsg x)) ∧ Below w.heap.size w w' := by
  obtain ⟨p, q, A, n, c, B, m, d, rfl, rfl, hu, -, hq, h0, hp, -, rfl⟩ := h
  rw [rsg_rv hq h0]
  obtain ⟨s, hs⟩ : ∃ s : Int, (if p = 0 then 0 else if neg then -1 else 1) = s := ⟨_, rfl⟩
  have hs0 : p = 0 → s = 0 := by intro h; rw [if_pos h] at hs; exact hs.symm
  have hs1 : p ≠ 0 → neg = true → s = -1 := by intro h h'; rw [if_neg h, if_pos h'] at hs; exact hs.symm
  have hs2 : p ≠ 0 → neg = false → s = 1 := by intro h h'; rw [if_neg h, h'] at hs; exact hs.symm
  rw [hs]
  clear hs
  have hn := hu.len_le hp
  have ba := below_alloc w (.cells #[.bool neg, .slice A n c, .slice B m d] 60)
  have HN := Lib.hid (norm_v A n c _ _ (hu.below ba) (by omega) (num_digs p))
  clear hp hu
  go_enter Tryz.func141, Tryz.ntmps141
  go_wp2_with fail
  refine HN.out.mono ?_
  rintro e w1 ⟨A1, n1, c1, rfl, hu1, hn1, hp1, hb1⟩
  have hblk := (Blk.new w 60 #[.bool neg, .slice A n c, .slice B m d]).keep hb1
  have k0 := hblk.cell 0
  have hlt := hblk.lt
  have hz : n1 = 0 ↔ p = 0 := by
    have := @digs_length_eq_zero p
    rw [hu1.len] at this; exact this
  have HB := Lib.hid (ba.trans (hb1.mono ba.size))
  clear hblk hb1 hu1 hp1 HN ba
  simp at k0
  go_wp2
  · obtain rfl : p = 0 := by simp at *; omega
    go_ret
    exact ⟨ret_int (hs0 rfl).symm, HB.out⟩
  · have hp0 : p ≠ 0 := by simp at *; omega
    go_ret
    exact ⟨ret_int (hs1 hp0 (by assumption)).symm, HB.out⟩
  · have hp0 : p ≠ 0 := by simp at *; omega
    go_ret
    exact ⟨ret_int (hs2 hp0 (by assumption)).symm, HB.out⟩

end Go.Proofs.YtmjkmoahkanblaaGreat

namespace Go.Proofs.YtmjkmoahkanblaaGreat
open Go.RowKit

set_option maxHeartbeats 800000 in
theorem small_any (v : Nat) (w : World) (hv : v < 18446744073709551616) :
    Calls Tryz.prog 140 #[.int .u64 (v : Int)] w (NewU32 w (digs v)) := by
  have e1 := mask32_u64 hv
  go_enter Tryz.func140, Tryz.ntmps140
  go_wp2_with fail
  rw [show (v : Int) % 4294967296 = ((v % 4294967296 : Nat) : Int) from by omega, show (v : Int) / 4294967296 = ((v / 4294967296 : Nat) : Int) from by omega]
  have h2 := U32s.lit2 w 124 (a := v % 4294967296) (b := v / 4294967296) (by omega) (by omega)
  refine (norm_any _ 2 2 _ _ h2 (by omega)).mono ?_
  rintro e w' ⟨A, n, c, rfl, hu, hb⟩
  have e2 : trim [v % 4294967296, v / 4294967296] = digs v := by
    rw [trim_eq_digs h2.w32]; congr 1; simp [num]; omega
  have H := Lib.hid (show NewU32 w (digs v) (.returned (.slice A n c)) w' from NewU32.trans ⟨A, n, c, rfl, by rw [← e2]; exact hu, hb⟩ (below_alloc _ _))
  clear hu hb e2 e1 h2
  go_wp2
  go_ret
  exact H.out

end Go.Proofs.YtmjkmoahkanblaaGreat

namespace Go.Proofs.YtmjkmoahkanblaaGreat
open Go.RowKit

/-- The number at an index. -/
def fl (i : Int) : Rat := (val i : Rat) * 2^(-1074 : Int)

theorem rv_one (neg : Bool) (s k : Nat) : rv neg s 1 * 2^((k : Int) - 1074) = ((if neg then -((s * 2^k : Nat) : Int) else ((s * 2^k : Nat) : Int) : Int) : Rat) * 2^(-1074 : Int) := by
  rw [show ((k : Int) - 1074) = (k : Int) + (-1074) from by omega, zpow_add, zpow_nat]
  unfold rv
  have h1 : ((1 : Nat) : Rat) = 1 := rfl
  have h2 : ∀ x : Rat, x / ((1 : Nat) : Rat) = x := fun x => div_eq (by rw [h1]; decide) (by rw [h1, Rat.mul_one])
  rw [h2]
  cases neg
  · simp only [Bool.false_eq_true, if_false]
    rw [Rat.intCast_natCast, Rat.natCast_mul]; grind
  · simp only [if_true]
    rw [Rat.intCast_neg, Rat.intCast_natCast, Rat.natCast_mul]; grind

theorem fl_parts {b e f : Nat} {neg : Bool} (hf : fin b) (he : b / 4503599627370496 % 2048 = e) (hff : b % 4503599627370496 = f) (hn : sgn b = neg) :
    e < 2047 ∧ f < 4503599627370496 ∧ (0 < e → fl (idx b) = rv neg (f + 4503599627370496) 1 * 2^((e : Int) - 1 - 1074)) ∧ (e = 0 → fl (idx b) = rv neg f 1 * 2^((e : Int) - 1074)) := by
  unfold fin rungOf M at hf
  have e1 : b % 2^63 / 2^52 = e := by omega
  have e2 : b % 2^63 % 2^52 = f := by omega
  refine ⟨by omega, by omega, fun h => ?_, fun h => ?_⟩
  · rw [show (e : Int) - 1 - 1074 = ((e - 1 : Nat) : Int) - 1074 from by omega, rv_one]
    unfold fl
    have e0 : (2 : Nat)^52 = 4503599627370496 := rfl
    have e3 : mag (b % 2^63) = (f + 4503599627370496) * 2^(e - 1) := by
      unfold mag
      rw [if_neg (show ¬ b % 2^63 < 2^52 from by omega), e1, e2, e0, Nat.add_comm 4503599627370496 f]
    rw [val_idx, hn]
    unfold rungOf
    rw [e3]
  · subst h
    rw [show ((0 : Nat) : Int) - 1074 = ((0 : Nat) : Int) - 1074 from rfl, rv_one]
    unfold fl
    rw [val_idx, hn]
    unfold rungOf
    rw [mag_small (by omega), show b % 2^63 = f from by omega, Nat.pow_zero, Nat.mul_one]

/-- A ratio that a call answers, laid into the result's block. -/
theorem NewRat.lay {w W w1 : World} {K g : Nat} {t : TypeId} {cs : Array Value} {neg : Bool} {vn vd : Value} {x : Rat} (h : RatV w1 K neg vn vd x) (hb : Below w.heap.size w W) (hb1 : Below W.heap.size W w1) (hk : Blk W g t cs) (hc : NoWd cs) (hg : w.heap.size ≤ g) :
    NewRat w K x (.returned (.agg #[.bool neg, vn, vd])) (((w1.setCell ⟨g, 0, none⟩ (.bool neg)).setCell ⟨g, 1, none⟩ vn).setCell ⟨g, 2, none⟩ vd) :=
  h.ret (hb.trans (hb1.mono hb.size)) (hk.keep hb1) hc hg

theorem pow_34 {f K : Nat} (hK : K = 34) (hf : f < 2^53) {x : Int} (hx : x ≤ 971) : f * 2^x.toNat < 2^(32 * K) := by
  obtain ⟨k, hk⟩ : ∃ k, x.toNat = k := ⟨_, rfl⟩
  rw [hk]
  have h1 : f * 2^k < 2^53 * 2^k := Nat.mul_lt_mul_of_pos_right hf (Nat.two_pow_pos k)
  rw [← Nat.pow_add] at h1
  exact Nat.lt_of_lt_of_le h1 (Nat.pow_le_pow_right (by omega) (by omega))
theorem pow_34' {x : Int} {K : Nat} (hK : K = 34) (hx : -1074 ≤ x) : 1 * 2^(-x).toNat < 2^(32 * K) := by
  rw [Nat.one_mul]
  exact Nat.pow_lt_pow_right (by omega) (by omega)

set_option maxHeartbeats 3200000 in
theorem frombits_K (K b : Nat) (w : World) (hK : K = 34) (hb : b < 18446744073709551616) (hf : fin b) :
    Calls Tryz.prog 70 #[.int .u64 (b : Int)] w (NewRat w K (fl (idx b))) := by
  obtain ⟨e, he⟩ : ∃ e, b / 4503599627370496 % 2048 = e := ⟨_, rfl⟩
  obtain ⟨f, hff⟩ : ∃ f, b % 4503599627370496 = f := ⟨_, rfl⟩
  obtain ⟨neg, hn⟩ : ∃ neg, sgn b = neg := ⟨_, rfl⟩
  obtain ⟨he1, hf1, v1, v2⟩ := fl_parts hf he hff hn
  have m1 := mask11_u64 (x := b / 4503599627370496) (by omega)
  rw [he, show ((b / 4503599627370496 : Nat) : Int) = (b : Int) / 4503599627370496 from by omega] at m1
  have m2 := mask52_u64 (x := b) hb
  rw [hff] at m2
  have m3 : ((b : Int) / 9223372036854775808 == 1) = neg := by
    rw [← hn]; unfold sgn
    have : b / 2^63 % 2 = b / 9223372036854775808 := by omega
    rw [this]
    rcases Nat.eq_zero_or_pos (b / 9223372036854775808) with h | h
    · rw [h, show (b : Int) / 9223372036854775808 = 0 from by omega]; rfl
    · rw [show b / 9223372036854775808 = 1 from by omega, show (b : Int) / 9223372036854775808 = 1 from by omega]; rfl
  obtain ⟨x, hx⟩ : ∃ x, fl (idx b) = x := ⟨_, rfl⟩
  rw [hx] at v1 v2 ⊢
  have HK34 := Lib.hid hK
  have V1 := Lib.hid v1
  have V2 := Lib.hid v2
  have M1 := Lib.hid m1
  have M2 := Lib.hid m2
  have M3 := Lib.hid m3
  have ba := below_alloc w (.cells #[.bool false, .slice none 0 0, .slice none 0 0] 60)
  have BA := Lib.hid ba
  have BLK := Lib.hid (Blk.new w 60 #[.bool false, .slice none 0 0, .slice none 0 0])
  clear v1 v2 hx hn hff he hf ba m1 m2 m3 hK
  rcases Nat.eq_zero_or_pos e with h0 | h0
  · have hs := small_any (f) (w.alloc (.cells #[.bool false, .slice none 0 0, .slice none 0 0] 60)) (by omega)
    have HS := Lib.hid hs
    clear hs
    have m1 := M1.out
    have m2 := M2.out
    have m3 := M3.out
    have hei : (e : Int) ≤ 0 := by omega
    have H0 := Lib.hid h0
    clear h0
    go_enter Tryz.func70, Tryz.ntmps70
    go_wp2_with fail
    refine HS.out.mono ?_
    rintro e1 w1 ⟨A, n, c, rfl, hu1, hb1⟩
    have hn2 : n ≤ 2 := hu1.len_le (k := 2) (Nat.lt_of_lt_of_le (show f < 2^53 from by omega) (by decide))
    have hW : Below w.heap.size w (w1.alloc (.cells #[wd 1] 124)) := (BA.out.trans (hb1.mono BA.out.size)).alloc (by have := BA.out.size; have := hb1.size; omega) _
    have hKK := (BLK.out.keep hb1).alloc (.cells #[wd 1] 124)
    have HF := Lib.hid (frac_any neg A (some ⟨w1.heap.size, 0, none⟩) n c 1 1 K (f) 1 _ [1] ((e : Int) - 1074) (w1.alloc (.cells #[wd 1] 124)) (hu1.alloc _) (U32s.lit1 w1 124 (a := 1) (by omega)) (by omega) (by omega) (num_digs _) (by decide) (by omega) (by omega) (by omega)
      (pow_34 HK34.out (by omega) (by omega)) (pow_34' HK34.out (by omega)) (by have := HK34.out; omega))
    have HW := Lib.hid hW
    have HK := Lib.hid hKK
    clear hu1 hb1 hW hKK HS
    have m1 := M1.out
    have m3 := M3.out
    go_wp2_with fail
    refine HF.out.mono ?_
    rintro e2 w2 ⟨neg2, vn, vd, rfl, hr, hb2⟩
    rw [← V2.out H0.out] at hr
    obtain ⟨A5, n5, c5, A6, n6, c6, rfl, rfl⟩ := hr.shape
    have hblk := HK.out.keep hb2
    have k0 := hblk.cell 0
    have k1 := hblk.cell 1
    have k2 := hblk.cell 2
    have f0 := hblk.frozen 0
    have f1 := hblk.frozen 1
    have f2 := hblk.frozen 2
    have hlt := hblk.lt
    have FF := Lib.hid (NewRat.lay hr HW.out hb2 HK.out NoWd.zero (Nat.le_refl _))
    clear hblk hb2 hr HF
    simp at k0 k1 k2
    go_wp2
    refine bodyPost_ret (v := .agg #[.bool neg2, .slice A5 n5 c5, .slice A6 n6 c6]) (by simp [results, Tryz.results70, go_sem, k0, k1, k2]) rfl ?_
    exact FF.out
  · have hs := small_any (f + 4503599627370496) (w.alloc (.cells #[.bool false, .slice none 0 0, .slice none 0 0] 60)) (by omega)
    rw [show ((f + 4503599627370496 : Nat) : Int) = (f : Int) + 4503599627370496 from by omega] at hs
    have HS := Lib.hid hs
    clear hs
    have m1 := M1.out
    have m2 := M2.out
    have m3 := M3.out
    have hei : (0 : Int) < (e : Int) := by omega
    go_enter Tryz.func70, Tryz.ntmps70
    go_wp2_with fail
    refine HS.out.mono ?_
    rintro e1 w1 ⟨A, n, c, rfl, hu1, hb1⟩
    have hn2 : n ≤ 2 := hu1.len_le (k := 2) (Nat.lt_of_lt_of_le (show f + 4503599627370496 < 2^53 from by omega) (by decide))
    have hW : Below w.heap.size w (w1.alloc (.cells #[wd 1] 124)) := (BA.out.trans (hb1.mono BA.out.size)).alloc (by have := BA.out.size; have := hb1.size; omega) _
    have hKK := (BLK.out.keep hb1).alloc (.cells #[wd 1] 124)
    have HF := Lib.hid (frac_any neg A (some ⟨w1.heap.size, 0, none⟩) n c 1 1 K (f + 4503599627370496) 1 _ [1] ((e : Int) - 1 - 1074) (w1.alloc (.cells #[wd 1] 124)) (hu1.alloc _) (U32s.lit1 w1 124 (a := 1) (by omega)) (by omega) (by omega) (num_digs _) (by decide) (by omega) (by omega) (by omega)
      (pow_34 HK34.out (by omega) (by omega)) (pow_34' HK34.out (by omega)) (by have := HK34.out; omega))
    have HW := Lib.hid hW
    have HK := Lib.hid hKK
    clear hu1 hb1 hW hKK HS
    have m1 := M1.out
    have m3 := M3.out
    go_wp2_with fail
    refine HF.out.mono ?_
    rintro e2 w2 ⟨neg2, vn, vd, rfl, hr, hb2⟩
    rw [← V1.out h0] at hr
    obtain ⟨A5, n5, c5, A6, n6, c6, rfl, rfl⟩ := hr.shape
    have hblk := HK.out.keep hb2
    have k0 := hblk.cell 0
    have k1 := hblk.cell 1
    have k2 := hblk.cell 2
    have f0 := hblk.frozen 0
    have f1 := hblk.frozen 1
    have f2 := hblk.frozen 2
    have hlt := hblk.lt
    have FF := Lib.hid (NewRat.lay hr HW.out hb2 HK.out NoWd.zero (Nat.le_refl _))
    clear hblk hb2 hr HF
    simp at k0 k1 k2
    go_wp2
    refine bodyPost_ret (v := .agg #[.bool neg2, .slice A5 n5 c5, .slice A6 n6 c6]) (by simp [results, Tryz.results70, go_sem, k0, k1, k2]) rfl ?_
    exact FF.out

theorem frombits_any (b : Nat) (w : World) (hb : b < 18446744073709551616) (hf : fin b) :
    Calls Tryz.prog 70 #[.int .u64 (b : Int)] w (NewRat w 34 (fl (idx b))) := frombits_K 34 b w rfl hb hf

end Go.Proofs.YtmjkmoahkanblaaGreat

namespace Go.Proofs.YtmjkmoahkanblaaGreat
open Go.RowKit

theorem rv_nat (v : Nat) : rv false v 1 = (v : Rat) := by
  unfold rv
  exact div_eq (by decide) (by show (v : Rat) = v * 1; rw [Rat.mul_one])

set_option maxHeartbeats 3200000 in
theorem int_K (K v : Nat) (w : World) (hK : K = 1) (hv : v < 4294967296) :
    Calls Tryz.prog 149 #[.int .i64 (v : Int)] w (NewRat w K (rv false v 1)) := by
  have hvk : v < 2^(32 * K) := by subst hK; exact hv
  have h1k : 1 < 2^(32 * K) := by subst hK; decide
  have ba := below_alloc w (.cells #[.bool false, .slice none 0 0, .slice none 0 0] 60)
  have BA := Lib.hid ba
  have BLK := Lib.hid (Blk.new w 60 #[.bool false, .slice none 0 0, .slice none 0 0])
  have HS := Lib.hid (small_any v (w.alloc (.cells #[.bool false, .slice none 0 0, .slice none 0 0] 60)) (by omega))
  have HV := Lib.hid hvk
  have H1 := Lib.hid h1k
  have HK34 := Lib.hid hK
  have hv0 : (0 : Int) ≤ (v : Int) := by omega
  clear ba hvk h1k hK
  go_enter Tryz.func149, Tryz.ntmps149
  go_wp2_with fail
  refine HS.out.mono ?_
  rintro e1 w1 ⟨A, n, c, rfl, hu1, hb1⟩
  have hW : Below w.heap.size w (w1.alloc (.cells #[wd 1] 124)) := (BA.out.trans (hb1.mono BA.out.size)).alloc (by have := BA.out.size; have := hb1.size; omega) _
  have hKK := (BLK.out.keep hb1).alloc (.cells #[wd 1] 124)
  have HF := Lib.hid (frac_plain false A (some ⟨w1.heap.size, 0, none⟩) n c 1 1 K v 1 (w1.alloc (.cells #[wd 1] 124)) (hu1.alloc _) (by rw [digs_one]; exact U32s.lit1 w1 124 (a := 1) (by omega)) (by omega) HV.out H1.out (by have := HK34.out; omega) (by have := HK34.out; omega))
  have HW := Lib.hid hW
  have HK := Lib.hid hKK
  clear hu1 hb1 hW hKK HS
  go_wp2_with fail
  refine HF.out.mono ?_
  rintro e2 w2 ⟨neg2, vn, vd, rfl, hr, hb2⟩
  obtain ⟨A5, n5, c5, A6, n6, c6, rfl, rfl⟩ := hr.shape
  have hblk := HK.out.keep hb2
  have k0 := hblk.cell 0
  have k1 := hblk.cell 1
  have k2 := hblk.cell 2
  have f0 := hblk.frozen 0
  have f1 := hblk.frozen 1
  have f2 := hblk.frozen 2
  have hlt := hblk.lt
  have FF := Lib.hid (NewRat.lay hr HW.out hb2 HK.out NoWd.zero (Nat.le_refl _))
  clear hblk hb2 hr HF
  simp at k0 k1 k2
  go_wp2
  refine bodyPost_ret (v := .agg #[.bool neg2, .slice A5 n5 c5, .slice A6 n6 c6]) (by simp [results, Tryz.results149, go_sem, k0, k1, k2]) rfl ?_
  exact FF.out

theorem int_nat (v : Nat) (w : World) (hv : v < 4294967296) :
    Calls Tryz.prog 149 #[.int .i64 (v : Int)] w (NewRat w 1 (v : Rat)) := by
  have h := int_K 1 v w rfl hv
  rw [rv_nat] at h
  exact h

end Go.Proofs.YtmjkmoahkanblaaGreat
