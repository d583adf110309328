/-
Walks: package vergeref2, RCmp.
Walks: package vergeref6, ends.
Walks: package vergeref6, ends held against each other.
-/
import Derived.Test.YthaojemejpbbgaaM04
import Derived.Test.YthaojemejpbbgaaM06
import Derived.Test.YthaojemejpbbgaaM03
set_option linter.unusedSimpArgs false
set_option linter.unusedVariables false

namespace Go.Proofs.Ythaojemejpbbgaa
open Go.RowKit

theorem heldc {w W W' : World} {a0 a1 a2 b1 b2 : Addr} {v0 v1 v2 u1 u2 : Value} (h : W.cell? a0 = some v0 ∧ W.cell? a1 = some v1 ∧ W.cell? a2 = some v2 ∧ W.cell? b1 = some u1 ∧ W.cell? b2 = some u2 ∧ Below w.heap.size w W) (hb : Below W.heap.size W W') :
    W'.cell? a0 = some v0 ∧ W'.cell? a1 = some v1 ∧ W'.cell? a2 = some v2 ∧ W'.cell? b1 = some u1 ∧ W'.cell? b2 = some u2 ∧ Below w.heap.size w W' := by
  obtain ⟨h0, h1, h2, h3, h4, h5⟩ := h
  exact ⟨cell_below h0 hb, cell_below h1 hb, cell_below h2 hb, cell_below h3 hb, cell_below h4 hb, h5.trans (hb.mono h5.size)⟩

set_option maxHeartbeats 3200000 in
theorem rcmp_any (K : Nat) (neg : Bool) (vn vd : Value) (x : Rat) (neg' : Bool) (vn' vd' : Value) (y : Rat) (w : World) (h : RatV w K neg vn vd x) (h' : RatV w K neg' vn' vd' y) (hK : K ≤ 1073741824) :
    Calls Try.prog 30 #[.agg #[.bool neg, vn, vd], .agg #[.bool neg', vn', vd']] w fun e w' => e = .returned (.int .i64 (rc x y)) ∧ Below w.heap.size w w' := by
  obtain ⟨A, n, c, B, m, d, rfl, rfl⟩ := h.shape
  obtain ⟨A', n', c', B', m', d', rfl, rfl⟩ := h'.shape
  have H := Lib.hid h
  have H' := Lib.hid h'
  have ba : Below w.heap.size w ((w.alloc (.cells #[.bool neg, .slice A n c, .slice B m d] 44)).alloc (.cells #[.bool neg', .slice A' n' c', .slice B' m' d'] 44)) := (below_alloc w _).alloc (by simp) _
  have h1 := Lib.hid (rsign_any K neg _ _ x _ (h.below ba) hK)
  have BA := Lib.hid ba
  clear h h' ba
  go_enter Try.func30, Try.ntmps30
  go_wp2_with fail
  refine h1.out.mono ?_
  rintro e w1 ⟨rfl, hb1⟩
  have B1 := Lib.hid (BA.out.trans (hb1.mono BA.out.size))
  have K1 := Lib.hid (((Blk.new w 44 #[.bool neg, .slice A n c, .slice B m d]).alloc (.cells #[.bool neg', .slice A' n' c', .slice B' m' d'] 44)).keep hb1)
  have K2 := Lib.hid ((Blk.new2 w (.cells #[.bool neg, .slice A n c, .slice B m d] 44) 44 #[.bool neg', .slice A' n' c', .slice B' m' d']).keep hb1)
  have k0 := K2.out.cell 0
  have k1 := K2.out.cell 1
  have k2 := K2.out.cell 2
  have h2 := Lib.hid (rsign_any K neg' _ _ y _ (H'.out.below B1.out) hK)
  clear hb1 h1
  simp at k0 k1 k2
  go_wp2_with fail
  refine h2.out.mono ?_
  rintro e w2 ⟨rfl, hb2⟩
  have B2 := Lib.hid (B1.out.trans (hb2.mono B1.out.size))
  have Q1 := Lib.hid (K1.out.keep hb2)
  have Q2 := Lib.hid (K2.out.keep hb2)
  clear hb2 k0 k1 k2 K1 K2 h2 B1 BA
  obtain ⟨s, hs⟩ : ∃ s, rsg x = s := ⟨_, rfl⟩
  obtain ⟨t, ht⟩ : ∃ t, rsg y = t := ⟨_, rfl⟩
  have HS := Lib.hid hs
  have HT := Lib.hid ht
  rw [hs, ht]
  clear hs ht
  rcases Int.lt_trichotomy s t with h0 | h0 | h0
  · go_wp2
    go_ret
    exact ⟨ret_int (by rw [rc_below (by rw [HS.out, HT.out]; exact h0)]), B2.out⟩
  · subst h0
    obtain ⟨p, q, A1, n1, c1, D1, m1, d1, e1, e2, hu, hv, hq, hp0, hp, hq2, rfl⟩ := H.out
    obtain ⟨p', q', A2, n2, c2, D2, m2, d2, e3, e4, hu', hv', hq', hp0', hp', hq2', rfl⟩ := H'.out
    cases e1; cases e2; cases e3; cases e4
    have l1 := hu.len_le hp
    have l2 := hv.len_le hq2
    have l3 := hu'.len_le hp'
    have l4 := hv'.len_le hq2'
    have HTm : ∀ (W : World) (A B : Option Addr) (n c m d a b : Nat), Below w.heap.size w W → U32s w A n c (digs a) → U32s w B m d (digs b) → n ≤ K → m ≤ K → Calls Try.prog 45 #[.slice A n c, .slice B m d] W fun e w' => ∃ A1 n1 c1, e = .returned (.slice A1 n1 c1) ∧ U32s w' A1 n1 c1 (digs (a * b)) ∧ Below W.heap.size W w' ∧ Below w.heap.size w w' := fun W A B n c m d a b hW h1 h2 h3 h4 =>
      (times_any A B n c m d _ _ W (h1.below hW) (h2.below hW) (by omega) (by omega)).mono (by
        rintro e w' ⟨A1, n1, c1, h5, h6, h7⟩
        rw [num_digs, num_digs] at h6
        exact ⟨A1, n1, c1, h5, h6, h7, hW.trans (h7.mono hW.size)⟩)
    have HCm : ∀ (W : World) (A B : Option Addr) (n c m d a b : Nat), Below w.heap.size w W → U32s W A n c (digs a) → U32s W B m d (digs b) → Calls Try.prog 44 #[.slice A n c, .slice B m d] W fun e w' => e = .returned (.int .i64 (cmp3 a b)) ∧ Below W.heap.size W w' ∧ Below w.heap.size w w' := fun W A B n c m d a b hW h1 h2 =>
      (cmp_any A B n c m d _ _ W h1 h2).mono (by
        rintro e w' ⟨h5, k, rfl⟩
        rw [num_digs, num_digs] at h5
        exact ⟨h5, below_drewN (Below.refl _ _) k, below_drewN hW k⟩)
    have R := Lib.hid (rc_same hq hq' hp0 hp0' (by rw [HS.out, HT.out]))
    have HU := Lib.hid hu
    have HV := Lib.hid hv
    have HU' := Lib.hid hu'
    have HV' := Lib.hid hv'
    have HTm := Lib.hid HTm
    have HCm := Lib.hid HCm
    have k0 := Q1.out.cell 0
    have k1 := Q1.out.cell 1
    have k2 := Q1.out.cell 2
    have j1 := Q2.out.cell 1
    have j2 := Q2.out.cell 2
    have b2 := B2.out
    simp at k0 k1 k2 j1 j2
    clear hu hv hu' hv' hp hq2 hp' hq2' hp0 hp0' H H' hq hq' Q1 Q2
    go_wp2_with fail
    go_region_held3 (fun w' => w'.cell? ⟨w.heap.size, 0, none⟩ = some (.bool neg) ∧ w'.cell? ⟨w.heap.size, 1, none⟩ = some (.slice A n c) ∧ w'.cell? ⟨w.heap.size, 2, none⟩ = some (.slice B m d) ∧ w'.cell? ⟨w.heap.size + 1, 1, none⟩ = some (.slice A' n' c') ∧ w'.cell? ⟨w.heap.size + 1, 2, none⟩ = some (.slice B' m' d') ∧ Below w.heap.size w w')
      (first | (exact heldc (by assumption) hb1) | (exact ⟨k0, k1, k2, j1, j2, b2.drew⟩))
      (first | (go_at_call 45; refine (HTm.out _ _ _ _ _ _ _ ?_ ?_ ?_ ?_ ?_ ?_ ?_).mono ?_; rotate_left; rotate_left; (first | exact B2.out.drew | assumption); (first | exact HU.out | exact HU'.out); (first | exact HV.out | exact HV'.out); (assumption); (assumption); rintro e w1 ⟨A1, n1, c1, rfl, hu1, hb1, hbw⟩) | (go_at_call 44; refine (HCm.out _ _ _ _ _ _ _ ?_ ?_ ?_ ?_ ?_).mono ?_; rotate_left; rotate_left; (assumption); (exact U32s.below (by assumption) hb1); (assumption); rintro e w1 ⟨rfl, hb1, hbw⟩))
    rename_i hHeld
    have kk := hHeld.1
    have BW := Lib.hid hbw
    have hc := cmp3_range (p * q') (p' * q)
    obtain ⟨r, hr⟩ : ∃ r, rc (rv neg p q) (rv neg' p' q') = r := ⟨_, rfl⟩
    have R := R.out
    rw [hr, HS.out] at R
    obtain ⟨c, hcc⟩ : ∃ c, cmp3 (p * q') (p' * q) = c := ⟨_, rfl⟩
    rw [hcc] at R hc ⊢
    have Hr := Lib.hid hr
    have r0 : s = 0 → r = 0 := by intro h; rw [if_pos h] at R; exact R
    have r1 : s ≠ 0 → neg = true → r = -c := by intro h h2; rw [if_neg h, if_pos h2] at R; exact R
    have r2 : s ≠ 0 → neg = false → r = c := by intro h h2; rw [if_neg h, h2] at R; exact R
    have R0 := Lib.hid r0
    have R1 := Lib.hid r1
    have R2 := Lib.hid r2
    clear R r0 r1 r2 hr hcc hHeld hbw hb1 hu1 HS HT HCm HTm HU HV HU' HV' k0 k1 k2 j1 j2 b2
    rcases Int.lt_trichotomy s 0 with hs | hs | hs
    · have hs1 : (s == 0) = false := by simp; omega
      cases neg
      · go_wp2
        go_ret
        exact ⟨ret_int (Hr.out.trans (R2.out (by omega) (by simp))).symm, BW.out⟩
      · go_wp2
        go_ret
        exact ⟨ret_int (Hr.out.trans (R1.out (by omega) (by simp))).symm, BW.out⟩
    · subst hs
      cases neg
      · go_wp2
        go_ret
        exact ⟨ret_int (Hr.out.trans (R0.out (by simp))).symm, BW.out⟩
      · go_wp2
        go_ret
        exact ⟨ret_int (Hr.out.trans (R0.out (by simp))).symm, BW.out⟩
    · have hs1 : (s == 0) = false := by simp; omega
      cases neg
      · go_wp2
        go_ret
        exact ⟨ret_int (Hr.out.trans (R2.out (by omega) (by simp))).symm, BW.out⟩
      · go_wp2
        go_ret
        exact ⟨ret_int (Hr.out.trans (R1.out (by omega) (by simp))).symm, BW.out⟩
  · have h0' : ¬ s < t := by omega
    go_wp2
    go_ret
    exact ⟨ret_int (by rw [rc_above (by rw [HS.out, HT.out]; exact h0)]), B2.out⟩

end Go.Proofs.Ythaojemejpbbgaa

namespace Go.Proofs.Ythaojemejpbbgaa
open Go.RowKit

/-- An end that a call answers. -/
def NewEnd (w : World) (K : Nat) (s : Int) (x : Rat) (e : Ending) (w' : World) : Prop :=
  ∃ neg A n c B m d, e = .returned (.agg #[.int .i64 s, .bool neg, .slice A n c, .slice B m d]) ∧ RatV w' K neg (.slice A n c) (.slice B m d) x ∧ Below w.heap.size w w'
/-- A set that a call answers. -/
def NewSet (w : World) (K : Nat) (o : Bool) (s : Int) (x : Rat) (t : Int) (y : Rat) (e : Ending) (w' : World) : Prop :=
  ∃ neg A n c B m d neg' A' n' c' B' m' d', e = .returned (.agg #[.bool o, .int .i64 s, .bool neg, .slice A n c, .slice B m d, .int .i64 t, .bool neg', .slice A' n' c', .slice B' m' d']) ∧
    RatV w' K neg (.slice A n c) (.slice B m d) x ∧ RatV w' K neg' (.slice A' n' c') (.slice B' m' d') y ∧ Below w.heap.size w w'
/-- A ratio that a call answers, its parts written out. -/
def NewRatS (w : World) (K : Nat) (x : Rat) (e : Ending) (w' : World) : Prop :=
  ∃ neg A n c B m d, e = .returned (.agg #[.bool neg, .slice A n c, .slice B m d]) ∧ RatV w' K neg (.slice A n c) (.slice B m d) x ∧ Below w.heap.size w w'
theorem NewRat.s {w w' : World} {K : Nat} {x : Rat} {e : Ending} (h : NewRat w K x e w') : NewRatS w K x e w' := by
  obtain ⟨neg, vn, vd, rfl, hr, hb⟩ := h
  obtain ⟨A, n, c, B, m, d, rfl, rfl⟩ := hr.shape
  exact ⟨neg, A, n, c, B, m, d, rfl, hr, hb⟩
/-- The end of an index. -/
def es (i : Int) : Int := if i = M then 1 else if i = -(M : Int) then -1 else 0
def ex (i : Int) : Rat := if es i = 0 then fl i else 0
theorem es_max : es M = 1 := rfl
theorem es_min : es (-(M : Int)) = -1 := by decide
theorem ex_max : ex M = 0 := rfl
theorem ex_min : ex (-(M : Int)) = 0 := by unfold ex; rw [es_min]; rfl
theorem es_mid {i : Int} (h : -(M : Int) < i) (h' : i < M) : es i = 0 := by unfold es; rw [if_neg (by omega), if_neg (by omega)]
theorem ex_mid {i : Int} (h : -(M : Int) < i) (h' : i < M) : ex i = fl i := by unfold ex; rw [es_mid h h']; rfl
set_option maxHeartbeats 1600000 in
theorem finite_nat (v : Nat) (w : World) (hv : v < 4294967296) :
    Calls Try.prog 28 #[.int .i64 (v : Int)] w (NewEnd w 1 0 (v : Rat)) := by
  have hs : ∀ W, Calls Try.prog 32 #[.int .i64 (v : Int)] W (NewRatS W 1 (v : Rat)) := fun W => (int_nat v W hv).mono fun _ _ h => h.s
  have HS := Lib.hid hs
  clear hs
  have LB0 := Lib.hid (show Below w.heap.size w (w.alloc (.cells #[.int .i64 0, .bool false, .slice none 0 0, .slice none 0 0] 46)) from (below_alloc w _))
  have LR0 := Lib.hid (HasBlk.of (n := 4) (Blk.at (W := w) (g := w.heap.size) (by simp <;> omega) 46 #[.int .i64 0, .bool false, .slice none 0 0, .slice none 0 0]) rfl rfl)
  go_enter Try.func28, Try.ntmps28
  go_wp2_with fail
  refine (HS.out _).mono ?_
  rintro e w1 ⟨neg, A5, n5, c5, A6, n6, c6, rfl, hr, hb1⟩
  have LB1 := Lib.hid (LB0.out.trans (hb1.mono LB0.out.size))
  have LR1 := Lib.hid (LR0.out.keep hb1)
  clear LB0 LR0
  have ha0 := LR1.out.someCell 0 (by decide)
  have hf0 := LR1.out.frozen 0
  have ha1 := LR1.out.someCell 1 (by decide)
  have hf1 := LR1.out.frozen 1
  have ha2 := LR1.out.someCell 2 (by decide)
  have hf2 := LR1.out.frozen 2
  have ha3 := LR1.out.someCell 3 (by decide)
  have hf3 := LR1.out.frozen 3
  have hk0 := LR1.out.setCell [.int .i64 0, .bool neg, .slice A5 n5 c5, .slice A6 n6 c6] rfl 0 (by decide)
  have hk1 := LR1.out.setCell [.int .i64 0, .bool neg, .slice A5 n5 c5, .slice A6 n6 c6] rfl 1 (by decide)
  have hk2 := LR1.out.setCell [.int .i64 0, .bool neg, .slice A5 n5 c5, .slice A6 n6 c6] rfl 2 (by decide)
  have hk3 := LR1.out.setCell [.int .i64 0, .bool neg, .slice A5 n5 c5, .slice A6 n6 c6] rfl 3 (by decide)
  have F := Lib.hid (below_sets (w0 := w) (r := w.heap.size) (by omega) [.int .i64 0, .bool neg, .slice A5 n5 c5, .slice A6 n6 c6] 0 _ LB1.out)
  simp [sets] at hk0 hk1 hk2 hk3
  have FR := Lib.hid (LR1.out.rat hr [.int .i64 0, .bool neg, .slice A5 n5 c5, .slice A6 n6 c6])
  clear hr hb1 LR1 LB1
  go_wp2
  refine bodyPost_ret (v := .agg #[.int .i64 0, .bool neg, .slice A5 n5 c5, .slice A6 n6 c6]) (by simp [results, Try.results28, go_sem, hk0, hk1, hk2, hk3]) rfl ?_
  exact ⟨neg, _, _, _, _, _, _, rfl, FR.out, F.out⟩

theorem RatV.k34 {w : World} {neg : Bool} {vn vd : Value} {x : Rat} (h : RatV w 1 neg vn vd x) : RatV w 34 neg vn vd x := h.mono (by decide)
set_option maxHeartbeats 1600000 in
theorem bound_raw (b : Nat) (w : World) (hb : b < 18446744073709551616) (hr : rungOf b ≤ M) :
    Calls Try.prog 29 #[.int .u64 (b : Int)] w (NewEnd w 34 (es (idx b)) (ex (idx b))) := by
  have hs : ∀ W, Calls Try.prog 32 #[.int .i64 0] W (NewRatS W 1 0) := fun W => (int_nat 0 W (by omega)).mono fun _ _ h => h.s
  have HS := Lib.hid hs
  clear hs
  have hc := pat_cases hb
  rw [M_val] at hr
  by_cases h1 : b = 9218868437227405312
  · subst h1
    rw [show idx 9218868437227405312 = (M : Int) from by rw [M_val]; omega, es_max, ex_max]
    clear hc hr
    have LB0 := Lib.hid (show Below w.heap.size w (w.alloc (.cells #[.int .i64 0, .bool false, .slice none 0 0, .slice none 0 0] 46)) from (below_alloc w _))
    have LR0 := Lib.hid (HasBlk.of (n := 4) (Blk.at (W := w) (g := w.heap.size) (by simp <;> omega) 46 #[.int .i64 0, .bool false, .slice none 0 0, .slice none 0 0]) rfl rfl)
    go_enter Try.func29, Try.ntmps29
    go_wp2_with fail
    refine (HS.out _).mono ?_
    rintro e w1 ⟨neg, A5, n5, c5, A6, n6, c6, rfl, hr, hb1⟩
    have LB1 := Lib.hid (LB0.out.trans (hb1.mono LB0.out.size))
    have LR1 := Lib.hid (LR0.out.keep hb1)
    clear LB0 LR0
    have ha0 := LR1.out.someCell 0 (by decide)
    have hf0 := LR1.out.frozen 0
    have ha1 := LR1.out.someCell 1 (by decide)
    have hf1 := LR1.out.frozen 1
    have ha2 := LR1.out.someCell 2 (by decide)
    have hf2 := LR1.out.frozen 2
    have ha3 := LR1.out.someCell 3 (by decide)
    have hf3 := LR1.out.frozen 3
    have hk0 := LR1.out.setCell [.int .i64 1, .bool neg, .slice A5 n5 c5, .slice A6 n6 c6] rfl 0 (by decide)
    have hk1 := LR1.out.setCell [.int .i64 1, .bool neg, .slice A5 n5 c5, .slice A6 n6 c6] rfl 1 (by decide)
    have hk2 := LR1.out.setCell [.int .i64 1, .bool neg, .slice A5 n5 c5, .slice A6 n6 c6] rfl 2 (by decide)
    have hk3 := LR1.out.setCell [.int .i64 1, .bool neg, .slice A5 n5 c5, .slice A6 n6 c6] rfl 3 (by decide)
    have F := Lib.hid (below_sets (w0 := w) (r := w.heap.size) (by omega) [.int .i64 1, .bool neg, .slice A5 n5 c5, .slice A6 n6 c6] 0 _ LB1.out)
    simp [sets] at hk0 hk1 hk2 hk3
    have FR := Lib.hid (LR1.out.rat hr [.int .i64 1, .bool neg, .slice A5 n5 c5, .slice A6 n6 c6])
    clear hr hb1 LR1 LB1
    go_wp2
    refine bodyPost_ret (v := .agg #[.int .i64 1, .bool neg, .slice A5 n5 c5, .slice A6 n6 c6]) (by simp [results, Try.results29, go_sem, hk0, hk1, hk2, hk3]) rfl ?_
    exact ⟨neg, _, _, _, _, _, _, rfl, FR.out.k34, F.out⟩
  · by_cases h2 : b = 18442240474082181120
    · subst h2
      rw [show idx 18442240474082181120 = -(M : Int) from by rw [M_val]; omega, es_min, ex_min]
      clear hc hr h1
      have LB0 := Lib.hid (show Below w.heap.size w (w.alloc (.cells #[.int .i64 0, .bool false, .slice none 0 0, .slice none 0 0] 46)) from (below_alloc w _))
      have LR0 := Lib.hid (HasBlk.of (n := 4) (Blk.at (W := w) (g := w.heap.size) (by simp <;> omega) 46 #[.int .i64 0, .bool false, .slice none 0 0, .slice none 0 0]) rfl rfl)
      go_enter Try.func29, Try.ntmps29
      go_wp2_with fail
      refine (HS.out _).mono ?_
      rintro e w1 ⟨neg, A5, n5, c5, A6, n6, c6, rfl, hr, hb1⟩
      have LB1 := Lib.hid (LB0.out.trans (hb1.mono LB0.out.size))
      have LR1 := Lib.hid (LR0.out.keep hb1)
      clear LB0 LR0
      have ha0 := LR1.out.someCell 0 (by decide)
      have hf0 := LR1.out.frozen 0
      have ha1 := LR1.out.someCell 1 (by decide)
      have hf1 := LR1.out.frozen 1
      have ha2 := LR1.out.someCell 2 (by decide)
      have hf2 := LR1.out.frozen 2
      have ha3 := LR1.out.someCell 3 (by decide)
      have hf3 := LR1.out.frozen 3
      have hk0 := LR1.out.setCell [.int .i64 (-1), .bool neg, .slice A5 n5 c5, .slice A6 n6 c6] rfl 0 (by decide)
      have hk1 := LR1.out.setCell [.int .i64 (-1), .bool neg, .slice A5 n5 c5, .slice A6 n6 c6] rfl 1 (by decide)
      have hk2 := LR1.out.setCell [.int .i64 (-1), .bool neg, .slice A5 n5 c5, .slice A6 n6 c6] rfl 2 (by decide)
      have hk3 := LR1.out.setCell [.int .i64 (-1), .bool neg, .slice A5 n5 c5, .slice A6 n6 c6] rfl 3 (by decide)
      have F := Lib.hid (below_sets (w0 := w) (r := w.heap.size) (by omega) [.int .i64 (-1), .bool neg, .slice A5 n5 c5, .slice A6 n6 c6] 0 _ LB1.out)
      simp [sets] at hk0 hk1 hk2 hk3
      have FR := Lib.hid (LR1.out.rat hr [.int .i64 (-1), .bool neg, .slice A5 n5 c5, .slice A6 n6 c6])
      clear hr hb1 LR1 LB1
      go_wp2
      refine bodyPost_ret (v := .agg #[.int .i64 (-1), .bool neg, .slice A5 n5 c5, .slice A6 n6 c6]) (by simp [results, Try.results29, go_sem, hk0, hk1, hk2, hk3]) rfl ?_
      exact ⟨neg, _, _, _, _, _, _, rfl, FR.out.k34, F.out⟩
    · have e1 : ((b : Int) == 9218868437227405312) = false := by simp; omega
      have e2 : ((b : Int) == 18442240474082181120) = false := by simp; omega
      have hi : -(M : Int) < idx b ∧ idx b < M := by rw [M_val]; omega
      have hpl : pl b = pat (idx b) := pl_real hb (by rw [M_val]; omega)
      have hf : fin (pat (idx b)) := by
        show rungOf _ < M
        rw [rung_pat (by omega) (by omega)]; omega
      have HP := Lib.hid fun W => plain_b b W hb
      have HF := Lib.hid fun W => (frombits_any (pat (idx b)) W (pat_lt (by omega) (by omega)) hf).mono fun _ _ h => h.s
      rw [idx_pat (by omega) (by omega)] at HF
      rw [hpl] at HP
      rw [es_mid hi.1 hi.2, ex_mid hi.1 hi.2]
      clear hc hr h1 h2 hpl hf hi
      have LB0 := Lib.hid (show Below w.heap.size w (w.alloc (.cells #[.int .i64 0, .bool false, .slice none 0 0, .slice none 0 0] 46)) from (below_alloc w _))
      have LR0 := Lib.hid (HasBlk.of (n := 4) (Blk.at (W := w) (g := w.heap.size) (by simp <;> omega) 46 #[.int .i64 0, .bool false, .slice none 0 0, .slice none 0 0]) rfl rfl)
      go_enter Try.func29, Try.ntmps29
      go_wp2_with fail
      refine (HP.out _).mono ?_
      rintro e w1 ⟨rfl, hb1⟩
      have LB1 := Lib.hid (LB0.out.trans (hb1.mono LB0.out.size))
      have LR1 := Lib.hid (LR0.out.keep hb1)
      clear LB0 LR0
      go_wp2_with fail
      refine (HF.out _).mono ?_
      rintro e w2 ⟨neg, A5, n5, c5, A6, n6, c6, rfl, hr, hb2⟩
      have LB2 := Lib.hid (LB1.out.trans (hb2.mono LB1.out.size))
      have LR2 := Lib.hid (LR1.out.keep hb2)
      clear LB1 LR1
      have ha0 := LR2.out.someCell 0 (by decide)
      have hf0 := LR2.out.frozen 0
      have ha1 := LR2.out.someCell 1 (by decide)
      have hf1 := LR2.out.frozen 1
      have ha2 := LR2.out.someCell 2 (by decide)
      have hf2 := LR2.out.frozen 2
      have ha3 := LR2.out.someCell 3 (by decide)
      have hf3 := LR2.out.frozen 3
      have hk0 := LR2.out.setCell [.int .i64 0, .bool neg, .slice A5 n5 c5, .slice A6 n6 c6] rfl 0 (by decide)
      have hk1 := LR2.out.setCell [.int .i64 0, .bool neg, .slice A5 n5 c5, .slice A6 n6 c6] rfl 1 (by decide)
      have hk2 := LR2.out.setCell [.int .i64 0, .bool neg, .slice A5 n5 c5, .slice A6 n6 c6] rfl 2 (by decide)
      have hk3 := LR2.out.setCell [.int .i64 0, .bool neg, .slice A5 n5 c5, .slice A6 n6 c6] rfl 3 (by decide)
      have F := Lib.hid (below_sets (w0 := w) (r := w.heap.size) (by omega) [.int .i64 0, .bool neg, .slice A5 n5 c5, .slice A6 n6 c6] 0 _ LB2.out)
      simp [sets] at hk0 hk1 hk2 hk3
      have FR := Lib.hid (LR2.out.rat hr [.int .i64 0, .bool neg, .slice A5 n5 c5, .slice A6 n6 c6])
      clear hr hb1 hb2 LR2 LB2
      go_wp2
      refine bodyPost_ret (v := .agg #[.int .i64 0, .bool neg, .slice A5 n5 c5, .slice A6 n6 c6]) (by simp [results, Try.results29, go_sem, hk0, hk1, hk2, hk3]) rfl ?_
      exact ⟨neg, _, _, _, _, _, _, rfl, FR.out, F.out⟩

end Go.Proofs.Ythaojemejpbbgaa

namespace Go.Proofs.Ythaojemejpbbgaa
open Go.RowKit

/-- Which of two ends is the lesser. -/
def ec (s : Int) (x : Rat) (t : Int) (y : Rat) : Int := if s = t then (if s = 0 then rc x y else 0) else if s < t then -1 else 1
theorem ec_lt {s t : Int} (x y : Rat) (h : s < t) : ec s x t y = -1 := by unfold ec; rw [if_neg (by omega), if_pos h]
theorem ec_gt {s t : Int} (x y : Rat) (h : t < s) : ec s x t y = 1 := by unfold ec; rw [if_neg (by omega), if_neg (by omega)]
theorem ec_inf {s t : Int} (x y : Rat) (h : s = t) (h0 : s ≠ 0) : ec s x t y = 0 := by unfold ec; rw [if_pos h, if_neg h0]
theorem ec_zero (x y : Rat) : ec 0 x 0 y = rc x y := by unfold ec; rw [if_pos rfl, if_pos rfl]
set_option maxHeartbeats 3200000 in
theorem ecmp_any (K : Nat) (s1 : Int) (g1 : Bool) (A1 : Option Addr) (n1 c1 : Nat) (B1 : Option Addr) (m1 d1 : Nat) (x1 : Rat) (s2 : Int) (g2 : Bool) (A2 : Option Addr) (n2 c2 : Nat) (B2 : Option Addr) (m2 d2 : Nat) (x2 : Rat) (w : World) (h1 : RatV w K g1 (.slice A1 n1 c1) (.slice B1 m1 d1) x1) (h2 : RatV w K g2 (.slice A2 n2 c2) (.slice B2 m2 d2) x2) (hK : K ≤ 1073741824) :
    Calls Try.prog 18 #[.agg #[.int .i64 s1, .bool g1, .slice A1 n1 c1, .slice B1 m1 d1], .agg #[.int .i64 s2, .bool g2, .slice A2 n2 c2, .slice B2 m2 d2]] w fun e w' => e = .returned (.int .i64 (ec s1 x1 s2 x2)) ∧ Below w.heap.size w w' := by
  rcases Int.lt_trichotomy s1 s2 with h | h | h
  · rw [ec_lt x1 x2 h]
    have hq : (s1 == s2) = false := by simp; omega
    have LB0 := Lib.hid (show Below w.heap.size w ((w.alloc (.cells #[.int .i64 s1, .bool g1, .slice A1 n1 c1, .slice B1 m1 d1] 46)).alloc (.cells #[.int .i64 s2, .bool g2, .slice A2 n2 c2, .slice B2 m2 d2] 46)) from ((below_alloc w _).alloc (by simp <;> omega) _))
    have LG0_0 := Lib.hid (((Blk.at (W := w) (g := w.heap.size) (by simp <;> omega) 46 #[.int .i64 s1, .bool g1, .slice A1 n1 c1, .slice B1 m1 d1]).alloc (.cells #[.int .i64 s2, .bool g2, .slice A2 n2 c2, .slice B2 m2 d2] 46)))
    have LG1_0 := Lib.hid ((Blk.at (W := (w.alloc (.cells #[.int .i64 s1, .bool g1, .slice A1 n1 c1, .slice B1 m1 d1] 46))) (g := (w.heap.size + 1)) (by simp <;> omega) 46 #[.int .i64 s2, .bool g2, .slice A2 n2 c2, .slice B2 m2 d2]))
    go_enter Try.func18, Try.ntmps18
    go_wp2
    go_ret
    exact ⟨rfl, LB0.out⟩
  · subst h
    by_cases h0 : s1 = 0
    · subst h0
      rw [ec_zero]
      have LB0 := Lib.hid (show Below w.heap.size w ((w.alloc (.cells #[.int .i64 0, .bool g1, .slice A1 n1 c1, .slice B1 m1 d1] 46)).alloc (.cells #[.int .i64 0, .bool g2, .slice A2 n2 c2, .slice B2 m2 d2] 46)) from ((below_alloc w _).alloc (by simp <;> omega) _))
      have LG0_0 := Lib.hid (((Blk.at (W := w) (g := w.heap.size) (by simp <;> omega) 46 #[.int .i64 0, .bool g1, .slice A1 n1 c1, .slice B1 m1 d1]).alloc (.cells #[.int .i64 0, .bool g2, .slice A2 n2 c2, .slice B2 m2 d2] 46)))
      have LG1_0 := Lib.hid ((Blk.at (W := (w.alloc (.cells #[.int .i64 0, .bool g1, .slice A1 n1 c1, .slice B1 m1 d1] 46))) (g := (w.heap.size + 1)) (by simp <;> omega) 46 #[.int .i64 0, .bool g2, .slice A2 n2 c2, .slice B2 m2 d2]))
      have HC := Lib.hid fun W (hW : Below w.heap.size w W) => rcmp_any K g1 _ _ x1 g2 _ _ x2 W (h1.below hW) (h2.below hW) hK
      clear h1 h2
      go_enter Try.func18, Try.ntmps18
      go_wp2_with fail
      refine (HC.out _ LB0.out).mono ?_
      rintro e w1 ⟨rfl, hb1⟩
      have LB1 := Lib.hid (LB0.out.trans (hb1.mono LB0.out.size))
      have LG0_1 := Lib.hid (LG0_0.out.keep hb1)
      have LG1_1 := Lib.hid (LG1_0.out.keep hb1)
      clear LB0 LG0_0 LG1_0
      go_wp2
      go_ret
      exact ⟨rfl, LB1.out⟩
    · rw [ec_inf x1 x2 rfl h0]
      have hq : (s1 == 0) = false := by simp; omega
      have LB0 := Lib.hid (show Below w.heap.size w ((w.alloc (.cells #[.int .i64 s1, .bool g1, .slice A1 n1 c1, .slice B1 m1 d1] 46)).alloc (.cells #[.int .i64 s1, .bool g2, .slice A2 n2 c2, .slice B2 m2 d2] 46)) from ((below_alloc w _).alloc (by simp <;> omega) _))
      have LG0_0 := Lib.hid (((Blk.at (W := w) (g := w.heap.size) (by simp <;> omega) 46 #[.int .i64 s1, .bool g1, .slice A1 n1 c1, .slice B1 m1 d1]).alloc (.cells #[.int .i64 s1, .bool g2, .slice A2 n2 c2, .slice B2 m2 d2] 46)))
      have LG1_0 := Lib.hid ((Blk.at (W := (w.alloc (.cells #[.int .i64 s1, .bool g1, .slice A1 n1 c1, .slice B1 m1 d1] 46))) (g := (w.heap.size + 1)) (by simp <;> omega) 46 #[.int .i64 s1, .bool g2, .slice A2 n2 c2, .slice B2 m2 d2]))
      go_enter Try.func18, Try.ntmps18
      go_wp2
      go_ret
      exact ⟨rfl, LB0.out⟩
  · rw [ec_gt x1 x2 h]
    have hq : (s1 == s2) = false := by simp; omega
    have hq2 : ¬ s1 < s2 := by omega
    have LB0 := Lib.hid (show Below w.heap.size w ((w.alloc (.cells #[.int .i64 s1, .bool g1, .slice A1 n1 c1, .slice B1 m1 d1] 46)).alloc (.cells #[.int .i64 s2, .bool g2, .slice A2 n2 c2, .slice B2 m2 d2] 46)) from ((below_alloc w _).alloc (by simp <;> omega) _))
    have LG0_0 := Lib.hid (((Blk.at (W := w) (g := w.heap.size) (by simp <;> omega) 46 #[.int .i64 s1, .bool g1, .slice A1 n1 c1, .slice B1 m1 d1]).alloc (.cells #[.int .i64 s2, .bool g2, .slice A2 n2 c2, .slice B2 m2 d2] 46)))
    have LG1_0 := Lib.hid ((Blk.at (W := (w.alloc (.cells #[.int .i64 s1, .bool g1, .slice A1 n1 c1, .slice B1 m1 d1] 46))) (g := (w.heap.size + 1)) (by simp <;> omega) 46 #[.int .i64 s2, .bool g2, .slice A2 n2 c2, .slice B2 m2 d2]))
    go_enter Try.func18, Try.ntmps18
    go_wp2
    go_ret
    exact ⟨rfl, LB0.out⟩

set_option maxHeartbeats 3200000 in
theorem lesser_any (K : Nat) (s1 : Int) (g1 : Bool) (A1 : Option Addr) (n1 c1 : Nat) (B1 : Option Addr) (m1 d1 : Nat) (x1 : Rat) (s2 : Int) (g2 : Bool) (A2 : Option Addr) (n2 c2 : Nat) (B2 : Option Addr) (m2 d2 : Nat) (x2 : Rat) (w : World) (h1 : RatV w K g1 (.slice A1 n1 c1) (.slice B1 m1 d1) x1) (h2 : RatV w K g2 (.slice A2 n2 c2) (.slice B2 m2 d2) x2) (hK : K ≤ 1073741824) :
    Calls Try.prog 51 #[.agg #[.int .i64 s1, .bool g1, .slice A1 n1 c1, .slice B1 m1 d1], .agg #[.int .i64 s2, .bool g2, .slice A2 n2 c2, .slice B2 m2 d2]] w (NewEnd w K (if ec s2 x2 s1 x1 < 0 then s2 else s1) (if ec s2 x2 s1 x1 < 0 then x2 else x1)) := by
  have HC := Lib.hid fun W (hW : Below w.heap.size w W) => ecmp_any K s2 g2 A2 n2 c2 B2 m2 d2 x2 s1 g1 A1 n1 c1 B1 m1 d1 x1 W (h2.below hW) (h1.below hW) hK
  obtain ⟨r, hr⟩ : ∃ r, ec s2 x2 s1 x1 = r := ⟨_, rfl⟩
  rw [hr] at HC ⊢
  have H1 := Lib.hid h1
  have H2 := Lib.hid h2
  clear h1 h2 hr
  by_cases h : r < 0
  · rw [if_pos h, if_pos h]
    have LB0 := Lib.hid (show Below w.heap.size w (((w.alloc (.cells #[.int .i64 s1, .bool g1, .slice A1 n1 c1, .slice B1 m1 d1] 46)).alloc (.cells #[.int .i64 s2, .bool g2, .slice A2 n2 c2, .slice B2 m2 d2] 46)).alloc (.cells #[.int .i64 0, .bool false, .slice none 0 0, .slice none 0 0] 46)) from (((below_alloc w _).alloc (by simp <;> omega) _).alloc (by simp <;> omega) _))
    have LG0_0 := Lib.hid ((((Blk.at (W := w) (g := w.heap.size) (by simp <;> omega) 46 #[.int .i64 s1, .bool g1, .slice A1 n1 c1, .slice B1 m1 d1]).alloc (.cells #[.int .i64 s2, .bool g2, .slice A2 n2 c2, .slice B2 m2 d2] 46)).alloc (.cells #[.int .i64 0, .bool false, .slice none 0 0, .slice none 0 0] 46)))
    have LG1_0 := Lib.hid (((Blk.at (W := (w.alloc (.cells #[.int .i64 s1, .bool g1, .slice A1 n1 c1, .slice B1 m1 d1] 46))) (g := (w.heap.size + 1)) (by simp <;> omega) 46 #[.int .i64 s2, .bool g2, .slice A2 n2 c2, .slice B2 m2 d2]).alloc (.cells #[.int .i64 0, .bool false, .slice none 0 0, .slice none 0 0] 46)))
    have LR0 := Lib.hid (HasBlk.of (n := 4) (Blk.at (W := ((w.alloc (.cells #[.int .i64 s1, .bool g1, .slice A1 n1 c1, .slice B1 m1 d1] 46)).alloc (.cells #[.int .i64 s2, .bool g2, .slice A2 n2 c2, .slice B2 m2 d2] 46))) (g := (w.heap.size + 2)) (by simp <;> omega) 46 #[.int .i64 0, .bool false, .slice none 0 0, .slice none 0 0]) rfl rfl)
    go_enter Try.func51, Try.ntmps51
    go_wp2_with fail
    refine (HC.out _ LB0.out).mono ?_
    rintro e w1 ⟨rfl, hb1⟩
    have LB1 := Lib.hid (LB0.out.trans (hb1.mono LB0.out.size))
    have LR1 := Lib.hid (LR0.out.keep hb1)
    have LG0_1 := Lib.hid (LG0_0.out.keep hb1)
    have LG1_1 := Lib.hid (LG1_0.out.keep hb1)
    clear LB0 LR0 LG0_0 LG1_0
    have q1_0 : _ = some (.int .i64 s2 : Value) := LG1_1.out.cell 0
    have q1_1 : _ = some (.bool g2 : Value) := LG1_1.out.cell 1
    have q1_2 : _ = some (.slice A2 n2 c2 : Value) := LG1_1.out.cell 2
    have q1_3 : _ = some (.slice B2 m2 d2 : Value) := LG1_1.out.cell 3
    have ha0 := LR1.out.someCell 0 (by decide)
    have hf0 := LR1.out.frozen 0
    have ha1 := LR1.out.someCell 1 (by decide)
    have hf1 := LR1.out.frozen 1
    have ha2 := LR1.out.someCell 2 (by decide)
    have hf2 := LR1.out.frozen 2
    have ha3 := LR1.out.someCell 3 (by decide)
    have hf3 := LR1.out.frozen 3
    have hk0 := LR1.out.setCell [.int .i64 s2, .bool g2, .slice A2 n2 c2, .slice B2 m2 d2] rfl 0 (by decide)
    have hk1 := LR1.out.setCell [.int .i64 s2, .bool g2, .slice A2 n2 c2, .slice B2 m2 d2] rfl 1 (by decide)
    have hk2 := LR1.out.setCell [.int .i64 s2, .bool g2, .slice A2 n2 c2, .slice B2 m2 d2] rfl 2 (by decide)
    have hk3 := LR1.out.setCell [.int .i64 s2, .bool g2, .slice A2 n2 c2, .slice B2 m2 d2] rfl 3 (by decide)
    have F := Lib.hid (below_sets (w0 := w) (r := (w.heap.size + 2)) (by omega) [.int .i64 s2, .bool g2, .slice A2 n2 c2, .slice B2 m2 d2] 0 _ LB1.out)
    simp [sets] at hk0 hk1 hk2 hk3
    have FR := Lib.hid (LR1.out.rat (H2.out.below LB1.out) [.int .i64 s2, .bool g2, .slice A2 n2 c2, .slice B2 m2 d2])
    clear hb1 HC H1 H2
    go_wp2
    refine bodyPost_ret (v := .agg #[.int .i64 s2, .bool g2, .slice A2 n2 c2, .slice B2 m2 d2]) (by simp [results, Try.results51, go_sem, hk0, hk1, hk2, hk3]) rfl ?_
    exact ⟨_, _, _, _, _, _, _, rfl, FR.out, F.out⟩
  · rw [if_neg h, if_neg h]
    have LB0 := Lib.hid (show Below w.heap.size w (((w.alloc (.cells #[.int .i64 s1, .bool g1, .slice A1 n1 c1, .slice B1 m1 d1] 46)).alloc (.cells #[.int .i64 s2, .bool g2, .slice A2 n2 c2, .slice B2 m2 d2] 46)).alloc (.cells #[.int .i64 0, .bool false, .slice none 0 0, .slice none 0 0] 46)) from (((below_alloc w _).alloc (by simp <;> omega) _).alloc (by simp <;> omega) _))
    have LG0_0 := Lib.hid ((((Blk.at (W := w) (g := w.heap.size) (by simp <;> omega) 46 #[.int .i64 s1, .bool g1, .slice A1 n1 c1, .slice B1 m1 d1]).alloc (.cells #[.int .i64 s2, .bool g2, .slice A2 n2 c2, .slice B2 m2 d2] 46)).alloc (.cells #[.int .i64 0, .bool false, .slice none 0 0, .slice none 0 0] 46)))
    have LG1_0 := Lib.hid (((Blk.at (W := (w.alloc (.cells #[.int .i64 s1, .bool g1, .slice A1 n1 c1, .slice B1 m1 d1] 46))) (g := (w.heap.size + 1)) (by simp <;> omega) 46 #[.int .i64 s2, .bool g2, .slice A2 n2 c2, .slice B2 m2 d2]).alloc (.cells #[.int .i64 0, .bool false, .slice none 0 0, .slice none 0 0] 46)))
    have LR0 := Lib.hid (HasBlk.of (n := 4) (Blk.at (W := ((w.alloc (.cells #[.int .i64 s1, .bool g1, .slice A1 n1 c1, .slice B1 m1 d1] 46)).alloc (.cells #[.int .i64 s2, .bool g2, .slice A2 n2 c2, .slice B2 m2 d2] 46))) (g := (w.heap.size + 2)) (by simp <;> omega) 46 #[.int .i64 0, .bool false, .slice none 0 0, .slice none 0 0]) rfl rfl)
    go_enter Try.func51, Try.ntmps51
    go_wp2_with fail
    refine (HC.out _ LB0.out).mono ?_
    rintro e w1 ⟨rfl, hb1⟩
    have LB1 := Lib.hid (LB0.out.trans (hb1.mono LB0.out.size))
    have LR1 := Lib.hid (LR0.out.keep hb1)
    have LG0_1 := Lib.hid (LG0_0.out.keep hb1)
    have LG1_1 := Lib.hid (LG1_0.out.keep hb1)
    clear LB0 LR0 LG0_0 LG1_0
    have q0_0 : _ = some (.int .i64 s1 : Value) := LG0_1.out.cell 0
    have q0_1 : _ = some (.bool g1 : Value) := LG0_1.out.cell 1
    have q0_2 : _ = some (.slice A1 n1 c1 : Value) := LG0_1.out.cell 2
    have q0_3 : _ = some (.slice B1 m1 d1 : Value) := LG0_1.out.cell 3
    have ha0 := LR1.out.someCell 0 (by decide)
    have hf0 := LR1.out.frozen 0
    have ha1 := LR1.out.someCell 1 (by decide)
    have hf1 := LR1.out.frozen 1
    have ha2 := LR1.out.someCell 2 (by decide)
    have hf2 := LR1.out.frozen 2
    have ha3 := LR1.out.someCell 3 (by decide)
    have hf3 := LR1.out.frozen 3
    have hk0 := LR1.out.setCell [.int .i64 s1, .bool g1, .slice A1 n1 c1, .slice B1 m1 d1] rfl 0 (by decide)
    have hk1 := LR1.out.setCell [.int .i64 s1, .bool g1, .slice A1 n1 c1, .slice B1 m1 d1] rfl 1 (by decide)
    have hk2 := LR1.out.setCell [.int .i64 s1, .bool g1, .slice A1 n1 c1, .slice B1 m1 d1] rfl 2 (by decide)
    have hk3 := LR1.out.setCell [.int .i64 s1, .bool g1, .slice A1 n1 c1, .slice B1 m1 d1] rfl 3 (by decide)
    have F := Lib.hid (below_sets (w0 := w) (r := (w.heap.size + 2)) (by omega) [.int .i64 s1, .bool g1, .slice A1 n1 c1, .slice B1 m1 d1] 0 _ LB1.out)
    simp [sets] at hk0 hk1 hk2 hk3
    have FR := Lib.hid (LR1.out.rat (H1.out.below LB1.out) [.int .i64 s1, .bool g1, .slice A1 n1 c1, .slice B1 m1 d1])
    clear hb1 HC H1 H2
    go_wp2
    refine bodyPost_ret (v := .agg #[.int .i64 s1, .bool g1, .slice A1 n1 c1, .slice B1 m1 d1]) (by simp [results, Try.results51, go_sem, hk0, hk1, hk2, hk3]) rfl ?_
    exact ⟨_, _, _, _, _, _, _, rfl, FR.out, F.out⟩

set_option maxHeartbeats 3200000 in
theorem greater_any (K : Nat) (s1 : Int) (g1 : Bool) (A1 : Option Addr) (n1 c1 : Nat) (B1 : Option Addr) (m1 d1 : Nat) (x1 : Rat) (s2 : Int) (g2 : Bool) (A2 : Option Addr) (n2 c2 : Nat) (B2 : Option Addr) (m2 d2 : Nat) (x2 : Rat) (w : World) (h1 : RatV w K g1 (.slice A1 n1 c1) (.slice B1 m1 d1) x1) (h2 : RatV w K g2 (.slice A2 n2 c2) (.slice B2 m2 d2) x2) (hK : K ≤ 1073741824) :
    Calls Try.prog 52 #[.agg #[.int .i64 s1, .bool g1, .slice A1 n1 c1, .slice B1 m1 d1], .agg #[.int .i64 s2, .bool g2, .slice A2 n2 c2, .slice B2 m2 d2]] w (NewEnd w K (if 0 < ec s2 x2 s1 x1 then s2 else s1) (if 0 < ec s2 x2 s1 x1 then x2 else x1)) := by
  have HC := Lib.hid fun W (hW : Below w.heap.size w W) => ecmp_any K s2 g2 A2 n2 c2 B2 m2 d2 x2 s1 g1 A1 n1 c1 B1 m1 d1 x1 W (h2.below hW) (h1.below hW) hK
  obtain ⟨r, hr⟩ : ∃ r, ec s2 x2 s1 x1 = r := ⟨_, rfl⟩
  rw [hr] at HC ⊢
  have H1 := Lib.hid h1
  have H2 := Lib.hid h2
  clear h1 h2 hr
  by_cases h : 0 < r
  · rw [if_pos h, if_pos h]
    have LB0 := Lib.hid (show Below w.heap.size w (((w.alloc (.cells #[.int .i64 s1, .bool g1, .slice A1 n1 c1, .slice B1 m1 d1] 46)).alloc (.cells #[.int .i64 s2, .bool g2, .slice A2 n2 c2, .slice B2 m2 d2] 46)).alloc (.cells #[.int .i64 0, .bool false, .slice none 0 0, .slice none 0 0] 46)) from (((below_alloc w _).alloc (by simp <;> omega) _).alloc (by simp <;> omega) _))
    have LG0_0 := Lib.hid ((((Blk.at (W := w) (g := w.heap.size) (by simp <;> omega) 46 #[.int .i64 s1, .bool g1, .slice A1 n1 c1, .slice B1 m1 d1]).alloc (.cells #[.int .i64 s2, .bool g2, .slice A2 n2 c2, .slice B2 m2 d2] 46)).alloc (.cells #[.int .i64 0, .bool false, .slice none 0 0, .slice none 0 0] 46)))
    have LG1_0 := Lib.hid (((Blk.at (W := (w.alloc (.cells #[.int .i64 s1, .bool g1, .slice A1 n1 c1, .slice B1 m1 d1] 46))) (g := (w.heap.size + 1)) (by simp <;> omega) 46 #[.int .i64 s2, .bool g2, .slice A2 n2 c2, .slice B2 m2 d2]).alloc (.cells #[.int .i64 0, .bool false, .slice none 0 0, .slice none 0 0] 46)))
    have LR0 := Lib.hid (HasBlk.of (n := 4) (Blk.at (W := ((w.alloc (.cells #[.int .i64 s1, .bool g1, .slice A1 n1 c1, .slice B1 m1 d1] 46)).alloc (.cells #[.int .i64 s2, .bool g2, .slice A2 n2 c2, .slice B2 m2 d2] 46))) (g := (w.heap.size + 2)) (by simp <;> omega) 46 #[.int .i64 0, .bool false, .slice none 0 0, .slice none 0 0]) rfl rfl)
    go_enter Try.func52, Try.ntmps52
    go_wp2_with fail
    refine (HC.out _ LB0.out).mono ?_
    rintro e w1 ⟨rfl, hb1⟩
    have LB1 := Lib.hid (LB0.out.trans (hb1.mono LB0.out.size))
    have LR1 := Lib.hid (LR0.out.keep hb1)
    have LG0_1 := Lib.hid (LG0_0.out.keep hb1)
    have LG1_1 := Lib.hid (LG1_0.out.keep hb1)
    clear LB0 LR0 LG0_0 LG1_0
    have q1_0 : _ = some (.int .i64 s2 : Value) := LG1_1.out.cell 0
    have q1_1 : _ = some (.bool g2 : Value) := LG1_1.out.cell 1
    have q1_2 : _ = some (.slice A2 n2 c2 : Value) := LG1_1.out.cell 2
    have q1_3 : _ = some (.slice B2 m2 d2 : Value) := LG1_1.out.cell 3
    have ha0 := LR1.out.someCell 0 (by decide)
    have hf0 := LR1.out.frozen 0
    have ha1 := LR1.out.someCell 1 (by decide)
    have hf1 := LR1.out.frozen 1
    have ha2 := LR1.out.someCell 2 (by decide)
    have hf2 := LR1.out.frozen 2
    have ha3 := LR1.out.someCell 3 (by decide)
    have hf3 := LR1.out.frozen 3
    have hk0 := LR1.out.setCell [.int .i64 s2, .bool g2, .slice A2 n2 c2, .slice B2 m2 d2] rfl 0 (by decide)
    have hk1 := LR1.out.setCell [.int .i64 s2, .bool g2, .slice A2 n2 c2, .slice B2 m2 d2] rfl 1 (by decide)
    have hk2 := LR1.out.setCell [.int .i64 s2, .bool g2, .slice A2 n2 c2, .slice B2 m2 d2] rfl 2 (by decide)
    have hk3 := LR1.out.setCell [.int .i64 s2, .bool g2, .slice A2 n2 c2, .slice B2 m2 d2] rfl 3 (by decide)
    have F := Lib.hid (below_sets (w0 := w) (r := (w.heap.size + 2)) (by omega) [.int .i64 s2, .bool g2, .slice A2 n2 c2, .slice B2 m2 d2] 0 _ LB1.out)
    simp [sets] at hk0 hk1 hk2 hk3
    have FR := Lib.hid (LR1.out.rat (H2.out.below LB1.out) [.int .i64 s2, .bool g2, .slice A2 n2 c2, .slice B2 m2 d2])
    clear hb1 HC H1 H2
    go_wp2
    refine bodyPost_ret (v := .agg #[.int .i64 s2, .bool g2, .slice A2 n2 c2, .slice B2 m2 d2]) (by simp [results, Try.results52, go_sem, hk0, hk1, hk2, hk3]) rfl ?_
    exact ⟨_, _, _, _, _, _, _, rfl, FR.out, F.out⟩
  · rw [if_neg h, if_neg h]
    have LB0 := Lib.hid (show Below w.heap.size w (((w.alloc (.cells #[.int .i64 s1, .bool g1, .slice A1 n1 c1, .slice B1 m1 d1] 46)).alloc (.cells #[.int .i64 s2, .bool g2, .slice A2 n2 c2, .slice B2 m2 d2] 46)).alloc (.cells #[.int .i64 0, .bool false, .slice none 0 0, .slice none 0 0] 46)) from (((below_alloc w _).alloc (by simp <;> omega) _).alloc (by simp <;> omega) _))
    have LG0_0 := Lib.hid ((((Blk.at (W := w) (g := w.heap.size) (by simp <;> omega) 46 #[.int .i64 s1, .bool g1, .slice A1 n1 c1, .slice B1 m1 d1]).alloc (.cells #[.int .i64 s2, .bool g2, .slice A2 n2 c2, .slice B2 m2 d2] 46)).alloc (.cells #[.int .i64 0, .bool false, .slice none 0 0, .slice none 0 0] 46)))
    have LG1_0 := Lib.hid (((Blk.at (W := (w.alloc (.cells #[.int .i64 s1, .bool g1, .slice A1 n1 c1, .slice B1 m1 d1] 46))) (g := (w.heap.size + 1)) (by simp <;> omega) 46 #[.int .i64 s2, .bool g2, .slice A2 n2 c2, .slice B2 m2 d2]).alloc (.cells #[.int .i64 0, .bool false, .slice none 0 0, .slice none 0 0] 46)))
    have LR0 := Lib.hid (HasBlk.of (n := 4) (Blk.at (W := ((w.alloc (.cells #[.int .i64 s1, .bool g1, .slice A1 n1 c1, .slice B1 m1 d1] 46)).alloc (.cells #[.int .i64 s2, .bool g2, .slice A2 n2 c2, .slice B2 m2 d2] 46))) (g := (w.heap.size + 2)) (by simp <;> omega) 46 #[.int .i64 0, .bool false, .slice none 0 0, .slice none 0 0]) rfl rfl)
    go_enter Try.func52, Try.ntmps52
    go_wp2_with fail
    refine (HC.out _ LB0.out).mono ?_
    rintro e w1 ⟨rfl, hb1⟩
    have LB1 := Lib.hid (LB0.out.trans (hb1.mono LB0.out.size))
    have LR1 := Lib.hid (LR0.out.keep hb1)
    have LG0_1 := Lib.hid (LG0_0.out.keep hb1)
    have LG1_1 := Lib.hid (LG1_0.out.keep hb1)
    clear LB0 LR0 LG0_0 LG1_0
    have q0_0 : _ = some (.int .i64 s1 : Value) := LG0_1.out.cell 0
    have q0_1 : _ = some (.bool g1 : Value) := LG0_1.out.cell 1
    have q0_2 : _ = some (.slice A1 n1 c1 : Value) := LG0_1.out.cell 2
    have q0_3 : _ = some (.slice B1 m1 d1 : Value) := LG0_1.out.cell 3
    have ha0 := LR1.out.someCell 0 (by decide)
    have hf0 := LR1.out.frozen 0
    have ha1 := LR1.out.someCell 1 (by decide)
    have hf1 := LR1.out.frozen 1
    have ha2 := LR1.out.someCell 2 (by decide)
    have hf2 := LR1.out.frozen 2
    have ha3 := LR1.out.someCell 3 (by decide)
    have hf3 := LR1.out.frozen 3
    have hk0 := LR1.out.setCell [.int .i64 s1, .bool g1, .slice A1 n1 c1, .slice B1 m1 d1] rfl 0 (by decide)
    have hk1 := LR1.out.setCell [.int .i64 s1, .bool g1, .slice A1 n1 c1, .slice B1 m1 d1] rfl 1 (by decide)
    have hk2 := LR1.out.setCell [.int .i64 s1, .bool g1, .slice A1 n1 c1, .slice B1 m1 d1] rfl 2 (by decide)
    have hk3 := LR1.out.setCell [.int .i64 s1, .bool g1, .slice A1 n1 c1, .slice B1 m1 d1] rfl 3 (by decide)
    have F := Lib.hid (below_sets (w0 := w) (r := (w.heap.size + 2)) (by omega) [.int .i64 s1, .bool g1, .slice A1 n1 c1, .slice B1 m1 d1] 0 _ LB1.out)
    simp [sets] at hk0 hk1 hk2 hk3
    have FR := Lib.hid (LR1.out.rat (H1.out.below LB1.out) [.int .i64 s1, .bool g1, .slice A1 n1 c1, .slice B1 m1 d1])
    clear hb1 HC H1 H2
    go_wp2
    refine bodyPost_ret (v := .agg #[.int .i64 s1, .bool g1, .slice A1 n1 c1, .slice B1 m1 d1]) (by simp [results, Try.results52, go_sem, hk0, hk1, hk2, hk3]) rfl ?_
    exact ⟨_, _, _, _, _, _, _, rfl, FR.out, F.out⟩

end Go.Proofs.Ythaojemejpbbgaa
