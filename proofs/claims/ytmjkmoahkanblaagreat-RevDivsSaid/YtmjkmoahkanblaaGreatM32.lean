/-
DivRev1 and DivRev2 by indexes, the program's and the reference's.
What the program makes of DivRev1 and DivRev2 is what chapter 10 says: plain law.
Walk: RevDivs.
-/
import Derived.Test.YtmjkmoahkanblaaGreatPPairT
import Derived.Test.YtmjkmoahkanblaaGreatM27
import Derived.Test.YtmjkmoahkanblaaGreatM30
import Derived.Test.YtmjkmoahkanblaaGreatM31
import Derived.Test.YtmjkmoahkanblaaGreatM04
import Derived.Deep.DeepCutAuto
set_option linter.unusedSimpArgs false
set_option linter.unusedVariables false
set_option maxHeartbeats 12800000

namespace Go.Proofs.YtmjkmoahkanblaaGreat
open Go.RowKit
theorem mu_rng {d a b : Int} (hd : d = -1 ∨ d = 1) : -(M : Int) ≤ mu d a b ∧ mu d a b ≤ M := by
  have hM : (M : Int) = 9218868437227405312 := rfl
  unfold mu
  have h1 := rndI_down (fl a * fl b)
  have h2 := rndI_up (fl a * fl b)
  split
  · split <;> omega
  · rcases hd with rfl | rfl <;> omega
theorem product_any (a b : Int) (w : World) (ha : -(M : Int) ≤ a ∧ a ≤ M) (hb : -(M : Int) ≤ b ∧ b ≤ M) (na : a ≠ 0) (nb : b ≠ 0) :
    Calls Tryz.prog 172 #[.float .f64 (pat a), .float .f64 (pat b)] w fun e w' => e = .returned (.agg #[.float .f64 (pat (mu (-1) a b)), .float .f64 (pat (mu 1 a b))]) ∧ Below w.heap.size w w' :=
  product_walk _ _ _ _ w (fun W => rmul_pat (-1) a b W (.inl rfl) ha hb na nb) (fun W => rmul_pat 1 a b W (.inr rfl) ha hb na nb)
theorem dividend_any (i1 j1 i2 j2 i j : Int) (w : World) (h1 : Ne i1 j1) (h2 : Ne i2 j2) (hx : Ne i j) :
    Calls Tryz.prog 112 #[.agg #[.float .f64 (pat i1), .float .f64 (pat j1)], .agg #[.float .f64 (pat i2), .float .f64 (pat j2)], .agg #[.float .f64 (pat i), .float .f64 (pat j)]] w fun e w' =>
      e = .returned (.agg #[.float .f64 (pat (FV i1 j1 i2 j2 i j).1), .float .f64 (pat (FV i1 j1 i2 j2 i j).2)]) ∧ Below w.heap.size w w' := by
  have hM : (M : Int) = 9218868437227405312 := rfl
  rw [← dvd_FV h1 h2 hx]
  have r1 := h1.iv.lo
  have r2 := h1.iv.hi
  have r3 := h2.iv.lo
  have r4 := h2.iv.hi
  unfold dvd
  by_cases h : j1 ≤ 0
  · rw [if_pos h, pat_max, pat_min]
    refine dividend_none _ _ _ _ _ _ w ?_
    by_cases h0 : j1 = 0
    · exact .inl (ord0_eq h0)
    · exact .inr (ord0_lt r2 (by omega))
  · rw [if_neg h]
    have hmx := fun W ts t => run_maxf r1 (show -(M : Int) ≤ 0 ∧ (0 : Int) ≤ M by omega) W ts t
    rw [pat_zero] at hmx
    have rF : -(M : Int) ≤ max i1 0 ∧ max i1 0 ≤ M := by omega
    have gP : (-(M : Int) ≤ (pdP i1 j1 i2).1 ∧ (pdP i1 j1 i2).1 ≤ M) ∧ (-(M : Int) ≤ (pdP i1 j1 i2).2 ∧ (pdP i1 j1 i2).2 ≤ M) := by
      have a1 := mu_rng (d := -1) (a := i2) (b := j1) (.inl rfl)
      have a2 := mu_rng (d := 1) (a := i2) (b := j1) (.inr rfl)
      have a3 := mu_rng (d := -1) (a := i2) (b := i1) (.inl rfl)
      have a4 := mu_rng (d := 1) (a := i2) (b := i1) (.inr rfl)
      unfold pdP
      split
      · exact ⟨a1, a2⟩
      · split
        · exact ⟨a3, a4⟩
        · dsimp only; omega
    have gQ : (-(M : Int) ≤ (pdQ i1 j1 j2).1 ∧ (pdQ i1 j1 j2).1 ≤ M) ∧ (-(M : Int) ≤ (pdQ i1 j1 j2).2 ∧ (pdQ i1 j1 j2).2 ≤ M) := by
      have a1 := mu_rng (d := -1) (a := j2) (b := j1) (.inl rfl)
      have a2 := mu_rng (d := 1) (a := j2) (b := j1) (.inr rfl)
      have a3 := mu_rng (d := -1) (a := j2) (b := i1) (.inl rfl)
      have a4 := mu_rng (d := 1) (a := j2) (b := i1) (.inr rfl)
      unfold pdQ
      split
      · exact ⟨a1, a2⟩
      · split
        · exact ⟨a3, a4⟩
        · dsimp only; omega
    refine dividend_walk _ _ _ _ _ _ (pat (max i1 0)) (pat (pdP i1 j1 i2).1) (pat (pdP i1 j1 i2).2) (pat (pdQ i1 j1 j2).1) (pat (pdQ i1 j1 j2).2) _ _ (compare (max i1 0) 0) (compare i2 0) (compare j2 0) _ w (ord0_gt r2 (by omega)) hmx (ord0 rF) (ord0 r3) (ord0 r4) ?_ ?_ (fun W => has_any i2 j2 W r3 r4) (fun W => rcut2_any _ i j _ _ _ _ W hx.iv.lo hx.iv.hi gP.1 gP.2 gQ.1 gQ.2)
    · by_cases a : i2 < 0
      · have e : pdP i1 j1 i2 = (mu (-1) i2 j1, mu 1 i2 j1) := if_pos a
        rw [e]
        exact .inl ⟨Int.compare_eq_lt.2 a, fun W => product_any i2 j1 W r3 r2 (by omega) (by omega)⟩
      · by_cases c : 0 < i2 ∧ 0 < i1
        · have e : pdP i1 j1 i2 = (mu (-1) i2 i1, mu 1 i2 i1) := by unfold pdP; rw [if_neg a, if_pos c]
          rw [e, show max i1 0 = i1 from by omega]
          exact .inr (.inl ⟨Int.compare_eq_gt.2 c.1, Int.compare_eq_gt.2 c.2, fun W => product_any i2 i1 W r3 r1 (by omega) (by omega)⟩)
        · have e : pdP i1 j1 i2 = (0, 0) := by unfold pdP; rw [if_neg a, if_neg c]
          rw [e]
          refine .inr (.inr ⟨?_, pat_zero, pat_zero⟩)
          by_cases z : i2 = 0
          · exact .inl (Int.compare_eq_eq.2 z)
          · exact .inr ⟨Int.compare_eq_gt.2 (by omega), Int.compare_eq_eq.2 (by omega)⟩
    · by_cases a : 0 < j2
      · have e : pdQ i1 j1 j2 = (mu (-1) j2 j1, mu 1 j2 j1) := if_pos a
        rw [e]
        exact .inl ⟨Int.compare_eq_gt.2 a, fun W => product_any j2 j1 W r4 r2 (by omega) (by omega)⟩
      · by_cases c : j2 < 0 ∧ 0 < i1
        · have e : pdQ i1 j1 j2 = (mu (-1) j2 i1, mu 1 j2 i1) := by unfold pdQ; rw [if_neg a, if_pos c]
          rw [e, show max i1 0 = i1 from by omega]
          exact .inr (.inl ⟨Int.compare_eq_lt.2 c.1, Int.compare_eq_gt.2 c.2, fun W => product_any j2 i1 W r4 r1 (by omega) (by omega)⟩)
        · have e : pdQ i1 j1 j2 = (0, 0) := by unfold pdQ; rw [if_neg a, if_neg c]
          rw [e]
          refine .inr (.inr ⟨?_, pat_zero, pat_zero⟩)
          by_cases z : j2 = 0
          · exact .inl (Int.compare_eq_eq.2 z)
          · exact .inr ⟨Int.compare_eq_lt.2 (by omega), Int.compare_eq_eq.2 (by omega)⟩
def dr1 (i1 j1 i2 j2 i j : Int) : Int × Int :=
  if j1 < i1 ∨ j2 < i2 ∨ j < i then ((M : Int), -(M : Int))
  else (min (FV i1 j1 i2 j2 i j).1 (-(FV (-j1) (-i1) i2 j2 (-j) (-i)).2), max (FV i1 j1 i2 j2 i j).2 (-(FV (-j1) (-i1) i2 j2 (-j) (-i)).1))
theorem divrev1_any (b1 b2 c1 c2 x y : Nat) (w : World) (hb1 : b1 < 18446744073709551616) (hb2 : b2 < 18446744073709551616) (hc1 : c1 < 18446744073709551616) (hc2 : c2 < 18446744073709551616) (hx : x < 18446744073709551616) (hy : y < 18446744073709551616) :
    Calls Tryz.prog 40 #[.agg #[.float .f64 b1, .float .f64 b2], .agg #[.float .f64 c1, .float .f64 c2], .agg #[.float .f64 x, .float .f64 y]] w fun e w' =>
      e = .returned (.agg #[.float .f64 (pat (dr1 (rd b1 b2).1 (rd b1 b2).2 (rd c1 c2).1 (rd c1 c2).2 (rd x y).1 (rd x y).2).1), .float .f64 (pat (dr1 (rd b1 b2).1 (rd b1 b2).2 (rd c1 c2).1 (rd c1 c2).2 (rd x y).1 (rd x y).2).2)]) ∧ Below w.heap.size w w' := by
  have hM : (M : Int) = 9218868437227405312 := rfl
  have v1 := rd_iv b1 b2
  have v2 := rd_iv c1 c2
  have v3 := rd_iv x y
  have t1 := fun W => readf b1 b2 W hb1 hb2
  have t2 := fun W => readf c1 c2 W hc1 hc2
  have t3 := fun W => readf x y W hx hy
  obtain ⟨⟨i1, j1⟩, r1⟩ : ∃ z, rd b1 b2 = z := ⟨_, rfl⟩
  obtain ⟨⟨i2, j2⟩, r2⟩ : ∃ z, rd c1 c2 = z := ⟨_, rfl⟩
  obtain ⟨⟨i3, j3⟩, r3⟩ : ∃ z, rd x y = z := ⟨_, rfl⟩
  rw [r1] at v1 t1
  rw [r2] at v2 t2
  rw [r3] at v3 t3
  rw [r1, r2, r3]
  dsimp only at *
  have m1 := em_idx v1
  have m2 := em_idx v2
  have m3 := em_idx v3
  unfold dr1
  by_cases hno : j1 < i1 ∨ j2 < i2 ∨ j3 < i3
  · rw [if_pos hno, pat_max, pat_min]
    exact divrev1_none _ _ _ _ _ _ _ _ _ _ _ _ _ _ _ w t1 m1 t2 m2 t3 m3 (by simp; omega)
  · rw [if_neg hno]
    have hnn : (decide (j1 < i1) || decide (j2 < i2) || decide (j3 < i3)) = false := by simp; omega
    have n1 := ne_or v1 (by omega)
    have n2 := ne_or v2 (by omega)
    have n3 := ne_or v3 (by omega)
    have f1 := FV_iv n1 v2 i3 j3 v3
    have f2 := FV_iv n1.neg v2 (-j3) (-i3) v3.negg
    exact divrev1_some _ _ _ _ _ _ _ _ _ _ _ _ _ _ _ _ _ _ _ _ _ _ _ _ _ _ _ w t1 m1 t2 m2 t3 m3 hnn (fun W => dividend_any i1 j1 i2 j2 i3 j3 W n1 n2 n3) (fun W => mirror_idx i1 j1 W v1) (fun W => mirror_idx i3 j3 W v3) (fun W => dividend_any (-j1) (-i1) i2 j2 (-j3) (-i3) W n1.neg n2 n3.neg) (fun W => mirror_idx _ _ W f2) (fun W => hullf _ _ _ _ W f1 f2.negg)
theorem esx_val {i : Int} (h : -(M : Int) ≤ i ∧ i ≤ M) : esx (es i) (ex i) = if 0 < i then 1 else if i < 0 then -1 else 0 := by
  have k := esx_idx h
  have r : -1 ≤ esx (es i) (ex i) ∧ esx (es i) (ex i) ≤ 1 := by
    unfold esx es rsg
    split <;> (repeat' split) <;> omega
  split
  · omega
  · split <;> omega
theorem product6_any (a b : Int) (g1 : Bool) (A1 : Option Addr) (n1 c1 : Nat) (B1 : Option Addr) (m1 d1 : Nat) (g2 : Bool) (A2 : Option Addr) (n2 c2 : Nat) (B2 : Option Addr) (m2 d2 : Nat) (w : World) (h1 : RatV w 34 g1 (.slice A1 n1 c1) (.slice B1 m1 d1) (ex a)) (h2 : RatV w 34 g2 (.slice A2 n2 c2) (.slice B2 m2 d2) (ex b)) (ha : -(M : Int) ≤ a ∧ a ≤ M) (hb : 0 ≤ b ∧ b ≤ M) :
    Calls Tryz.prog 173 #[.agg #[.int .i64 (es a), .bool g1, .slice A1 n1 c1, .slice B1 m1 d1], .agg #[.int .i64 (es b), .bool g2, .slice A2 n2 c2, .slice B2 m2 d2]] w (NewBd w 68 (prb a b).1 (prb a b).2.1 1 (prb a b).2.2) := by
  have hM : (M : Int) = 9218868437227405312 := rfl
  have S1 := fun W (hW : Below w.heap.size w W) => sign6_any 34 (es a) g1 A1 n1 c1 B1 m1 d1 (ex a) W (h1.below hW) (by omega)
  have S2 := fun W (hW : Below w.heap.size w W) => sign6_any 34 (es b) g2 A2 n2 c2 B2 m2 d2 (ex b) W (h2.below hW) (by omega)
  have v1 := esx_val ha
  have v2 := esx_val (i := b) (by omega)
  rcases prb_kind (a := a) (b := b) hb.1 with ⟨k, e⟩ | ⟨k0, k, e⟩ | ⟨k0, k, k2, e⟩ | ⟨k0, k, k2, k3, e⟩
  · rw [e]
    rw [if_neg (by omega), if_neg (by omega)] at v1
    rw [v1] at S1
    exact (prod6_zero _ _ _ _ _ _ _ _ _ _ _ _ _ _ _ _ w S1).mono fun _ _ h => h.up (by omega)
  · rw [e]
    rw [if_neg (by omega), if_neg (by omega)] at v2
    rw [v2] at S2
    have hz : (esx (es a) (ex a) == 0) = false := by
      rw [v1]; by_cases p : 0 < a
      · rw [if_pos p]; rfl
      · rw [if_neg p, if_pos (by omega)]; rfl
    exact (prod6_open _ _ _ _ _ _ _ _ _ _ _ _ _ _ _ _ _ w S1 hz S2).mono fun _ _ h => h.up (by omega)
  · rw [e]
    have hz : (esx (es a) (ex a) == 0) = false := by
      rw [v1]; by_cases p : 0 < a
      · rw [if_pos p]; rfl
      · rw [if_neg p, if_pos (by omega)]; rfl
    have hz2 : (esx (es b) (ex b) == 0) = false := by rw [v2, if_pos k]; rfl
    have ev : esx (es a) (ex a) = if 0 < a then 1 else -1 := by
      rw [v1]; by_cases p : 0 < a
      · rw [if_pos p, if_pos p]
      · rw [if_neg p, if_neg p, if_pos (by omega)]
    obtain ⟨a1, ea1⟩ : ∃ z, esx (es a) (ex a) = z := ⟨_, rfl⟩
    obtain ⟨a2, ea2⟩ : ∃ z, esx (es b) (ex b) = z := ⟨_, rfl⟩
    rw [ea1] at S1 hz ev
    rw [ea2] at S2 hz2
    dsimp only
    rw [← ev]
    by_cases p : es a = 0
    · have q : es b = 1 := by
        rcases k2 with k2 | k2
        · exact absurd p k2
        · unfold es at k2 ⊢
          split at k2
          · rename_i hh; rw [if_pos hh]
          · split at k2
            · omega
            · exact absurd rfl k2
      rw [p] at S1 ⊢
      rw [q] at S2 ⊢
      exact (prod6_farc _ _ _ _ _ _ _ _ _ _ _ _ _ _ _ _ w S1 hz S2 hz2).mono fun _ _ h => h.up (by omega)
    · have q : es a = 1 ∨ es a = -1 := by rcases es3 a with h | h | h <;> omega
      rcases q with q | q
      · rw [q] at S1 ⊢
        exact (prod6_fara _ _ _ _ _ _ _ _ _ _ _ _ _ _ _ _ _ w S1 hz S2 hz2).mono fun _ _ h => h.up (by omega)
      · rw [q] at S1 ⊢
        exact (prod6_farb _ _ _ _ _ _ _ _ _ _ _ _ _ _ _ _ _ w S1 hz S2 hz2).mono fun _ _ h => h.up (by omega)
  · rw [e]
    have hz : (esx (es a) (ex a) == 0) = false := by
      rw [v1]; by_cases p : 0 < a
      · rw [if_pos p]; rfl
      · rw [if_neg p, if_pos (by omega)]; rfl
    have hz2 : (esx (es b) (ex b) == 0) = false := by rw [v2, if_pos k]; rfl
    have HM := fun W (hW : Below w.heap.size w W) => (rmul_v 34 g1 (.slice A1 n1 c1) (.slice B1 m1 d1) (ex a) g2 (.slice A2 n2 c2) (.slice B2 m2 d2) (ex b) W (h1.below hW) (h2.below hW) (by omega) (by omega)).mono fun _ _ h => h.s
    rw [k2] at S1 hz
    rw [k3] at S2 hz2
    rw [ex_zero k2, ex_zero k3] at HM
    rw [k2, k3]
    exact prod6_fin _ _ _ _ _ _ _ _ _ _ _ _ _ _ _ _ 68 _ w S1 hz S2 hz2 HM
theorem products_any (u v : Value) (i2 j2 i1 j1 : Int) (w : World) (hu : SetOf w u i2 j2) (hv : SetOf w v i1 j1) :
    Calls Tryz.prog 113 #[u, v] w (NewPcV w (FV i1 j1 i2 j2)) := by
  have hM : (M : Int) = 9218868437227405312 := rfl
  have none : j1 ≤ 0 ∨ j2 < i2 → FV i1 j1 i2 j2 = fun _ _ => ((M : Int), -(M : Int)) := fun h => by funext i j; unfold FV; rw [if_pos h]
  obtain ⟨o2, z3, g3, A3, n3, c3, B3, m3, d3, z4, g4, A4, n4, c4, B4, m4, d4, rfl, U2⟩ := upper_cases hv
  rcases hu with ⟨rfl, rfl, s, x, t, y, g, A, n, c, B, m, d, g', A', n', c', B', m', d', rfl, h4, h5⟩ | ⟨h1, g, A, n, c, B, m, d, g', A', n', c', B', m', d', rfl, h4, h5⟩
  · rw [none (.inr (by omega))]
    rcases U2 with ⟨k2, U2⟩ | ⟨n2', k2, U2⟩
    · exact (products_none 34 _ _ _ _ _ _ _ _ _ _ _ _ _ _ _ _ _ _ _ _ _ _ _ _ _ _ _ _ _ _ _ _ _ _ _ _ _ _ _ w U2 (.inl rfl)).mono fun _ _ h => newPiece_none h (by omega)
    · exact (products_none 34 _ _ _ _ _ _ _ _ _ _ _ _ _ _ _ _ _ _ _ _ _ _ _ _ _ _ _ _ _ _ _ _ _ _ _ _ _ _ _ w U2 (.inl rfl)).mono fun _ _ h => newPiece_none h (by omega)
  · rcases U2 with ⟨k2, U2⟩ | ⟨n1, k2, U2⟩
    · rw [none (.inl k2)]
      exact (products_none 34 _ _ _ _ _ _ _ _ _ _ _ _ _ _ _ _ _ _ _ _ _ _ _ _ _ _ _ _ _ _ _ _ _ _ _ _ _ _ _ w U2 (.inr ⟨rfl, rfl⟩)).mono fun _ _ h => newPiece_none h (by omega)
    · have n2 : Ne i2 j2 := h1
      have e : FV i1 j1 i2 j2 = pf (vdA i1 j1 i2).1 (vdA i1 j1 i2).2.1 (vdA i1 j1 i2).2.2 (vdB i1 j1 j2).1 (vdB i1 j1 j2).2.1 (vdB i1 j1 j2).2.2 := by
        funext i j; unfold FV; rw [if_neg (by omega)]
      rw [e]
      have le := vd_le n1 n2 k2
      have kA := (vdA_kind n1 k2 (i2 := i2) (by omega)).1
      have kB := (vdB_kind n1 k2 (j2 := j2) (by omega)).1
      have n1' := n1
      unfold Ne at n1'
      have v1 := esx_val (i := i2) (by omega)
      have v2 := esx_val (i := j2) (by omega)
      refine (products_some 34 68 _ _ _ _ _ _ _ _ _ _ _ _ _ _ _ _ _ _ _ _ _ _ _ _ _ _ _ _ _ _ _ _ _ _ _ _ _ _ _ _ _ (decide (0 < i2)) (decide (j2 < 0)) (prb i2 j1).1 (prb j2 j1).1 (vdA i1 j1 i2).1 (vdB i1 j1 j2).1 (prb i2 j1).2.1 (prb j2 j1).2.1 (vdA i1 j1 i2).2.1 (vdB i1 j1 j2).2.1 (prb i2 j1).2.2 (prb j2 j1).2.2 (vdA i1 j1 i2).2.2 (vdB i1 j1 j2).2.2 w h4 h5 U2 (fun W g A n c B m d h => sign6_any 34 (es i2) g A n c B m d (ex i2) W h (by omega)) (fun W g A n c B m d h => sign6_any 34 (es j2) g A n c B m d (ex j2) W h (by omega)) ?_ ?_
        (fun W g A n c B m d g' A' n' c' B' m' d' a b => product6_any i2 j1 g A n c B m d g' A' n' c' B' m' d' W a b (by omega) (by omega))
        (fun W g A n c B m d g' A' n' c' B' m' d' a b => product6_any j2 j1 g A n c B m d g' A' n' c' B' m' d' W a b (by omega) (by omega))
        (fun h W g A n c B m d g' A' n' c' B' m' d' a b => ?_) (fun h => ?_) (fun h W g A n c B m d g' A' n' c' B' m' d' a b => ?_) (fun h => ?_)).mono fun _ _ h => newPiece_some h (by omega) (by omega) kA kB le
      · rw [v1]
        by_cases p : 0 < i2
        · rw [if_pos p]; exact .inl ⟨rfl, decide_eq_true p⟩
        · rw [if_neg p]
          by_cases q : i2 < 0
          · rw [if_pos q]; exact .inr (.inr ⟨rfl, decide_eq_false p⟩)
          · rw [if_neg q]; exact .inr (.inl ⟨rfl, decide_eq_false p⟩)
      · rw [v2]
        by_cases p : 0 < j2
        · rw [if_pos p]; exact .inl ⟨rfl, decide_eq_false (by omega)⟩
        · rw [if_neg p]
          by_cases q : j2 < 0
          · rw [if_pos q]; exact .inr (.inr ⟨rfl, decide_eq_true q⟩)
          · rw [if_neg q]; exact .inr (.inl ⟨rfl, decide_eq_false q⟩)
      · have p := of_decide_eq_true h
        have e : vdA i1 j1 i2 = prb i2 (max i1 0) := if_pos p
        rw [e]
        exact product6_any i2 (max i1 0) g A n c B m d g' A' n' c' B' m' d' W a b (by omega) (by omega)
      · have p := of_decide_eq_false h
        have e : vdA i1 j1 i2 = prb i2 j1 := if_neg p
        rw [e]; exact ⟨rfl, rfl, rfl⟩
      · have p := of_decide_eq_true h
        have e : vdB i1 j1 j2 = prb j2 (max i1 0) := if_pos p
        rw [e]
        exact product6_any j2 (max i1 0) g A n c B m d g' A' n' c' B' m' d' W a b (by omega) (by omega)
      · have p := of_decide_eq_false h
        have e : vdB i1 j1 j2 = prb j2 j1 := if_neg p
        rw [e]; exact ⟨rfl, rfl, rfl⟩
theorem refdiv1_any (b1 b2 c1 c2 x y : Nat) (w : World) (hb1 : b1 < 18446744073709551616) (hb2 : b2 < 18446744073709551616) (hc1 : c1 < 18446744073709551616) (hc2 : c2 < 18446744073709551616) (hx : x < 18446744073709551616) (hy : y < 18446744073709551616) :
    Calls Tryz.prog 41 #[.agg #[.int .u64 (b1 : Int), .int .u64 (b2 : Int)], .agg #[.int .u64 (c1 : Int), .int .u64 (c2 : Int)], .agg #[.int .u64 (x : Int), .int .u64 (y : Int)]] w fun e w' =>
      e = .returned (.agg #[.int .u64 (pat (zg (rd x y).1 (rd x y).2 (L2 (FV (rd b1 b2).1 (rd b1 b2).2 (rd c1 c2).1 (rd c1 c2).2) (ngF (FV (-(rd b1 b2).2) (-(rd b1 b2).1) (rd c1 c2).1 (rd c1 c2).2))) 2).1 : Int), .int .u64 (pat (zg (rd x y).1 (rd x y).2 (L2 (FV (rd b1 b2).1 (rd b1 b2).2 (rd c1 c2).1 (rd c1 c2).2) (ngF (FV (-(rd b1 b2).2) (-(rd b1 b2).1) (rd c1 c2).1 (rd c1 c2).2))) 2).2 : Int)]) ∧ Below w.heap.size w w' :=
  refdiv1_walk b1 b2 c1 c2 x y _ _ _ _ _ _ _ _ _ w hx hy (fun W => of_i c1 c2 W hc1 hc2) (fun W => of_i b1 b2 W hb1 hb2) (fun W v h => minus_i v _ _ W h) (fun W u v h1 h2 => products_any u v _ _ _ _ W h1 h2) (fun W u v h1 h2 => products_any u v _ _ _ _ W h1 h2) rfl rfl
def L4 (A B C D : Int → Int → Int × Int) : Nat → Int → Int → Int × Int | 0 => A | 1 => B | 2 => C | _ => D
theorem zero_i (v : Value) (i j : Int) (w : World) (h : SetOf w v i j) : Calls Tryz.prog 85 #[v] w fun e w' => e = .returned (.bool (decide (i ≤ j ∧ i ≤ 0 ∧ 0 ≤ j))) ∧ Below w.heap.size w w' := by
  have hM : (M : Int) = 9218868437227405312 := rfl
  rcases h with ⟨rfl, rfl, s, x, t, y, g, A, n, c, B, m, d, g', A', n', c', B', m', d', rfl, h4, h5⟩ | ⟨h1, g, A, n, c, B, m, d, g', A', n', c', B', m', d', rfl, h4, h5⟩
  · rw [decide_eq_false (show ¬ ((M : Int) ≤ -(M : Int) ∧ (M : Int) ≤ 0 ∧ 0 ≤ -(M : Int)) by omega)]
    exact zero_any 34 true s g A n c B m d x t g' A' n' c' B' m' d' y w h4 h5 (by omega)
  · have e1 := esx_idx (i := i) (by omega)
    have e2 := esx_idx (i := j) (by omega)
    have hz := zero_any 34 false (es i) g A n c B m d (ex i) (es j) g' A' n' c' B' m' d' (ex j) w h4 h5 (by omega)
    have e : (!false && decide (esx (es i) (ex i) ≤ 0) && decide (0 ≤ esx (es j) (ex j))) = decide (i ≤ j ∧ i ≤ 0 ∧ 0 ≤ j) := by
      rw [Bool.eq_iff_iff]; simp only [Bool.not_false, Bool.true_and, Bool.and_eq_true, decide_eq_true_eq]; omega
    rw [e] at hz
    exact hz
def rr2 (i1 j1 i2 j2 i j : Int) : Int × Int :=
  if (i1 ≤ j1 ∧ i1 ≤ 0 ∧ 0 ≤ j1) ∧ (i2 ≤ j2 ∧ i2 ≤ 0 ∧ 0 ≤ j2) then zg i j (L2 (pf (-1) 0 true 0 0 true) (pf 0 0 true 1 0 true)) 2
  else zg i j (L4 (FD i1 j1 i2 j2) (FD (-j1) (-i1) (-j2) (-i2)) (ngF (FD (-j1) (-i1) i2 j2)) (ngF (FD i1 j1 (-j2) (-i2)))) 4
theorem refdiv2_any (b1 b2 c1 c2 x y : Nat) (w : World) (hb1 : b1 < 18446744073709551616) (hb2 : b2 < 18446744073709551616) (hc1 : c1 < 18446744073709551616) (hc2 : c2 < 18446744073709551616) (hx : x < 18446744073709551616) (hy : y < 18446744073709551616) :
    Calls Tryz.prog 43 #[.agg #[.int .u64 (b1 : Int), .int .u64 (b2 : Int)], .agg #[.int .u64 (c1 : Int), .int .u64 (c2 : Int)], .agg #[.int .u64 (x : Int), .int .u64 (y : Int)]] w fun e w' =>
      e = .returned (.agg #[.int .u64 (pat (rr2 (rd b1 b2).1 (rd b1 b2).2 (rd c1 c2).1 (rd c1 c2).2 (rd x y).1 (rd x y).2).1 : Int), .int .u64 (pat (rr2 (rd b1 b2).1 (rd b1 b2).2 (rd c1 c2).1 (rd c1 c2).2 (rd x y).1 (rd x y).2).2 : Int)]) ∧ Below w.heap.size w w' := by
  unfold rr2
  by_cases hz : ((rd b1 b2).1 ≤ (rd b1 b2).2 ∧ (rd b1 b2).1 ≤ 0 ∧ 0 ≤ (rd b1 b2).2) ∧ ((rd c1 c2).1 ≤ (rd c1 c2).2 ∧ (rd c1 c2).1 ≤ 0 ∧ 0 ≤ (rd c1 c2).2)
  · rw [if_pos hz]
    have Z1 := fun W v h => zero_i v (rd b1 b2).1 (rd b1 b2).2 W h
    have Z2 := fun W v h => zero_i v (rd c1 c2).1 (rd c1 c2).2 W h
    rw [decide_eq_true hz.1] at Z1
    rw [decide_eq_true hz.2] at Z2
    exact refdiv2_zero b1 b2 c1 c2 x y _ _ _ _ _ w hx hy (fun W => of_i b1 b2 W hb1 hb2) (fun W => of_i c1 c2 W hc1 hc2) Z1 Z2 rfl rfl
  · rw [if_neg hz]
    refine refdiv2_some b1 b2 c1 c2 x y _ _ _ _ _ _ _ _ _ _ _ _ _ _ _ w hx hy (fun W => of_i b1 b2 W hb1 hb2) (fun W => of_i c1 c2 W hc1 hc2) (fun W v h => zero_i v _ _ W h) (fun W v h => zero_i v _ _ W h) ?_ (fun W v h => minus_i v _ _ W h) (fun W v h => minus_i v _ _ W h)
      (fun W u v h1 h2 => divisors_any u v _ _ _ _ W h1 h2) (fun W u v h1 h2 => divisors_any u v _ _ _ _ W h1 h2) (fun W u v h1 h2 => divisors_any u v _ _ _ _ W h1 h2) (fun W u v h1 h2 => divisors_any u v _ _ _ _ W h1 h2) rfl rfl rfl rfl
    by_cases h1 : (rd b1 b2).1 ≤ (rd b1 b2).2 ∧ (rd b1 b2).1 ≤ 0 ∧ 0 ≤ (rd b1 b2).2
    · exact .inr ⟨decide_eq_true h1, decide_eq_false fun h => hz ⟨h1, h⟩⟩
    · exact .inl (decide_eq_false h1)
end Go.Proofs.YtmjkmoahkanblaaGreat

namespace Go.Proofs.YtmjkmoahkanblaaGreat
open Go.RowKit
theorem FV_none1 {i1 j1 i2 j2 i j : Int} (h : j1 ≤ 0) : FV i1 j1 i2 j2 i j = ((M : Int), -(M : Int)) := by unfold FV; rw [if_pos (.inl h)]
theorem FV_none2 {i1 j1 i2 j2 i j : Int} (h : j2 < i2) : FV i1 j1 i2 j2 i j = ((M : Int), -(M : Int)) := by unfold FV; rw [if_pos (.inr h)]
theorem FV_nonex {i1 j1 i2 j2 i j : Int} (h : j < i) : FV i1 j1 i2 j2 i j = ((M : Int), -(M : Int)) := by
  unfold FV
  by_cases h0 : j1 ≤ 0 ∨ j2 < i2
  · rw [if_pos h0]
  · rw [if_neg h0]; unfold pf; rw [if_pos h]
theorem FDx_none1 {i1 j1 i2 j2 i j : Int} (h : j1 ≤ 0) : FD i1 j1 i2 j2 i j = ((M : Int), -(M : Int)) := by unfold FD; rw [if_pos (.inl h)]
theorem FDx_none2 {i1 j1 i2 j2 i j : Int} (h : j2 ≤ 0) : FD i1 j1 i2 j2 i j = ((M : Int), -(M : Int)) := by unfold FD; rw [if_pos (.inr h)]
theorem FDx_nonex {i1 j1 i2 j2 i j : Int} (h : j < i) : FD i1 j1 i2 j2 i j = ((M : Int), -(M : Int)) := by
  unfold FD
  by_cases h0 : j1 ≤ 0 ∨ j2 ≤ 0
  · rw [if_pos h0]
  · rw [if_neg h0]; unfold pf; rw [if_pos h]
theorem ngF_none {F : Int → Int → Int × Int} {i j : Int} (h : F (-j) (-i) = ((M : Int), -(M : Int))) : ngF F i j = ((M : Int), -(M : Int)) := by unfold ngF; rw [h]; simp
theorem dr1_law {i1 j1 i2 j2 i j : Int} (h1 : Iv i1 j1) (h2 : Iv i2 j2) (hx : Iv i j) : dr1 i1 j1 i2 j2 i j = zg i j (L2 (FV i1 j1 i2 j2) (ngF (FV (-j1) (-i1) i2 j2))) 2 := by
  have hM : (M : Int) = 9218868437227405312 := rfl
  by_cases hno : j1 < i1 ∨ j2 < i2 ∨ j < i
  · have a : FV i1 j1 i2 j2 i j = ((M : Int), -(M : Int)) := by
      rcases hno with h | h | h
      · unfold Iv at h1; exact FV_none1 (by omega)
      · exact FV_none2 h
      · exact FV_nonex h
    have b : FV (-j1) (-i1) i2 j2 (-j) (-i) = ((M : Int), -(M : Int)) := by
      rcases hno with h | h | h
      · unfold Iv at h1; exact FV_none1 (by omega)
      · exact FV_none2 h
      · exact FV_nonex (by omega)
    have c := ngF_none b
    rw [zg2 (by rw [a]; exact Iv.none) (by rw [c]; exact Iv.none), a, c]
    unfold dr1
    rw [if_pos hno, Prod.mk.injEq]; dsimp only; omega
  · have n1 := ne_or h1 (by omega)
    have v1 := FV_iv n1 h2 i j hx
    have v2 := FV_iv n1.neg h2 (-j) (-i) hx.negg
    have v3 : Iv (ngF (FV (-j1) (-i1) i2 j2) i j).1 (ngF (FV (-j1) (-i1) i2 j2) i j).2 := v2.negg
    rw [zg2 v1 v3]
    unfold dr1 ngF
    rw [if_neg hno]
theorem zg4 {A B C D : Int → Int → Int × Int} {i j : Int} (h1 : Iv (A i j).1 (A i j).2) (h2 : Iv (B i j).1 (B i j).2) (h3 : Iv (C i j).1 (C i j).2) (h4 : Iv (D i j).1 (D i j).2) :
    zg i j (L4 A B C D) 4 = (min (min (min (A i j).1 (B i j).1) (C i j).1) (D i j).1, max (max (max (A i j).2 (B i j).2) (C i j).2) (D i j).2) := by
  have hM : (M : Int) = 9218868437227405312 := rfl
  have e1 : hl (M : Int) (-(M : Int)) (A i j).1 (A i j).2 = A i j := by unfold hl; rw [if_pos (by omega)]
  show hl (hl (hl (hl (M : Int) (-(M : Int)) (A i j).1 (A i j).2).1 (hl (M : Int) (-(M : Int)) (A i j).1 (A i j).2).2 (B i j).1 (B i j).2).1 (hl (hl (M : Int) (-(M : Int)) (A i j).1 (A i j).2).1 (hl (M : Int) (-(M : Int)) (A i j).1 (A i j).2).2 (B i j).1 (B i j).2).2 (C i j).1 (C i j).2).1 (hl (hl (hl (M : Int) (-(M : Int)) (A i j).1 (A i j).2).1 (hl (M : Int) (-(M : Int)) (A i j).1 (A i j).2).2 (B i j).1 (B i j).2).1 (hl (hl (M : Int) (-(M : Int)) (A i j).1 (A i j).2).1 (hl (M : Int) (-(M : Int)) (A i j).1 (A i j).2).2 (B i j).1 (B i j).2).2 (C i j).1 (C i j).2).2 (D i j).1 (D i j).2 = _
  rw [e1, hl_iv2 h1 h2, hl_iv2 (hull_iv h1 h2) h3, hl_iv2 (hull_iv (hull_iv h1 h2) h3) h4]
theorem dr2_law {i1 j1 i2 j2 i j : Int} (h1 : Iv i1 j1) (h2 : Iv i2 j2) (hx : Iv i j) : dr2 i1 j1 i2 j2 i j = rr2 i1 j1 i2 j2 i j := by
  have hM : (M : Int) = 9218868437227405312 := rfl
  by_cases hno : j1 < i1 ∨ j2 < i2 ∨ j < i
  · have e : dr2 i1 j1 i2 j2 i j = ((M : Int), -(M : Int)) := by unfold dr2; rw [if_pos hno]
    rw [e]
    unfold rr2
    by_cases hz : (i1 ≤ j1 ∧ i1 ≤ 0 ∧ 0 ≤ j1) ∧ (i2 ≤ j2 ∧ i2 ≤ 0 ∧ 0 ≤ j2)
    · rw [if_pos hz]
      have a : pf (-1) 0 true 0 0 true i j = ((M : Int), -(M : Int)) := by unfold pf; rw [if_pos (by omega)]
      have b : pf 0 0 true 1 0 true i j = ((M : Int), -(M : Int)) := by unfold pf; rw [if_pos (by omega)]
      rw [zg2 (by rw [a]; exact Iv.none) (by rw [b]; exact Iv.none), a, b, Prod.mk.injEq]
      dsimp only; omega
    · rw [if_neg hz]
      have fd : ∀ a b c d p q : Int, (b ≤ 0 ∨ d ≤ 0 ∨ q < p) → FD a b c d p q = ((M : Int), -(M : Int)) := fun a b c d p q h => by
        rcases h with h | h | h
        · exact FDx_none1 h
        · exact FDx_none2 h
        · exact FDx_nonex h
      unfold Iv at h1 h2
      have a := fd i1 j1 i2 j2 i j (by omega)
      have b := fd (-j1) (-i1) (-j2) (-i2) i j (by omega)
      have c := ngF_none (F := FD (-j1) (-i1) i2 j2) (fd (-j1) (-i1) i2 j2 (-j) (-i) (by omega))
      have d := ngF_none (F := FD i1 j1 (-j2) (-i2)) (fd i1 j1 (-j2) (-i2) (-j) (-i) (by omega))
      rw [zg4 (by rw [a]; exact Iv.none) (by rw [b]; exact Iv.none) (by rw [c]; exact Iv.none) (by rw [d]; exact Iv.none), a, b, c, d, Prod.mk.injEq]
      dsimp only; omega
  · have n1 := ne_or h1 (by omega)
    have n2 := ne_or h2 (by omega)
    unfold Ne at n1 n2
    unfold dr2 rr2
    rw [if_neg hno]
    by_cases hz : (i1 ≤ 0 ∧ 0 ≤ j1) ∧ (i2 ≤ 0 ∧ 0 ≤ j2)
    · rw [if_pos hz, if_pos (by omega), zg2 (zc1_iv i j hx) (zc2_iv i j hx)]
    · rw [if_neg hz, if_neg (by omega)]
      have v1 := FD_iv n1.2.1 n2.2.1 i j hx
      have v2 := FD_iv (show -j1 ≤ -i1 by omega) (show -j2 ≤ -i2 by omega) i j hx
      have v3 := ngF_iv (fun p q hp => FD_iv (show -j1 ≤ -i1 by omega) n2.2.1 p q hp) i j hx
      have v4 := ngF_iv (fun p q hp => FD_iv n1.2.1 (show -j2 ≤ -i2 by omega) p q hp) i j hx
      rw [zg4 v1 v2 v3 v4]
      unfold ngF
      rw [Prod.mk.injEq]
      dsimp only
      omega
end Go.Proofs.YtmjkmoahkanblaaGreat

namespace Go.Proofs.YtmjkmoahkanblaaGreat
open Go.RowKit
attribute [local go_sem] run_store_float
set_option maxRecDepth 4000 in
theorem divs_law (b1 b2 c1 c2 x y : Nat) (w : World) (hb1 : b1 < 18446744073709551616) (hb2 : b2 < 18446744073709551616) (hc1 : c1 < 18446744073709551616) (hc2 : c2 < 18446744073709551616) (hx : x < 18446744073709551616) (hy : y < 18446744073709551616) :
    Calls Tryz.prog 9 #[.agg #[.int .u64 (b1 : Int), .int .u64 (b2 : Int), .int .u64 (c1 : Int), .int .u64 (c2 : Int), .int .u64 (x : Int), .int .u64 (y : Int)]] w fun e w' => e = .returned (.bool true) ∧ Below w.heap.size w w' := by
  have R1 := Lib.hid fun W => divrev1_any b1 b2 c1 c2 x y W hb1 hb2 hc1 hc2 hx hy
  rw [dr1_law (rd_iv b1 b2) (rd_iv c1 c2) (rd_iv x y)] at R1
  have R2 := Lib.hid fun W => refdiv1_any b1 b2 c1 c2 x y W hb1 hb2 hc1 hc2 hx hy
  have R3 := Lib.hid fun W => divrev2_any b1 b2 c1 c2 x y W hb1 hb2 hc1 hc2 hx hy
  rw [dr2_law (rd_iv b1 b2) (rd_iv c1 c2) (rd_iv x y)] at R3
  have R4 := Lib.hid fun W => refdiv2_any b1 b2 c1 c2 x y W hb1 hb2 hc1 hc2 hx hy
  obtain ⟨A0, ea0⟩ : ∃ z, pat (zg (rd x y).1 (rd x y).2 (L2 (FV (rd b1 b2).1 (rd b1 b2).2 (rd c1 c2).1 (rd c1 c2).2) (ngF (FV (-(rd b1 b2).2) (-(rd b1 b2).1) (rd c1 c2).1 (rd c1 c2).2))) 2).1 = z := ⟨_, rfl⟩
  obtain ⟨B0, eb0⟩ : ∃ z, pat (zg (rd x y).1 (rd x y).2 (L2 (FV (rd b1 b2).1 (rd b1 b2).2 (rd c1 c2).1 (rd c1 c2).2) (ngF (FV (-(rd b1 b2).2) (-(rd b1 b2).1) (rd c1 c2).1 (rd c1 c2).2))) 2).2 = z := ⟨_, rfl⟩
  rw [ea0, eb0] at R1 R2
  have O1 := Lib.hid fun W => law_out A0 B0 W
  obtain ⟨A1, ea1⟩ : ∃ z, pat (rr2 (rd b1 b2).1 (rd b1 b2).2 (rd c1 c2).1 (rd c1 c2).2 (rd x y).1 (rd x y).2).1 = z := ⟨_, rfl⟩
  obtain ⟨B1, eb1⟩ : ∃ z, pat (rr2 (rd b1 b2).1 (rd b1 b2).2 (rd c1 c2).1 (rd c1 c2).2 (rd x y).1 (rd x y).2).2 = z := ⟨_, rfl⟩
  rw [ea1, eb1] at R3 R4
  have O2 := Lib.hid fun W => law_out A1 B1 W
  have I1 := Lib.hid fun W => law_in b1 b2 W
  have I2 := Lib.hid fun W => law_in c1 c2 W
  have I3 := Lib.hid fun W => law_in x y W
  clear ea0 eb0 ea1 eb1 hb1 hb2 hc1 hc2 hx hy
  obtain ⟨LB0, LG0_0⟩ := bx1 w #[.int .u64 (b1 : Int), .int .u64 (b2 : Int), .int .u64 (c1 : Int), .int .u64 (c2 : Int), .int .u64 (x : Int), .int .u64 (y : Int)] 26
  go_enter Tryz.func9, Tryz.ntmps9
  obtain ⟨q0_0, q0_1, q0_2, q0_3, q0_4, q0_5⟩ := LG0_0.out.c6
  go_wp2_with fail
  refine (I1.out _).mono ?_
  rintro e w1 ⟨rfl, hb0⟩
  have LB1 := stB LB0 hb0 LB0.out.size
  have LG0_1 := stG LG0_0 hb0
  clear LB0 LG0_0
  clear hb0 q0_0 q0_1 q0_2 q0_3 q0_4 q0_5
  go_upto_region 2 with fail
  have LB2 := Lib.hid (LB1.out.alloc LB1.out.size (.cells #[.float .f64 b1, .float .f64 b2] 29))
  have LG0_2 := Lib.hid (LG0_1.out.alloc (.cells #[.float .f64 b1, .float .f64 b2] 29))
  have LG1_2 := Lib.hid (Blk.new w1 29 #[.float .f64 b1, .float .f64 b2])
  clear LB1 LG0_1
  obtain ⟨V1, hV1⟩ : ∃ X, (w1.alloc (.cells #[.float .f64 b1, .float .f64 b2] 29)) = X := ⟨_, rfl⟩
  rw [hV1] at LB2 LG0_2 LG1_2 ⊢
  clear hV1
  obtain ⟨q0_0, q0_1, q0_2, q0_3, q0_4, q0_5⟩ := LG0_2.out.c6
  go_wp2_with fail
  refine (I2.out _).mono ?_
  rintro e w2 ⟨rfl, hb1⟩
  have LB3 := stB LB2 hb1 LB2.out.size
  have LG0_3 := stG LG0_2 hb1
  have LG1_3 := stG LG1_2 hb1
  clear LB2 LG0_2 LG1_2
  clear hb1 q0_0 q0_1 q0_2 q0_3 q0_4 q0_5
  go_upto_region 3 with fail
  have LB4 := Lib.hid (LB3.out.alloc LB3.out.size (.cells #[.float .f64 c1, .float .f64 c2] 29))
  have LG0_4 := Lib.hid (LG0_3.out.alloc (.cells #[.float .f64 c1, .float .f64 c2] 29))
  have LG1_4 := Lib.hid (LG1_3.out.alloc (.cells #[.float .f64 c1, .float .f64 c2] 29))
  have LG2_4 := Lib.hid (Blk.new w2 29 #[.float .f64 c1, .float .f64 c2])
  clear LB3 LG0_3 LG1_3
  obtain ⟨V2, hV2⟩ : ∃ X, (w2.alloc (.cells #[.float .f64 c1, .float .f64 c2] 29)) = X := ⟨_, rfl⟩
  rw [hV2] at LB4 LG0_4 LG1_4 LG2_4 ⊢
  clear hV2
  obtain ⟨q0_0, q0_1, q0_2, q0_3, q0_4, q0_5⟩ := LG0_4.out.c6
  go_wp2_with fail
  refine (I3.out _).mono ?_
  rintro e w3 ⟨rfl, hb2⟩
  have LB5 := stB LB4 hb2 LB4.out.size
  have LG0_5 := stG LG0_4 hb2
  have LG1_5 := stG LG1_4 hb2
  have LG2_5 := stG LG2_4 hb2
  clear LB4 LG0_4 LG1_4 LG2_4
  clear hb2 q0_0 q0_1 q0_2 q0_3 q0_4 q0_5
  go_upto_region 4 with fail
  have LB6 := Lib.hid (LB5.out.alloc LB5.out.size (.cells #[.float .f64 x, .float .f64 y] 29))
  have LG0_6 := Lib.hid (LG0_5.out.alloc (.cells #[.float .f64 x, .float .f64 y] 29))
  have LG1_6 := Lib.hid (LG1_5.out.alloc (.cells #[.float .f64 x, .float .f64 y] 29))
  have LG2_6 := Lib.hid (LG2_5.out.alloc (.cells #[.float .f64 x, .float .f64 y] 29))
  have LG3_6 := Lib.hid (Blk.new w3 29 #[.float .f64 x, .float .f64 y])
  clear LB5 LG0_5 LG1_5 LG2_5
  obtain ⟨V3, hV3⟩ : ∃ X, (w3.alloc (.cells #[.float .f64 x, .float .f64 y] 29)) = X := ⟨_, rfl⟩
  rw [hV3] at LB6 LG0_6 LG1_6 LG2_6 LG3_6 ⊢
  clear hV3
  refine wp_region_held_drew (S := fun W' => Blk W' w.heap.size 26 #[.int .u64 (b1 : Int), .int .u64 (b2 : Int), .int .u64 (c1 : Int), .int .u64 (c2 : Int), .int .u64 (x : Int), .int .u64 (y : Int)] ∧ Blk W' w1.heap.size 29 #[.float .f64 b1, .float .f64 b2] ∧ Blk W' w2.heap.size 29 #[.float .f64 c1, .float .f64 c2] ∧ Blk W' w3.heap.size 29 #[.float .f64 x, .float .f64 y] ∧ Below w.heap.size w W') (by kernel_rfl) (by exact ⟨LG0_6.out.drew, LG1_6.out.drew, LG2_6.out.drew, LG3_6.out.drew, LB6.out.drew⟩) (fun hHeld => ?_)
  refine tk 0 ?_ (hv := by intro W2 hSw; obtain ⟨q0, q1⟩ := hSw.2.1.c2; go_simp; (try with_reducible rfl))
  try simp only [Act.put, lay]
  refine tk 1 ?_ (hv := by intro W2 hSw; obtain ⟨q0, q1⟩ := hSw.2.2.1.c2; go_simp; (try with_reducible rfl))
  try simp only [Act.put, lay]
  refine tk 2 ?_ (hv := by intro W2 hSw; obtain ⟨q0, q1⟩ := hSw.2.2.2.1.c2; go_simp; (try with_reducible rfl))
  try simp only [Act.put, lay]
  refine tk 5 ?_
  try simp only [Act.put, lay]
  refine tk 6 ?_ (hv := by intro W2 hSw; obtain ⟨q0, q1, q2, q3, q4, q5⟩ := hSw.1.c6; go_simp; (try with_reducible rfl))
  try simp only [Act.put, lay]
  refine tk 7 ?_
  try simp only [Act.put, lay]
  refine tk 8 ?_ (hv := by intro W2 hSw; obtain ⟨q0, q1, q2, q3, q4, q5⟩ := hSw.1.c6; go_simp; (try with_reducible rfl))
  try simp only [Act.put, lay]
  refine tk 9 ?_
  try simp only [Act.put, lay]
  refine tk 10 ?_ (hv := by intro W2 hSw; obtain ⟨q0, q1, q2, q3, q4, q5⟩ := hSw.1.c6; go_simp; (try with_reducible rfl))
  try simp only [Act.put, lay]
  refine rdy 3 (fun KK hKK => ?_)
  go_simp
  refine (R1.out _).mono ?_
  rintro e wa ⟨rfl, hba⟩
  go_wp2_with fail
  refine hKK.out _ _ (⟨hHeld.1.keep hba, hHeld.2.1.keep hba, hHeld.2.2.1.keep hba, hHeld.2.2.2.1.keep hba, hHeld.2.2.2.2.trans (hba.mono hHeld.2.2.2.2.size)⟩) (fun _ => ?_)
  clear hKK KK hHeld; rename_i hHeld
  try simp only [Act.put, lay]
  refine rdy 4 (fun KK hKK => ?_)
  go_simp
  refine (O1.out _).mono ?_
  rintro e wb ⟨rfl, hbb⟩
  go_wp2_with fail
  refine hKK.out _ _ (⟨hHeld.1.keep hbb, hHeld.2.1.keep hbb, hHeld.2.2.1.keep hbb, hHeld.2.2.2.1.keep hbb, hHeld.2.2.2.2.trans (hbb.mono hHeld.2.2.2.2.size)⟩) (fun _ => ?_)
  clear hKK KK hHeld; rename_i hHeld
  try simp only [Act.put, lay]
  refine rdy 11 (fun KK hKK => ?_)
  go_simp
  refine (R2.out _).mono ?_
  rintro e wc ⟨rfl, hbc⟩
  go_wp2_with fail
  refine hKK.out _ _ (⟨hHeld.1.keep hbc, hHeld.2.1.keep hbc, hHeld.2.2.1.keep hbc, hHeld.2.2.2.1.keep hbc, hHeld.2.2.2.2.trans (hbc.mono hHeld.2.2.2.2.size)⟩) (fun _ => ?_)
  clear hKK KK hHeld; rename_i hHeld
  try simp only [Act.put, lay]
  refine tk 12 ?_
  try simp only [Act.put, lay]
  refine tk 13 ?_
  try simp only [Act.put, lay]
  refine tk 14 ?_ (hv := by intro W2 hSw; obtain ⟨q0, q1⟩ := hSw.2.1.c2; go_simp; (try with_reducible rfl))
  try simp only [Act.put, lay]
  refine tk 15 ?_ (hv := by intro W2 hSw; obtain ⟨q0, q1⟩ := hSw.2.2.1.c2; go_simp; (try with_reducible rfl))
  try simp only [Act.put, lay]
  refine tk 16 ?_ (hv := by intro W2 hSw; obtain ⟨q0, q1⟩ := hSw.2.2.2.1.c2; go_simp; (try with_reducible rfl))
  try simp only [Act.put, lay]
  refine tk 19 ?_
  try simp only [Act.put, lay]
  refine tk 20 ?_ (hv := by intro W2 hSw; obtain ⟨q0, q1, q2, q3, q4, q5⟩ := hSw.1.c6; go_simp; (try with_reducible rfl))
  try simp only [Act.put, lay]
  refine tk 21 ?_
  try simp only [Act.put, lay]
  refine tk 22 ?_ (hv := by intro W2 hSw; obtain ⟨q0, q1, q2, q3, q4, q5⟩ := hSw.1.c6; go_simp; (try with_reducible rfl))
  try simp only [Act.put, lay]
  refine tk 23 ?_
  try simp only [Act.put, lay]
  refine tk 24 ?_ (hv := by intro W2 hSw; obtain ⟨q0, q1, q2, q3, q4, q5⟩ := hSw.1.c6; go_simp; (try with_reducible rfl))
  try simp only [Act.put, lay]
  refine rdy 17 (fun KK hKK => ?_)
  go_simp
  refine (R3.out _).mono ?_
  rintro e wd ⟨rfl, hbd⟩
  go_wp2_with fail
  refine hKK.out _ _ (⟨hHeld.1.keep hbd, hHeld.2.1.keep hbd, hHeld.2.2.1.keep hbd, hHeld.2.2.2.1.keep hbd, hHeld.2.2.2.2.trans (hbd.mono hHeld.2.2.2.2.size)⟩) (fun _ => ?_)
  clear hKK KK hHeld; rename_i hHeld
  try simp only [Act.put, lay]
  refine rdy 18 (fun KK hKK => ?_)
  go_simp
  refine (O2.out _).mono ?_
  rintro e we ⟨rfl, hbe⟩
  go_wp2_with fail
  refine hKK.out _ _ (⟨hHeld.1.keep hbe, hHeld.2.1.keep hbe, hHeld.2.2.1.keep hbe, hHeld.2.2.2.1.keep hbe, hHeld.2.2.2.2.trans (hbe.mono hHeld.2.2.2.2.size)⟩) (fun _ => ?_)
  clear hKK KK hHeld; rename_i hHeld
  try simp only [Act.put, lay]
  refine rdy 25 (fun KK hKK => ?_)
  go_simp
  refine (R4.out _).mono ?_
  rintro e wf ⟨rfl, hbf⟩
  go_wp2_with fail
  refine hKK.out _ _ (⟨hHeld.1.keep hbf, hHeld.2.1.keep hbf, hHeld.2.2.1.keep hbf, hHeld.2.2.2.1.keep hbf, hHeld.2.2.2.2.trans (hbf.mono hHeld.2.2.2.2.size)⟩) (fun _ => ?_)
  clear hKK KK hHeld; rename_i hHeld
  try simp only [Act.put, lay]
  refine tk 26 ?_
  try simp only [Act.put, lay]
  refine tk 27 ?_
  try simp only [Act.put, lay]
  refine tk 28 ?_
  try simp only [Act.put, lay]
  refine wpAnyH_done (by kernel_rfl) ?_ _
  have HF := Lib.hid hHeld.2.2.2.2
  clear hHeld hba hbb hbc hbd hbe hbf R1 R2 R3 R4 O1 O2 I1 I2 I3
  go_wp2
  go_ret
  exact ⟨rfl, HF.out⟩
end Go.Proofs.YtmjkmoahkanblaaGreat
