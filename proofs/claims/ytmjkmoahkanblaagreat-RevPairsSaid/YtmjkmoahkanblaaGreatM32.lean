/-
What the reference's quotients, factors and MulRev answer, by indexes.
-/
import Derived.Test.YtmjkmoahkanblaaGreatM28
import Derived.Test.YtmjkmoahkanblaaGreatM30
import Derived.Test.YtmjkmoahkanblaaGreatM31
set_option linter.unusedSimpArgs false
set_option linter.unusedVariables false
set_option maxHeartbeats 12800000

namespace Go.Proofs.YtmjkmoahkanblaaGreat
open Go.RowKit
theorem esx_idx {i : Int} (h : -(M : Int) ≤ i ∧ i ≤ M) : (0 < esx (es i) (ex i) ↔ 0 < i) ∧ (esx (es i) (ex i) < 0 ↔ i < 0) := by
  have hM : (M : Int) = 9218868437227405312 := rfl
  by_cases h1 : i = M
  · subst h1; rw [es_max]; unfold esx; rw [if_pos (by omega)]; omega
  · by_cases h2 : i = -(M : Int)
    · subst h2; rw [es_min]; unfold esx; rw [if_pos (by omega)]; omega
    · rw [es_mid (by omega) (by omega), ex_mid (by omega) (by omega)]
      unfold esx rsg
      rw [if_neg (by omega)]
      rcases Int.lt_trichotomy i 0 with h3 | h3 | h3
      · have := fl_lt_iff.2 h3
        rw [fl_zero] at this
        rw [if_neg (by grind), if_pos this]; omega
      · subst h3; rw [fl_zero]; simp
      · have := fl_pos h3
        rw [if_neg (by grind), if_neg (by grind)]; omega
theorem up_end {b : Int} (h : -(M : Int) ≤ b ∧ b ≤ M) : (if 0 < ec 0 0 (es b) (ex b) then 0 else es b) = es (max b 0) ∧ (if 0 < ec 0 0 (es b) (ex b) then 0 else ex b) = ex (max b 0) := by
  have hM : (M : Int) = 9218868437227405312 := rfl
  have k := ec_sel_hi (i := b) (i' := 0) h (by omega)
  rw [es_nought, ex_nought] at k
  exact k
def Pq (b1 b2 s1 : Int) (x1 : Rat) (s2 : Int) (x2 : Rat) : Bool × (Int × Rat × Bool) × (Int × Rat × Bool) :=
  if b2 ≤ 0 then (true, (0, 0, false), (0, 0, false)) else (false, qA s1 x1 b1 b2, qB s2 x2 b1 b2)
theorem NewPiece.up {w w' : World} {K K' : Nat} {o : Bool} {s : Int} {x : Rat} {N : Int} {p : Bool} {s' : Int} {x' : Rat} {N' : Int} {p' : Bool} {e : Ending} (h : NewPiece w K o s x N p s' x' N' p' e w') (hk : K ≤ K') : NewPiece w K' o s x N p s' x' N' p' e w' := by
  obtain ⟨g, A, n, c, B, m, d, g', A', n', c', B', m', d', rfl, h1, h2, hb⟩ := h
  exact ⟨g, A, n, c, B, m, d, g', A', n', c', B', m', d', rfl, h1.mono hk, h2.mono hk, hb⟩
theorem quotients_pq (K : Nat) (s1 : Int) (g1 : Bool) (A1 : Option Addr) (n1 c1 : Nat) (B1 : Option Addr) (m1 d1 : Nat) (x1 : Rat) (s2 : Int) (g2 : Bool) (A2 : Option Addr) (n2 c2 : Nat) (B2 : Option Addr) (m2 d2 : Nat) (x2 : Rat) (v : Value) (b1 b2 : Int) (w : World)
    (h1 : RatV w K g1 (.slice A1 n1 c1) (.slice B1 m1 d1) x1) (h2 : RatV w K g2 (.slice A2 n2 c2) (.slice B2 m2 d2) x2) (hK0 : 34 ≤ K) (hK : K ≤ 524288) (k : NumOk s1 x1 s2 x2) (hv : SetOf w v b1 b2) (hb : Ne b1 b2) :
    Calls Tryz.prog 87 #[.agg #[.bool false, .int .i64 s1, .bool g1, .slice A1 n1 c1, .slice B1 m1 d1, .int .i64 s2, .bool g2, .slice A2 n2 c2, .slice B2 m2 d2], v] w
      (NewPiece w (2 * K) (Pq b1 b2 s1 x1 s2 x2).1 (Pq b1 b2 s1 x1 s2 x2).2.1.1 (Pq b1 b2 s1 x1 s2 x2).2.1.2.1 1 (Pq b1 b2 s1 x1 s2 x2).2.1.2.2 (Pq b1 b2 s1 x1 s2 x2).2.2.1 (Pq b1 b2 s1 x1 s2 x2).2.2.2.1 1 (Pq b1 b2 s1 x1 s2 x2).2.2.2.2) := by
  have hM : (M : Int) = 9218868437227405312 := rfl
  rcases hv with ⟨e1, e2, -⟩ | ⟨-, g3, A3, n3, c3, B3, m3, d3, g4, A4, n4, c4, B4, m4, d4, rfl, h3, h4⟩
  · exfalso; unfold Ne at hb; omega
  · have hx := esx_idx hb.iv.hi
    have hu := up_end hb.iv.lo
    unfold Pq
    by_cases h0 : b2 ≤ 0
    · rw [if_pos h0]
      refine (quotients_none 1 false false true s1 g1 A1 n1 c1 B1 m1 d1 x1 s2 g2 A2 n2 c2 B2 m2 d2 x2 _ g3 A3 n3 c3 B3 m3 d3 (ex b1) _ g4 A4 n4 c4 B4 m4 d4 (ex b2) 0 0 0 0 w (fun W hW => upper_none 34 false _ g3 A3 n3 c3 B3 m3 d3 (ex b1) _ g4 A4 n4 c4 B4 m4 d4 (ex b2) W (h4.below hW) (by omega) (.inr (by omega))) (.inr rfl)).mono ?_
      exact fun e w' h => h.up (by omega)
    · rw [if_neg h0]
      have hq := quotients_some K false false false s1 g1 A1 n1 c1 B1 m1 d1 x1 s2 g2 A2 n2 c2 B2 m2 d2 x2 (es b1) g3 A3 n3 c3 B3 m3 d3 (ex b1) (es b2) g4 A4 n4 c4 B4 m4 d4 (ex b2) (es (max b1 0)) (es b2) (ex (max b1 0)) (ex b2) w (fun W hW => by
        have h := upper_some K (es b1) g3 A3 n3 c3 B3 m3 d3 (ex b1) (es b2) g4 A4 n4 c4 B4 m4 d4 (ex b2) W ((h3.below hW).mono hK0) ((h4.below hW).mono hK0) (by omega) (by omega) (by omega)
        rw [hu.1, hu.2] at h
        exact h) h1 h2 (by omega) (by omega) rfl rfl (by
          rintro ⟨p, q⟩
          have a := esx_pos k.a1 p
          have b := esx_lt k.b1 q
          have := k.le a.1 b.1
          grind)
      exact hq
theorem Pq_pcw (K : Nat) (s1 : Int) (x1 : Rat) (s2 : Int) (x2 : Rat) (b1 b2 : Int) (w : World) (g : Bool) (A : Option Addr) (n c : Nat) (B : Option Addr) (m d : Nat) (g' : Bool) (A' : Option Addr) (n' c' : Nat) (B' : Option Addr) (m' d' : Nat) (k : NumOk s1 x1 s2 x2) (hb : Ne b1 b2) (hK : 34 ≤ K) (hK2 : K ≤ 1048576)
    (h1 : RatV w K g (.slice A n c) (.slice B m d) (Pq b1 b2 s1 x1 s2 x2).2.1.2.1) (h2 : RatV w K g' (.slice A' n' c') (.slice B' m' d') (Pq b1 b2 s1 x1 s2 x2).2.2.2.1) :
    PcW w (Pq b1 b2 s1 x1 s2 x2).1 (Pq b1 b2 s1 x1 s2 x2).2.1.1 g A n c B m d 1 (Pq b1 b2 s1 x1 s2 x2).2.1.2.2 (Pq b1 b2 s1 x1 s2 x2).2.2.1 g' A' n' c' B' m' d' 1 (Pq b1 b2 s1 x1 s2 x2).2.2.2.2 (PF b1 b2 s1 x1 s2 x2) := by
  unfold Ne at hb
  unfold Pq at *
  by_cases h0 : b2 ≤ 0
  · rw [if_pos h0] at h1 h2 ⊢
    have e : PF b1 b2 s1 x1 s2 x2 = fun _ _ => ((M : Int), -(M : Int)) := by funext i j; unfold PF; rw [if_pos h0]
    rw [e]
    exact pcw_nothing _ g A n c B m d 0 _ _ g' A' n' c' B' m' d' 0 _ _ _ w
  · rw [if_neg h0] at h1 h2 ⊢
    have e : PF b1 b2 s1 x1 s2 x2 = pf (qA s1 x1 b1 b2).1 (qA s1 x1 b1 b2).2.1 (qA s1 x1 b1 b2).2.2 (qB s2 x2 b1 b2).1 (qB s2 x2 b1 b2).2.1 (qB s2 x2 b1 b2).2.2 := by funext i j; unfold PF; rw [if_neg h0]
    rw [e]
    refine pcw_one K _ g A n c B m d _ _ _ g' A' n' c' B' m' d' _ _ w h1 h2 hK hK2 ?_ ?_ ?_
    · show (qA s1 x1 b1 b2).1 = 0 ∨ (qA s1 x1 b1 b2).1 = -1
      rcases qA_kind k.a1 k.a2 hb.2.1 (by omega) hb.2.2.1 hb.2.2.2.1 with k | k | k | k <;> omega
    · show (qB s2 x2 b1 b2).1 = 0 ∨ (qB s2 x2 b1 b2).1 = 1
      rcases qB_kind k.b1 k.b2 hb.2.1 (by omega) hb.2.2.1 hb.2.2.2.1 with k | k | k | k <;> omega
    · exact q_le k.a1 k.a2 k.b1 k.b2 k.le hb.2.1 (by omega) hb.2.2.1 hb.2.2.2.1
def PN (b1 b2 : Int) (s1 : Int) (x1 : Rat) (s2 : Int) (x2 : Rat) (i j : Int) : Int × Int :=
  (-(PF (-b2) (-b1) s1 x1 s2 x2 (-j) (-i)).2, -(PF (-b2) (-b1) s1 x1 s2 x2 (-j) (-i)).1)
theorem minus_pn (K : Nat) (s1 : Int) (x1 : Rat) (s2 : Int) (x2 : Rat) (b1 b2 : Int) (w : World) (g : Bool) (A : Option Addr) (n c : Nat) (B : Option Addr) (m d : Nat) (g' : Bool) (A' : Option Addr) (n' c' : Nat) (B' : Option Addr) (m' d' : Nat) (k : NumOk s1 x1 s2 x2) (hb : Ne b1 b2) (hK : 34 ≤ K) (hK2 : K ≤ 1048576)
    (h1 : RatV w K g (.slice A n c) (.slice B m d) (Pq (-b2) (-b1) s1 x1 s2 x2).2.1.2.1) (h2 : RatV w K g' (.slice A' n' c') (.slice B' m' d') (Pq (-b2) (-b1) s1 x1 s2 x2).2.2.2.1) :
    Calls Tryz.prog 77 #[.agg #[.bool (Pq (-b2) (-b1) s1 x1 s2 x2).1, .int .i64 (Pq (-b2) (-b1) s1 x1 s2 x2).2.1.1, .bool g, .slice A n c, .slice B m d, .int .i64 1, .bool (Pq (-b2) (-b1) s1 x1 s2 x2).2.1.2.2, .int .i64 (Pq (-b2) (-b1) s1 x1 s2 x2).2.2.1, .bool g', .slice A' n' c', .slice B' m' d', .int .i64 1, .bool (Pq (-b2) (-b1) s1 x1 s2 x2).2.2.2.2]] w (NewPcF w (PN b1 b2 s1 x1 s2 x2)) := by
  have hM : (M : Int) = 9218868437227405312 := rfl
  have hn := hb.neg
  unfold Ne at hn
  have ka : (Pq (-b2) (-b1) s1 x1 s2 x2).2.1.1 = 0 ∨ (Pq (-b2) (-b1) s1 x1 s2 x2).2.1.1 = -1 := by
    unfold Pq
    by_cases h0 : -b1 ≤ 0
    · rw [if_pos h0]; exact .inl rfl
    · rw [if_neg h0]
      show (qA s1 x1 (-b2) (-b1)).1 = 0 ∨ (qA s1 x1 (-b2) (-b1)).1 = -1
      rcases qA_kind k.a1 k.a2 hn.2.1 (by omega) hn.2.2.1 hn.2.2.2.1 with k | k | k | k <;> omega
  have kb : (Pq (-b2) (-b1) s1 x1 s2 x2).2.2.1 = 0 ∨ (Pq (-b2) (-b1) s1 x1 s2 x2).2.2.1 = 1 := by
    unfold Pq
    by_cases h0 : -b1 ≤ 0
    · rw [if_pos h0]; exact .inl rfl
    · rw [if_neg h0]
      show (qB s2 x2 (-b2) (-b1)).1 = 0 ∨ (qB s2 x2 (-b2) (-b1)).1 = 1
      rcases qB_kind k.b1 k.b2 hn.2.1 (by omega) hn.2.2.1 hn.2.2.2.1 with k | k | k | k <;> omega
  refine (minusp_any K _ _ g A n c B m d _ 1 _ _ g' A' n' c' B' m' d' _ 1 _ w h1 h2 (by omega) (by omega) (by omega)).mono ?_
  rintro e w' ⟨g5, A5, n5, c5, B5, m5, d5, g6, A6, n6, c6, B6, m6, d6, rfl, r1, r2, hbw⟩
  refine ⟨_, _, _, _, _, _, _, _, _, _, _, _, _, _, _, _, _, _, _, _, _, rfl, ?_, hbw⟩
  unfold Pq at r1 r2 ka kb ⊢
  by_cases h0 : -b1 ≤ 0
  · rw [if_pos h0] at r1 r2 ⊢
    have e : PN b1 b2 s1 x1 s2 x2 = fun _ _ => ((M : Int), -(M : Int)) := by funext i j; unfold PN PF; rw [if_pos h0]; simp
    rw [e]
    exact pcw_nothing _ g5 A5 n5 c5 B5 m5 d5 0 _ _ g6 A6 n6 c6 B6 m6 d6 0 _ _ _ w'
  · rw [if_neg h0] at r1 r2 ka kb ⊢
    dsimp only at r1 r2 ka kb ⊢
    have e : PN b1 b2 s1 x1 s2 x2 = pf (-(qB s2 x2 (-b2) (-b1)).1) (-(qB s2 x2 (-b2) (-b1)).2.1) (qB s2 x2 (-b2) (-b1)).2.2 (-(qA s1 x1 (-b2) (-b1)).1) (-(qA s1 x1 (-b2) (-b1)).2.1) (qA s1 x1 (-b2) (-b1)).2.2 := by
      funext i j
      rw [pf_neg]
      unfold PN PF
      rw [if_neg h0]
    rw [e]
    refine pcw_one K _ g5 A5 n5 c5 B5 m5 d5 _ _ _ g6 A6 n6 c6 B6 m6 d6 _ _ w' r1 r2 hK hK2 (by omega) (by omega) ?_
    rw [dn_neg, up_neg]
    have q := q_le k.a1 k.a2 k.b1 k.b2 k.le hn.2.1 (by omega) hn.2.2.1 hn.2.2.2.1
    omega
def nF (b1 b2 : Int) (s1 : Int) (x1 : Rat) (s2 : Int) (x2 : Rat) : Nat := if (b1 ≤ 0 ∧ 0 ≤ b2) ∧ esx s1 x1 ≤ 0 ∧ 0 ≤ esx s2 x2 then 1 else 2
def LF (b1 b2 : Int) (s1 : Int) (x1 : Rat) (s2 : Int) (x2 : Rat) (k : Nat) : Int → Int → Int × Int :=
  if (b1 ≤ 0 ∧ 0 ≤ b2) ∧ esx s1 x1 ≤ 0 ∧ 0 ≤ esx s2 x2 then pf (-1) 0 true 1 0 true else if k = 0 then PF b1 b2 s1 x1 s2 x2 else PN b1 b2 s1 x1 s2 x2
theorem factors_num (K : Nat) (s1 : Int) (g1 : Bool) (A1 : Option Addr) (n1 c1 : Nat) (B1 : Option Addr) (m1 d1 : Nat) (x1 : Rat) (s2 : Int) (g2 : Bool) (A2 : Option Addr) (n2 c2 : Nat) (B2 : Option Addr) (m2 d2 : Nat) (x2 : Rat) (v : Value) (b1 b2 : Int) (w : World)
    (h1 : RatV w K g1 (.slice A1 n1 c1) (.slice B1 m1 d1) x1) (h2 : RatV w K g2 (.slice A2 n2 c2) (.slice B2 m2 d2) x2) (hK0 : 34 ≤ K) (hK : K ≤ 524288) (k : NumOk s1 x1 s2 x2) (hv : SetOf w v b1 b2) (hb : Ne b1 b2) :
    Calls Tryz.prog 81 #[.agg #[.bool false, .int .i64 s1, .bool g1, .slice A1 n1 c1, .slice B1 m1 d1, .int .i64 s2, .bool g2, .slice A2 n2 c2, .slice B2 m2 d2], v] w
      (NewPcs w (nF b1 b2 s1 x1 s2 x2) (LF b1 b2 s1 x1 s2 x2)) := by
  have hM : (M : Int) = 9218868437227405312 := rfl
  have hvv := hv
  rcases hv with ⟨e1, e2, -⟩ | ⟨-, g3, A3, n3, c3, B3, m3, d3, g4, A4, n4, c4, B4, m4, d4, rfl, h3, h4⟩
  · exfalso; unfold Ne at hb; omega
  · have x3 := esx_idx hb.iv.lo
    have x4 := esx_idx hb.iv.hi
    have Z1 := fun W (hW : Below w.heap.size w W) => zero_any K false s1 g1 A1 n1 c1 B1 m1 d1 x1 s2 g2 A2 n2 c2 B2 m2 d2 x2 W (h1.below hW) (h2.below hW) (by omega)
    have Z2 := fun W (hW : Below w.heap.size w W) => zero_any 34 false (es b1) g3 A3 n3 c3 B3 m3 d3 (ex b1) (es b2) g4 A4 n4 c4 B4 m4 d4 (ex b2) W (h3.below hW) (h4.below hW) (by omega)
    by_cases hz : (b1 ≤ 0 ∧ 0 ≤ b2) ∧ esx s1 x1 ≤ 0 ∧ 0 ≤ esx s2 x2
    · have en : nF b1 b2 s1 x1 s2 x2 = 1 := if_pos hz
      rw [en]
      refine factors_all _ _ _ _ _ _ _ _ _ _ _ _ _ _ _ _ _ _ _ _ _ _ _ _ _ _ _ _ _ _ _ _ _ _ (pf (-1) 0 true 1 0 true) _ w Z1 Z2 ?_ (by unfold LF; rw [if_pos hz]) (fun W g A n c B m d g' A' n' c' B' m' d' r1 r2 => ?_)
      · simp only [Bool.not_false, Bool.true_and, Bool.and_eq_true, decide_eq_true_eq]
        omega
      · refine (piece_some 1 (-1) g A n c B m d 0 1 g' A' n' c' B' m' d' 0 W r1 r2 (by omega) (fun _ => rfl) (fun _ => rfl)).mono ?_
        rintro e w' ⟨g5, A5, n5, c5, B5, m5, d5, g6, A6, n6, c6, B6, m6, d6, rfl, q1, q2, hbw⟩
        exact ⟨_, _, _, _, _, _, _, _, _, _, _, _, _, _, _, _, _, _, _, _, _, rfl, pcw_one 34 (-1) g5 A5 n5 c5 B5 m5 d5 0 true 1 g6 A6 n6 c6 B6 m6 d6 0 true w' (q1.mono (by omega)) (q2.mono (by omega)) (by omega) (by omega) (.inr rfl) (.inr rfl) (by unfold dn up; rw [if_neg (by omega), if_neg (by omega)]; omega), hbw⟩
    · have en : nF b1 b2 s1 x1 s2 x2 = 2 := if_neg hz
      rw [en]
      refine factors_two _ _ _ _ _ _ _ _ _ _ _ _ _ _ _ _ _ _ _ _ _ _ _ _ _ _ _ _ _ _ _ _ _ _ (2 * K) (PF b1 b2 s1 x1 s2 x2) (PN b1 b2 s1 x1 s2 x2) _ (fun W v => SetOf W v (-b2) (-b1)) _ _ _ _ _ _ _ w Z1 Z2 ?_ (by unfold LF; rw [if_neg hz, if_pos rfl]) (by unfold LF; rw [if_neg hz, if_neg (by omega)]) (fun W hW => ?_) (fun W hW => ?_) (fun W v hW hP => quotients_pq K s1 g1 A1 n1 c1 B1 m1 d1 x1 s2 g2 A2 n2 c2 B2 m2 d2 x2 v (-b2) (-b1) W (h1.below hW) (h2.below hW) hK0 hK k hP hb.neg) (fun W g A n c B m d g' A' n' c' B' m' d' r1 r2 => minus_pn (2 * K) s1 x1 s2 x2 b1 b2 W g A n c B m d g' A' n' c' B' m' d' k hb (by omega) (by omega) r1 r2)
      · rw [Bool.eq_false_iff]
        intro h
        simp only [Bool.not_false, Bool.true_and, Bool.and_eq_true, decide_eq_true_eq] at h
        omega
      · refine (quotients_pq K s1 g1 A1 n1 c1 B1 m1 d1 x1 s2 g2 A2 n2 c2 B2 m2 d2 x2 _ b1 b2 W (h1.below hW) (h2.below hW) hK0 hK k (hvv.below hW) hb).mono ?_
        rintro e w' ⟨g5, A5, n5, c5, B5, m5, d5, g6, A6, n6, c6, B6, m6, d6, rfl, q1, q2, hbw⟩
        exact ⟨_, _, _, _, _, _, _, _, _, _, _, _, _, _, _, _, _, _, _, _, _, rfl, Pq_pcw (2 * K) s1 x1 s2 x2 b1 b2 w' g5 A5 n5 c5 B5 m5 d5 g6 A6 n6 c6 B6 m6 d6 k hb (by omega) (by omega) q1 q2, hbw⟩
      · refine (minus_idx _ b1 b2 W (hvv.below hW)).mono ?_
        rintro e w' ⟨t, rfl, ht, hbw⟩
        exact ⟨t, rfl, ht, hbw⟩
end Go.Proofs.YtmjkmoahkanblaaGreat
