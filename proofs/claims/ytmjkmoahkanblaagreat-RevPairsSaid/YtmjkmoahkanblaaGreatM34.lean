/-
The reference's MulRev by indexes, and that the program's is the same.
MulPair by indexes: the program's, the reference's.
-/
import Derived.Test.YtmjkmoahkanblaaGreatM32
import Derived.Test.YtmjkmoahkanblaaGreatPPairT
import Derived.Test.YtmjkmoahkanblaaGreatPPair6T
set_option linter.unusedSimpArgs false
set_option linter.unusedVariables false
set_option maxHeartbeats 12800000

namespace Go.Proofs.YtmjkmoahkanblaaGreat
open Go.RowKit
theorem factors_set (u v : Value) (i1 j1 i2 j2 : Int) (w : World) (hu : SetOf w u i2 j2) (hv : SetOf w v i1 j1) :
    Calls Tryz.prog 81 #[u, v] w (NewPcs w (if j1 < i1 ∨ j2 < i2 then 0 else nF i1 j1 (es i2) (ex i2) (es j2) (ex j2)) (LF i1 j1 (es i2) (ex i2) (es j2) (ex j2))) := by
  have hM : (M : Int) = 9218868437227405312 := rfl
  have hv' := hv
  rcases hu with ⟨e1, e2, s, x, t, y, g, A, n, c, B, m, d, g', A', n', c', B', m', d', rfl, h4, h5⟩ | ⟨h1, g, A, n, c, B, m, d, g', A', n', c', B', m', d', rfl, h4, h5⟩
  · rw [if_pos (by omega)]
    rcases hv with ⟨-, -, s3, x3, t3, y3, g3, A3, n3, c3, B3, m3, d3, g4, A4, n4, c4, B4, m4, d4, rfl, -, -⟩ | ⟨-, g3, A3, n3, c3, B3, m3, d3, g4, A4, n4, c4, B4, m4, d4, rfl, -, -⟩
    · exact factors_nil _ _ _ _ _ _ _ _ _ _ _ _ _ _ _ _ _ _ _ _ _ _ _ _ _ _ _ _ _ _ _ _ _ _ _ w (.inl rfl)
    · exact factors_nil _ _ _ _ _ _ _ _ _ _ _ _ _ _ _ _ _ _ _ _ _ _ _ _ _ _ _ _ _ _ _ _ _ _ _ w (.inl rfl)
  · rcases hv with ⟨e1, e2, s3, x3, t3, y3, g3, A3, n3, c3, B3, m3, d3, g4, A4, n4, c4, B4, m4, d4, rfl, -, -⟩ | ⟨hb, -⟩
    · rw [if_pos (by omega)]
      exact factors_nil _ _ _ _ _ _ _ _ _ _ _ _ _ _ _ _ _ _ _ _ _ _ _ _ _ _ _ _ _ _ _ _ _ _ _ w (.inr rfl)
    · rw [if_neg (by omega)]
      exact factors_num 34 _ g A n c B m d _ _ g' A' n' c' B' m' d' _ v i1 j1 w h4 h5 (by omega) (by omega) (numok_idx h1) hv' hb
theorem hl_iv2 {i j i' j' : Int} (h : Iv i j) (h' : Iv i' j') : hl i j i' j' = (min i i', max j j') := by
  have hM : (M : Int) = 9218868437227405312 := rfl
  unfold hl
  unfold Iv at h h'
  by_cases h1 : j < i
  · rw [if_pos h1, Prod.mk.injEq]; omega
  · rw [if_neg h1]
    by_cases h2 : j' < i'
    · rw [if_pos h2, Prod.mk.injEq]; omega
    · rw [if_neg h2]
theorem zg_fa {b1 b2 s1 s2 : Int} {x1 x2 : Rat} {i j : Int} (k : NumOk s1 x1 s2 x2) (hb : Ne b1 b2) (hx : Iv i j) : zg i j (LF b1 b2 s1 x1 s2 x2) (nF b1 b2 s1 x1 s2 x2) = if j < i then ((M : Int), -(M : Int)) else fa b1 b2 s1 x1 s2 x2 i j := by
  have hM : (M : Int) = 9218868437227405312 := rfl
  have e0 : Iv (M : Int) (-(M : Int)) := Iv.none
  have hxr := hx
  unfold Iv at hxr
  by_cases hz : (b1 ≤ 0 ∧ 0 ≤ b2) ∧ esx s1 x1 ≤ 0 ∧ 0 ≤ esx s2 x2
  · have en : nF b1 b2 s1 x1 s2 x2 = 1 := if_pos hz
    have e1 : pf (-1) 0 true 1 0 true i j = if j < i then ((M : Int), -(M : Int)) else (i, j) := by
      unfold pf
      by_cases hji : j < i
      · rw [if_pos hji, if_pos hji]
      · rw [if_neg hji, if_neg hji]
        unfold wg
        have c1 := ec_hi (i := i) (s := 1) (x := 0) (by omega) (.inr rfl)
        have c2 := ec_lo (j := j) (s := -1) (x := 0) (by omega) (.inr rfl)
        have c3 := ec_hi_open (i := i) (s := 1) (x := 0) (by omega) rfl
        have c4 := ec_lo_open (j := j) (s := -1) (x := 0) (by omega) rfl
        have u1 : dn 1 0 = M := by unfold dn; rw [if_neg (by omega)]; omega
        have u2 : up (-1) 0 = -(M : Int) := by unfold up; rw [if_neg (by omega)]; omega
        have u3 : up 1 0 = M := by unfold up; rw [if_neg (by omega)]; omega
        have u4 : dn (-1) 0 = -(M : Int) := by unfold dn; rw [if_neg (by omega)]; omega
        rw [ec_lo_at (by omega) (.inr rfl), ec_hi_at (by omega) (.inr rfl), u3, u4, if_neg, Prod.mk.injEq]
        · omega
        · rintro (h | ⟨h, -⟩ | h | ⟨h, -⟩)
          · have := c1.1 h; omega
          · exact c3 h
          · have := c2.1 h; omega
          · exact c4 h
    rw [en]
    show hl _ _ _ _ = _
    unfold LF fa
    rw [if_pos hz, if_pos hz, e1]
    show hl (M : Int) (-(M : Int)) _ _ = _
    unfold hl
    rw [if_pos (by omega)]
  · have en : nF b1 b2 s1 x1 s2 x2 = 2 := if_neg hz
    have v1 := PF_iv k hb i j hx
    have v2 := (PF_iv k hb.neg (-j) (-i) hx.negg).negg
    rw [en]
    have L0 : LF b1 b2 s1 x1 s2 x2 0 = PF b1 b2 s1 x1 s2 x2 := by unfold LF; rw [if_neg hz, if_pos rfl]
    have L1 : LF b1 b2 s1 x1 s2 x2 1 = PN b1 b2 s1 x1 s2 x2 := by unfold LF; rw [if_neg hz, if_neg (by omega)]
    show hl (hl (M : Int) (-(M : Int)) (LF b1 b2 s1 x1 s2 x2 0 i j).1 (LF b1 b2 s1 x1 s2 x2 0 i j).2).1 (hl (M : Int) (-(M : Int)) (LF b1 b2 s1 x1 s2 x2 0 i j).1 (LF b1 b2 s1 x1 s2 x2 0 i j).2).2 (LF b1 b2 s1 x1 s2 x2 1 i j).1 (LF b1 b2 s1 x1 s2 x2 1 i j).2 = _
    rw [L0, L1]
    unfold PN
    have e1 : hl (M : Int) (-(M : Int)) (PF b1 b2 s1 x1 s2 x2 i j).1 (PF b1 b2 s1 x1 s2 x2 i j).2 = PF b1 b2 s1 x1 s2 x2 i j := by
      unfold hl; rw [if_pos (by omega)]
    rw [e1, hl_iv2 v1 v2]
    by_cases hji : j < i
    · rw [if_pos hji]
      have n1 : ∀ b1 b2 i j, j < i → PF b1 b2 s1 x1 s2 x2 i j = ((M : Int), -(M : Int)) := fun b1 b2 i j h => by
        unfold PF pf
        split
        · rfl
        · first | rfl | rw [if_pos h]
      rw [n1 _ _ _ _ hji, n1 _ _ _ _ (show -i < -j by omega), Prod.mk.injEq]; dsimp only; rw [Int.neg_neg]; omega
    · rw [if_neg hji]
      unfold fa
      rw [if_neg hz]
theorem mlr_zg {i1 j1 i2 j2 i3 j3 : Int} (h1 : Iv i1 j1) (h2 : Iv i2 j2) (h3 : Iv i3 j3) :
    mlr i1 j1 i2 j2 i3 j3 = zg i3 j3 (LF i1 j1 (es i2) (ex i2) (es j2) (ex j2)) (if j1 < i1 ∨ j2 < i2 then 0 else nF i1 j1 (es i2) (ex i2) (es j2) (ex j2)) := by
  have hM : (M : Int) = 9218868437227405312 := rfl
  unfold mlr
  by_cases h : j1 < i1 ∨ j2 < i2
  · rw [if_pos h, if_pos (by omega)]; rfl
  · rw [if_neg h, zg_fa (numok_idx (ne_or h2 (by omega))) (ne_or h1 (by omega)) h3]
    by_cases h' : j3 < i3
    · rw [if_pos h', if_pos (by omega)]
    · rw [if_neg h', if_neg (by omega)]
theorem refmulrev_any (b1 b2 c1 c2 x y : Nat) (w : World) (hb1 : b1 < 18446744073709551616) (hb2 : b2 < 18446744073709551616) (hc1 : c1 < 18446744073709551616) (hc2 : c2 < 18446744073709551616) (hx : x < 18446744073709551616) (hy : y < 18446744073709551616) :
    Calls Tryz.prog 30 #[.agg #[.int .u64 (b1 : Int), .int .u64 (b2 : Int)], .agg #[.int .u64 (c1 : Int), .int .u64 (c2 : Int)], .agg #[.int .u64 (x : Int), .int .u64 (y : Int)]] w fun e w' =>
      e = .returned (.agg #[.int .u64 (pat (mlr (rd b1 b2).1 (rd b1 b2).2 (rd c1 c2).1 (rd c1 c2).2 (rd x y).1 (rd x y).2).1 : Int), .int .u64 (pat (mlr (rd b1 b2).1 (rd b1 b2).2 (rd c1 c2).1 (rd c1 c2).2 (rd x y).1 (rd x y).2).2 : Int)]) ∧ Below w.heap.size w w' := by
  rw [mlr_zg (rd_iv b1 b2) (rd_iv c1 c2) (rd_iv x y)]
  refine refmulrev_walk b1 b2 c1 c2 x y _ _ w hb1 hb2 hc1 hc2 hx hy ?_ fun W u v hu hv => factors_set u v _ _ _ _ W hu hv
  unfold nF
  split <;> (try split) <;> omega
end Go.Proofs.YtmjkmoahkanblaaGreat

namespace Go.Proofs.YtmjkmoahkanblaaGreat
open Go.RowKit
def prL (i1 j1 i2 j2 : Int) : Int × Int :=
  if j1 < i1 ∨ j2 < i2 then ((M : Int), -(M : Int)) else
  if (i1 < 0 ∧ 0 < j1) ∧ ¬ (i2 ≤ 0 ∧ 0 ≤ j2) then (if j2 < 0 then PF i1 j1 (es i2) (ex i2) (es j2) (ex j2) (-(M : Int)) M else PN i1 j1 (es i2) (ex i2) (es j2) (ex j2) (-(M : Int)) M) else mlr i1 j1 i2 j2 (-(M : Int)) M
def prU (i1 j1 i2 j2 : Int) : Int × Int :=
  if j1 < i1 ∨ j2 < i2 then ((M : Int), -(M : Int)) else
  if (i1 < 0 ∧ 0 < j1) ∧ ¬ (i2 ≤ 0 ∧ 0 ≤ j2) then (if j2 < 0 then PN i1 j1 (es i2) (ex i2) (es j2) (ex j2) (-(M : Int)) M else PF i1 j1 (es i2) (ex i2) (es j2) (ex j2) (-(M : Int)) M) else ((M : Int), -(M : Int))
theorem rd_entire : rd 18442240474082181120 9218868437227405312 = (-(M : Int), (M : Int)) := by
  have hM : (M : Int) = 9218868437227405312 := rfl
  have h := rd_pat (i := -(M : Int)) (j := M) (.inl (by omega))
  rwa [pat_max, pat_min] at h
theorem ne_entire : Ne (-(M : Int)) M := by
  have hM : (M : Int) = 9218868437227405312 := rfl
  unfold Ne; omega
theorem mulpair_any (b1 b2 c1 c2 : Nat) (w : World) (hb1 : b1 < 18446744073709551616) (hb2 : b2 < 18446744073709551616) (hc1 : c1 < 18446744073709551616) (hc2 : c2 < 18446744073709551616) :
    Calls Tryz.prog 31 #[.agg #[.float .f64 b1, .float .f64 b2], .agg #[.float .f64 c1, .float .f64 c2]] w fun e w' =>
      e = .returned (.tuple #[.agg #[.float .f64 (pat (prL (rd b1 b2).1 (rd b1 b2).2 (rd c1 c2).1 (rd c1 c2).2).1), .float .f64 (pat (prL (rd b1 b2).1 (rd b1 b2).2 (rd c1 c2).1 (rd c1 c2).2).2)], .agg #[.float .f64 (pat (prU (rd b1 b2).1 (rd b1 b2).2 (rd c1 c2).1 (rd c1 c2).2).1), .float .f64 (pat (prU (rd b1 b2).1 (rd b1 b2).2 (rd c1 c2).1 (rd c1 c2).2).2)]]) ∧ Below w.heap.size w w' := by
  have hM : (M : Int) = 9218868437227405312 := rfl
  have v1 := rd_iv b1 b2
  have v2 := rd_iv c1 c2
  have t1 := fun W => readf b1 b2 W hb1 hb2
  have t2 := fun W => readf c1 c2 W hc1 hc2
  obtain ⟨⟨i1, j1⟩, r1⟩ : ∃ z, rd b1 b2 = z := ⟨_, rfl⟩
  obtain ⟨⟨i2, j2⟩, r2⟩ : ∃ z, rd c1 c2 = z := ⟨_, rfl⟩
  rw [r1] at v1 t1
  rw [r2] at v2 t2
  rw [r1, r2]
  dsimp only at *
  have m1 := em_idx v1
  have m2 := em_idx v2
  unfold prL prU
  by_cases hno : j1 < i1 ∨ j2 < i2
  · rw [if_pos hno, if_pos hno, pat_max, pat_min]
    exact mulpair_none _ _ _ _ _ _ _ _ _ _ w t1 m1 t2 m2 (by simpa using hno)
  · rw [if_neg hno, if_neg hno]
    have n1 := ne_or v1 (by omega)
    have n2 := ne_or v2 (by omega)
    have hh := fun W => has_any i2 j2 W v2.lo v2.hi
    have hnn : (decide (j1 < i1) || decide (j2 < i2)) = false := by
      rw [decide_eq_false (by omega), decide_eq_false (by omega)]; rfl
    have o1 := ord0 v1.lo
    have o2 := ord0 v1.hi
    have hsp : (compare i1 0 == Ordering.lt && compare j1 0 == Ordering.gt && !decide (i2 ≤ 0 ∧ 0 ≤ j2)) = decide ((i1 < 0 ∧ 0 < j1) ∧ ¬ (i2 ≤ 0 ∧ 0 ≤ j2)) := by
      have e1 : (compare i1 0 == Ordering.lt) = decide (i1 < 0) := by
        by_cases h : i1 < 0
        · rw [Int.compare_eq_lt.2 h, decide_eq_true h]; rfl
        · rw [decide_eq_false h, beq_eq_false_iff_ne]; intro h'; exact h (Int.compare_eq_lt.1 h')
      have e2 : (compare j1 0 == Ordering.gt) = decide (0 < j1) := by
        by_cases h : 0 < j1
        · rw [Int.compare_eq_gt.2 h, decide_eq_true h]; rfl
        · rw [decide_eq_false h, beq_eq_false_iff_ne]; intro h'; exact h (Int.compare_eq_gt.1 h')
      rw [e1, e2]
      simp only [Bool.decide_and, decide_not]
    by_cases hs : (i1 < 0 ∧ 0 < j1) ∧ ¬ (i2 ≤ 0 ∧ 0 ≤ j2)
    · rw [decide_eq_true hs] at hsp
      rw [if_pos hs, if_pos hs]
      have k := numok_idx n2
      have hq1 := fun W g1 A1 n1' k1 E1 g2 A2 n2' k2 E2 (e1 : ExI W (es i2) g1 A1 n1' k1 E1 (ex i2)) (e2 : ExI W (es j2) g2 A2 n2' k2 E2 (ex j2)) => positive_any (-j1) (-i1) (es i2) g1 A1 n1' k1 E1 (ex i2) (es j2) g2 A2 n2' k2 E2 (ex j2) (-(M : Int)) M W n1.neg.iv.lo n1.neg.iv.hi ne_entire.iv.lo ne_entire.iv.hi e1 e2
      have hq2 := fun W g1 A1 n1' k1 E1 g2 A2 n2' k2 E2 (e1 : ExI W (es i2) g1 A1 n1' k1 E1 (ex i2)) (e2 : ExI W (es j2) g2 A2 n2' k2 E2 (ex j2)) => positive_any i1 j1 (es i2) g1 A1 n1' k1 E1 (ex i2) (es j2) g2 A2 n2' k2 E2 (ex j2) (-(M : Int)) M W n1.iv.lo n1.iv.hi ne_entire.iv.lo ne_entire.iv.hi e1 e2
      rw [po_PF k n1.neg ne_entire, pat_max, pat_min] at hq1
      rw [po_PF k n1 ne_entire, pat_max, pat_min] at hq2
      have ePN : PN i1 j1 (es i2) (ex i2) (es j2) (ex j2) (-(M : Int)) M = (-(PF (-j1) (-i1) (es i2) (ex i2) (es j2) (ex j2) (-(M : Int)) M).2, -(PF (-j1) (-i1) (es i2) (ex i2) (es j2) (ex j2) (-(M : Int)) M).1) := by
        unfold PN; rw [Int.neg_neg]
      have hm2 := fun W => mirror_idx _ _ W (PF_iv k n1.neg (-(M : Int)) M ne_entire.iv)
      refine mulpair_split _ _ _ _ (pat i1) (pat j1) (pat i2) (pat j2) (pat (-j1)) (pat (-i1)) _ _ _ _ _ _ _ _ _ _ _ _ _ _ _ _ _ _ _ _ true w t1 m1 t2 m2 hnn o1 o2 hh hsp (ord0 v2.hi) ?_ (fun W => point_gen i2 W v2.lo) (fun W => point_gen j2 W v2.hi) (fun W => mirror_idx i1 j1 W v1) hq1 hm2 hq2
      rw [ePN]
      by_cases h : j2 < 0
      · rw [if_pos h, if_pos h]
        exact .inl ⟨Int.compare_eq_lt.2 h, rfl, rfl, rfl, rfl⟩
      · rw [if_neg h, if_neg h]
        refine .inr ⟨?_, rfl, rfl, rfl, rfl⟩
        by_cases h' : j2 = 0
        · exact .inl (Int.compare_eq_eq.2 h')
        · exact .inr (Int.compare_eq_gt.2 (by omega))
    · rw [decide_eq_false hs] at hsp
      rw [if_neg hs, if_neg hs, pat_max, pat_min]
      refine mulpair_one _ _ _ _ (pat i1) (pat j1) (pat i2) (pat j2) _ _ _ _ _ _ _ true w t1 m1 t2 m2 hnn o1 o2 hh hsp fun W => ?_
      have h := mulrev_any (pat i1) (pat j1) (pat i2) (pat j2) 18442240474082181120 9218868437227405312 W (pat_lt v1.lo.1 v1.lo.2) (pat_lt v1.hi.1 v1.hi.2) (pat_lt v2.lo.1 v2.lo.2) (pat_lt v2.hi.1 v2.hi.2) (by omega) (by omega)
      rw [rd_pat v1, rd_pat v2, rd_entire] at h
      exact h
theorem NewSet.up {w w' : World} {K K' : Nat} {o : Bool} {s t : Int} {x y : Rat} {e : Ending} (h : NewSet w K o s x t y e w') (hk : K ≤ K') : NewSet w K' o s x t y e w' := by
  obtain ⟨g, A, n, c, B, m, d, g', A', n', c', B', m', d', rfl, h1, h2, hb⟩ := h
  exact ⟨g, A, n, c, B, m, d, g', A', n', c', B', m', d', rfl, h1.mono hk, h2.mono hk, hb⟩
theorem of_cases (x y : Nat) (hx : x < 18446744073709551616) (hy : y < 18446744073709551616) :
    (rd x y = ((M : Int), -(M : Int)) ∧ ∀ W, Calls Tryz.prog 57 #[.agg #[.int .u64 (x : Int), .int .u64 (y : Int)]] W (NewSet W 34 true 0 0 0 0)) ∨
    (Ne (rd x y).1 (rd x y).2 ∧ ∀ W, Calls Tryz.prog 57 #[.agg #[.int .u64 (x : Int), .int .u64 (y : Int)]] W (NewSet W 34 false (es (rd x y).1) (ex (rd x y).1) (es (rd x y).2) (ex (rd x y).2))) := by
  have hM : (M : Int) = 9218868437227405312 := rfl
  cases h : snd x y
  · refine .inl ⟨by unfold rd; rw [h]; rfl, fun W => (of_none x y W hx hy h).mono fun _ _ h => h.up (by omega)⟩
  · have e : rd x y = (idx x, idx y) := by unfold rd; rw [h]; rfl
    have v := rd_iv x y
    have hd := of_decide_eq_true h
    rw [e] at v ⊢
    refine .inr ⟨ne_or v (by dsimp only; omega), fun W => of_full x y W hx hy h⟩
theorem PN_pcw (K : Nat) (s1 : Int) (x1 : Rat) (s2 : Int) (x2 : Rat) (b1 b2 : Int) (w : World) (g5 : Bool) (A5 : Option Addr) (n5 c5 : Nat) (B5 : Option Addr) (m5 d5 : Nat) (g6 : Bool) (A6 : Option Addr) (n6 c6 : Nat) (B6 : Option Addr) (m6 d6 : Nat) (k : NumOk s1 x1 s2 x2) (hb : Ne b1 b2) (hK : 34 ≤ K) (hK2 : K ≤ 1048576)
    (r1 : RatV w K g5 (.slice A5 n5 c5) (.slice B5 m5 d5) (-(Pq (-b2) (-b1) s1 x1 s2 x2).2.2.2.1)) (r2 : RatV w K g6 (.slice A6 n6 c6) (.slice B6 m6 d6) (-(Pq (-b2) (-b1) s1 x1 s2 x2).2.1.2.1)) :
    PcW w (Pq (-b2) (-b1) s1 x1 s2 x2).1 (-(Pq (-b2) (-b1) s1 x1 s2 x2).2.2.1) g5 A5 n5 c5 B5 m5 d5 1 (Pq (-b2) (-b1) s1 x1 s2 x2).2.2.2.2 (-(Pq (-b2) (-b1) s1 x1 s2 x2).2.1.1) g6 A6 n6 c6 B6 m6 d6 1 (Pq (-b2) (-b1) s1 x1 s2 x2).2.1.2.2 (PN b1 b2 s1 x1 s2 x2) := by
  have hM : (M : Int) = 9218868437227405312 := rfl
  have hn := hb.neg
  unfold Ne at hn
  unfold Pq at r1 r2 ⊢
  by_cases h0 : -b1 ≤ 0
  · rw [if_pos h0] at r1 r2 ⊢
    have e : PN b1 b2 s1 x1 s2 x2 = fun _ _ => ((M : Int), -(M : Int)) := by funext i j; unfold PN PF; rw [if_pos h0]; simp
    rw [e]
    exact pcw_nothing _ g5 A5 n5 c5 B5 m5 d5 0 _ _ g6 A6 n6 c6 B6 m6 d6 0 _ _ _ w
  · rw [if_neg h0] at r1 r2 ⊢
    dsimp only at r1 r2 ⊢
    have ka : (qA s1 x1 (-b2) (-b1)).1 = 0 ∨ (qA s1 x1 (-b2) (-b1)).1 = -1 := by
      rcases qA_kind k.a1 k.a2 hn.2.1 (by omega) hn.2.2.1 hn.2.2.2.1 with k | k | k | k <;> omega
    have kb : (qB s2 x2 (-b2) (-b1)).1 = 0 ∨ (qB s2 x2 (-b2) (-b1)).1 = 1 := by
      rcases qB_kind k.b1 k.b2 hn.2.1 (by omega) hn.2.2.1 hn.2.2.2.1 with k | k | k | k <;> omega
    have e : PN b1 b2 s1 x1 s2 x2 = pf (-(qB s2 x2 (-b2) (-b1)).1) (-(qB s2 x2 (-b2) (-b1)).2.1) (qB s2 x2 (-b2) (-b1)).2.2 (-(qA s1 x1 (-b2) (-b1)).1) (-(qA s1 x1 (-b2) (-b1)).2.1) (qA s1 x1 (-b2) (-b1)).2.2 := by
      funext i j
      rw [pf_neg]
      unfold PN PF
      rw [if_neg h0]
    rw [e]
    refine pcw_one K _ g5 A5 n5 c5 B5 m5 d5 _ _ _ g6 A6 n6 c6 B6 m6 d6 _ _ w r1 r2 hK hK2 (by omega) (by omega) ?_
    rw [dn_neg, up_neg]
    have q := q_le k.a1 k.a2 k.b1 k.b2 k.le hn.2.1 (by omega) hn.2.2.1 hn.2.2.2.1
    omega
theorem Pq_signs {s1 s2 : Int} {x1 x2 : Rat} {b1 b2 : Int} (k : NumOk s1 x1 s2 x2) (hb : Ne b1 b2) : (-1 ≤ (Pq b1 b2 s1 x1 s2 x2).2.1.1 ∧ (Pq b1 b2 s1 x1 s2 x2).2.1.1 ≤ 1) ∧ (-1 ≤ (Pq b1 b2 s1 x1 s2 x2).2.2.1 ∧ (Pq b1 b2 s1 x1 s2 x2).2.2.1 ≤ 1) := by
  have hn := hb
  unfold Ne at hn
  unfold Pq
  by_cases h0 : b2 ≤ 0
  · rw [if_pos h0]; dsimp only; omega
  · rw [if_neg h0]
    dsimp only
    have ka : (qA s1 x1 b1 b2).1 = 0 ∨ (qA s1 x1 b1 b2).1 = -1 := by
      rcases qA_kind k.a1 k.a2 hn.2.1 (by omega) hn.2.2.1 hn.2.2.2.1 with k | k | k | k <;> omega
    have kb : (qB s2 x2 b1 b2).1 = 0 ∨ (qB s2 x2 b1 b2).1 = 1 := by
      rcases qB_kind k.b1 k.b2 hn.2.1 (by omega) hn.2.2.1 hn.2.2.2.1 with k | k | k | k <;> omega
    omega
theorem refmulpair_any (b1 b2 c1 c2 : Nat) (w : World) (hb1 : b1 < 18446744073709551616) (hb2 : b2 < 18446744073709551616) (hc1 : c1 < 18446744073709551616) (hc2 : c2 < 18446744073709551616) :
    Calls Tryz.prog 32 #[.agg #[.int .u64 (b1 : Int), .int .u64 (b2 : Int)], .agg #[.int .u64 (c1 : Int), .int .u64 (c2 : Int)]] w fun e w' =>
      e = .returned (.tuple #[.agg #[.int .u64 (pat (prL (rd b1 b2).1 (rd b1 b2).2 (rd c1 c2).1 (rd c1 c2).2).1 : Int), .int .u64 (pat (prL (rd b1 b2).1 (rd b1 b2).2 (rd c1 c2).1 (rd c1 c2).2).2 : Int)], .agg #[.int .u64 (pat (prU (rd b1 b2).1 (rd b1 b2).2 (rd c1 c2).1 (rd c1 c2).2).1 : Int), .int .u64 (pat (prU (rd b1 b2).1 (rd b1 b2).2 (rd c1 c2).1 (rd c1 c2).2).2 : Int)]]) ∧ Below w.heap.size w w' := by
  have hM : (M : Int) = 9218868437227405312 := rfl
  have hMR := fun W => refmulrev_any b1 b2 c1 c2 18442240474082181120 9218868437227405312 W hb1 hb2 hc1 hc2 (by omega) (by omega)
  rw [rd_entire] at hMR
  have O1 := of_cases c1 c2 hc1 hc2
  have O2 := of_cases b1 b2 hb1 hb2
  obtain ⟨⟨i1, j1⟩, r1⟩ : ∃ z, rd b1 b2 = z := ⟨_, rfl⟩
  obtain ⟨⟨i2, j2⟩, r2⟩ : ∃ z, rd c1 c2 = z := ⟨_, rfl⟩
  rw [r1] at O2
  rw [r2] at O1
  rw [r1, r2] at hMR
  rw [r1, r2]
  dsimp only at *
  have one : ¬ ((j1 ≥ i1 ∧ j2 ≥ i2) ∧ (i1 < 0 ∧ 0 < j1) ∧ ¬ (i2 ≤ 0 ∧ 0 ≤ j2)) → prL i1 j1 i2 j2 = mlr i1 j1 i2 j2 (-(M : Int)) M ∧ prU i1 j1 i2 j2 = ((M : Int), -(M : Int)) := fun h => by
    unfold prL prU
    by_cases hno : j1 < i1 ∨ j2 < i2
    · rw [if_pos hno, if_pos hno]
      refine ⟨?_, rfl⟩
      unfold mlr
      rw [if_pos (by omega)]
    · rw [if_neg hno, if_neg hno, if_neg (by omega), if_neg (by omega)]
      exact ⟨rfl, rfl⟩
  have fin : prL i1 j1 i2 j2 = mlr i1 j1 i2 j2 (-(M : Int)) M ∧ prU i1 j1 i2 j2 = ((M : Int), -(M : Int)) → (Calls Tryz.prog 32 #[.agg #[.int .u64 (b1 : Int), .int .u64 (b2 : Int)], .agg #[.int .u64 (c1 : Int), .int .u64 (c2 : Int)]] w fun e w' => e = .returned (.tuple #[.agg #[.int .u64 (pat (mlr i1 j1 i2 j2 (-(M : Int)) M).1 : Int), .int .u64 (pat (mlr i1 j1 i2 j2 (-(M : Int)) M).2 : Int)], .agg #[.int .u64 9218868437227405312, .int .u64 18442240474082181120]]) ∧ Below w.heap.size w w') →
      Calls Tryz.prog 32 #[.agg #[.int .u64 (b1 : Int), .int .u64 (b2 : Int)], .agg #[.int .u64 (c1 : Int), .int .u64 (c2 : Int)]] w fun e w' => e = .returned (.tuple #[.agg #[.int .u64 (pat (prL i1 j1 i2 j2).1 : Int), .int .u64 (pat (prL i1 j1 i2 j2).2 : Int)], .agg #[.int .u64 (pat (prU i1 j1 i2 j2).1 : Int), .int .u64 (pat (prU i1 j1 i2 j2).2 : Int)]]) ∧ Below w.heap.size w w' := fun e h => by
    rw [e.1, e.2, pat_max, pat_min]; exact h
  have sg3 := fun (s : Int) (x : Rat) W g1 A1 n1' c1' B1 m1 d1 (h1 : RatV W 34 g1 (.slice A1 n1' c1') (.slice B1 m1 d1) x) => sign6_any 34 s g1 A1 n1' c1' B1 m1 d1 x W h1 (by omega)
  rcases O1 with ⟨e1, O1⟩ | ⟨n2, O1⟩
  · cases e1
    refine fin (one (by omega)) ?_
    rcases O2 with ⟨e2, O2⟩ | ⟨n1, O2⟩
    · exact refpair_one _ _ _ _ _ _ true true false _ _ _ _ _ _ _ _ _ _ w O1 O2 (fun h => by cases h) (sg3 _ _) (sg3 _ _) (.inl rfl) hMR
    · exact refpair_one _ _ _ _ _ _ true false false _ _ _ _ _ _ _ _ _ _ w O1 O2 (fun h => by cases h) (sg3 _ _) (sg3 _ _) (.inl rfl) hMR
  · rcases O2 with ⟨e2, O2⟩ | ⟨n1, O2⟩
    · cases e2
      refine fin (one (by omega)) ?_
      exact refpair_one _ _ _ _ _ _ false true false _ _ _ _ _ _ _ _ _ _ w O1 O2 (fun _ h => by cases h) (sg3 _ _) (sg3 _ _) (.inr ⟨rfl, .inl rfl⟩) hMR
    · have x1 := esx_idx n1.iv.lo
      have x2 := esx_idx n1.iv.hi
      have x3 := esx_idx n2.iv.lo
      have x4 := esx_idx n2.iv.hi
      have Z := fun W g1 A1 n1' c1' B1 m1 d1 g2 A2 n2' c2' B2 m2 d2 (h1 : RatV W 34 g1 (.slice A1 n1' c1') (.slice B1 m1 d1) (ex i2)) (h2 : RatV W 34 g2 (.slice A2 n2' c2') (.slice B2 m2 d2) (ex j2)) => zero_any 34 false (es i2) g1 A1 n1' c1' B1 m1 d1 (ex i2) (es j2) g2 A2 n2' c2' B2 m2 d2 (ex j2) W h1 h2 (by omega)
      have S3 := fun W g1 A1 n1' c1' B1 m1 d1 (h1 : RatV W 34 g1 (.slice A1 n1' c1') (.slice B1 m1 d1) (ex i1)) => sign6_any 34 (es i1) g1 A1 n1' c1' B1 m1 d1 (ex i1) W h1 (by omega)
      have S4 := fun W g1 A1 n1' c1' B1 m1 d1 (h1 : RatV W 34 g1 (.slice A1 n1' c1') (.slice B1 m1 d1) (ex j1)) => sign6_any 34 (es j1) g1 A1 n1' c1' B1 m1 d1 (ex j1) W h1 (by omega)
      have S1 := fun W g1 A1 n1' c1' B1 m1 d1 (h1 : RatV W 34 g1 (.slice A1 n1' c1') (.slice B1 m1 d1) (ex i2)) => sign6_any 34 (es i2) g1 A1 n1' c1' B1 m1 d1 (ex i2) W h1 (by omega)
      obtain ⟨z, hz⟩ : ∃ z, (!false && decide (esx (es i2) (ex i2) ≤ 0) && decide (0 ≤ esx (es j2) (ex j2))) = z := ⟨_, rfl⟩
      rw [hz] at Z
      have hz2 : z = true ↔ i2 ≤ 0 ∧ 0 ≤ j2 := by
        rw [← hz]
        simp only [Bool.not_false, Bool.true_and, Bool.and_eq_true, decide_eq_true_eq]
        omega
      cases z
      · have nz : ¬ (i2 ≤ 0 ∧ 0 ≤ j2) := fun h => by have := hz2.2 h; cases this
        by_cases h3 : esx (es i1) (ex i1) < 0
        · by_cases h4 : 0 < esx (es j1) (ex j1)
          · have hc : (i1 < 0 ∧ 0 < j1) ∧ ¬ (i2 ≤ 0 ∧ 0 ≤ j2) := ⟨⟨x1.2.1 h3, x2.1.1 h4⟩, nz⟩
            have n1' := n1
            have n2' := n2
            unfold Ne at n1' n2'
            have k := numok_idx n2
            have eL : prL i1 j1 i2 j2 = if j2 < 0 then PF i1 j1 (es i2) (ex i2) (es j2) (ex j2) (-(M : Int)) M else PN i1 j1 (es i2) (ex i2) (es j2) (ex j2) (-(M : Int)) M := by
              unfold prL; rw [if_neg (by omega), if_pos hc]
            have eU : prU i1 j1 i2 j2 = if j2 < 0 then PN i1 j1 (es i2) (ex i2) (es j2) (ex j2) (-(M : Int)) M else PF i1 j1 (es i2) (ex i2) (es j2) (ex j2) (-(M : Int)) M := by
              unfold prU; rw [if_neg (by omega), if_pos hc]
            have sg := Pq_signs k n1.neg
            refine refpair_split _ _ _ _ (pat (PF i1 j1 (es i2) (ex i2) (es j2) (ex j2) (-(M : Int)) M).1) (pat (PF i1 j1 (es i2) (ex i2) (es j2) (ex j2) (-(M : Int)) M).2) (pat (PN i1 j1 (es i2) (ex i2) (es j2) (ex j2) (-(M : Int)) M).1) (pat (PN i1 j1 (es i2) (ex i2) (es j2) (ex j2) (-(M : Int)) M).2) _ _ _ _ _ _ _ _ (es (-j1)) (es (-i1)) _ _ _ _ (ex (-j1)) (ex (-i1)) 68 _ _ _ (Pq i1 j1 (es i2) (ex i2) (es j2) (ex j2)).1 (Pq (-j1) (-i1) (es i2) (ex i2) (es j2) (ex j2)).1 (Pq (-j1) (-i1) (es i2) (ex i2) (es j2) (ex j2)).1 (Pq i1 j1 (es i2) (ex i2) (es j2) (ex j2)).2.1.1 (Pq i1 j1 (es i2) (ex i2) (es j2) (ex j2)).2.2.1 (Pq (-j1) (-i1) (es i2) (ex i2) (es j2) (ex j2)).2.1.1 (Pq (-j1) (-i1) (es i2) (ex i2) (es j2) (ex j2)).2.2.1 (-(Pq (-j1) (-i1) (es i2) (ex i2) (es j2) (ex j2)).2.2.1) (-(Pq (-j1) (-i1) (es i2) (ex i2) (es j2) (ex j2)).2.1.1) (Pq i1 j1 (es i2) (ex i2) (es j2) (ex j2)).2.1.2.1 (Pq i1 j1 (es i2) (ex i2) (es j2) (ex j2)).2.2.2.1 (Pq (-j1) (-i1) (es i2) (ex i2) (es j2) (ex j2)).2.1.2.1 (Pq (-j1) (-i1) (es i2) (ex i2) (es j2) (ex j2)).2.2.2.1 (-(Pq (-j1) (-i1) (es i2) (ex i2) (es j2) (ex j2)).2.2.2.1) (-(Pq (-j1) (-i1) (es i2) (ex i2) (es j2) (ex j2)).2.1.2.1) (Pq i1 j1 (es i2) (ex i2) (es j2) (ex j2)).2.1.2.2 (Pq i1 j1 (es i2) (ex i2) (es j2) (ex j2)).2.2.2.2 (Pq (-j1) (-i1) (es i2) (ex i2) (es j2) (ex j2)).2.1.2.2 (Pq (-j1) (-i1) (es i2) (ex i2) (es j2) (ex j2)).2.2.2.2 (Pq (-j1) (-i1) (es i2) (ex i2) (es j2) (ex j2)).2.2.2.2 (Pq (-j1) (-i1) (es i2) (ex i2) (es j2) (ex j2)).2.1.2.2 w O1 O2 Z S3 (decide_eq_true h3) S4 (decide_eq_true h4) S1 ?_ ?_ ?_ ?_ (fun W g1 A1 n1 c1 B1 m1 d1 g2 A2 n2 c2 B2 m2 d2 h1 h2 => minusp_any 68 _ _ g1 A1 n1 c1 B1 m1 d1 _ 1 _ _ g2 A2 n2 c2 B2 m2 d2 _ 1 _ W h1 h2 (by omega) sg.1 sg.2) ?_ ?_
            · rw [eL, eU]
              by_cases h5 : 0 < esx (es i2) (ex i2)
              · have := x3.1.1 h5
                rw [if_neg (by omega), if_neg (by omega)]
                exact .inl ⟨h5, rfl, rfl, rfl, rfl⟩
              · have h6 : ¬ 0 < i2 := fun h => h5 (x3.1.2 h)
                rw [if_pos (by omega), if_pos (by omega)]
                exact .inr ⟨h5, rfl, rfl, rfl, rfl⟩
            · intro W g1 A1 n1 c1 B1 m1 d1 g2 A2 n2 c2 B2 m2 d2 g3 A3 n3 c3 B3 m3 d3 g4 A4 n4 c4 B4 m4 d4 h1 h2 h3 h4
              exact quotients_pq 34 (es i2) g1 A1 n1 c1 B1 m1 d1 (ex i2) (es j2) g2 A2 n2 c2 B2 m2 d2 (ex j2) _ i1 j1 W h1 h2 (by omega) (by omega) k (.inr ⟨n1', g3, A3, n3, c3, B3, m3, d3, g4, A4, n4, c4, B4, m4, d4, rfl, h3, h4⟩) ‹Ne i1 j1›
            · intro W g3 A3 n3 c3 B3 m3 d3 g4 A4 n4 c4 B4 m4 d4 h3 h4
              have hs : ∀ i : Int, -1 ≤ es i ∧ es i ≤ 1 := fun i => by unfold es; split <;> (try split) <;> omega
              have h := minus_some 34 (es i1) g3 A3 n3 c3 B3 m3 d3 (ex i1) (es j1) g4 A4 n4 c4 B4 m4 d4 (ex j1) W h3 h4 (by omega) (hs _) (hs _)
              rw [← es_neg, ← es_neg, ← ex_neg, ← ex_neg] at h
              exact h
            · intro W g1 A1 n1 c1 B1 m1 d1 g2 A2 n2 c2 B2 m2 d2 g3 A3 n3 c3 B3 m3 d3 g4 A4 n4 c4 B4 m4 d4 h1 h2 h3 h4
              have nn := (‹Ne i1 j1›).neg
              have nn' := nn
              unfold Ne at nn'
              exact quotients_pq 34 (es i2) g1 A1 n1 c1 B1 m1 d1 (ex i2) (es j2) g2 A2 n2 c2 B2 m2 d2 (ex j2) _ (-j1) (-i1) W h1 h2 (by omega) (by omega) k (.inr ⟨nn', g3, A3, n3, c3, B3, m3, d3, g4, A4, n4, c4, B4, m4, d4, rfl, h3, h4⟩) nn
            · intro W g1 A1 n1 c1 B1 m1 d1 g2 A2 n2 c2 B2 m2 d2 h1 h2
              have h := (Pq_pcw 68 (es i2) (ex i2) (es j2) (ex j2) i1 j1 W g1 A1 n1 c1 B1 m1 d1 g2 A2 n2 c2 B2 m2 d2 k ‹Ne i1 j1› (by omega) (by omega) h1 h2).2 W (-(M : Int)) M (Below.refl _ _) ne_entire.iv
              rw [pat_max, pat_min] at h
              exact h
            · intro W g1 A1 n1 c1 B1 m1 d1 g2 A2 n2 c2 B2 m2 d2 h1 h2
              have h := (PN_pcw 68 (es i2) (ex i2) (es j2) (ex j2) i1 j1 W g1 A1 n1 c1 B1 m1 d1 g2 A2 n2 c2 B2 m2 d2 k ‹Ne i1 j1› (by omega) (by omega) h1 h2).2 W (-(M : Int)) M (Below.refl _ _) ne_entire.iv
              rw [pat_max, pat_min] at h
              exact h
          · refine fin (one fun h => h4 (x2.1.2 h.2.1.2)) ?_
            exact refpair_one _ _ _ _ _ _ false false false _ _ _ _ _ _ _ _ _ _ w O1 O2 (fun _ _ => Z) S3 S4 (.inr ⟨rfl, .inr ⟨rfl, .inr ⟨rfl, .inr ⟨decide_eq_true h3, decide_eq_false h4⟩⟩⟩⟩) hMR
        · refine fin (one fun h => h3 (x1.2.2 h.2.1.1)) ?_
          exact refpair_one _ _ _ _ _ _ false false false _ _ _ _ _ _ _ _ _ _ w O1 O2 (fun _ _ => Z) S3 S4 (.inr ⟨rfl, .inr ⟨rfl, .inr ⟨rfl, .inl (decide_eq_false h3)⟩⟩⟩) hMR
      · refine fin (one fun h => h.2.2 (hz2.1 rfl)) ?_
        exact refpair_one _ _ _ _ _ _ false false true _ _ _ _ _ _ _ _ _ _ w O1 O2 (fun _ _ => Z) S3 S4 (.inr ⟨rfl, .inr ⟨rfl, .inl rfl⟩⟩) hMR
end Go.Proofs.YtmjkmoahkanblaaGreat
