/-
Sets by their indexes: Minus, Plus, piece of a sum, all of one piece.
Walks: package vergeref10, AddRev, SubRev1, SubRev2.
-/
import Derived.Test.YtmjkmoahkanblaaGreatM21
import Derived.Test.YtmjkmoahkanblaaGreatM23
import Derived.Test.YtmjkmoahkanblaaGreatM10
set_option linter.unusedSimpArgs false
set_option linter.unusedVariables false

namespace Go.Proofs.YtmjkmoahkanblaaGreat
open Go.RowKit

theorem Iv.nega {i j : Int} (h : Iv i j) : Iv (-j) (-i) := by
  unfold Iv at *
  rw [M_val] at *
  omega
theorem minus_idx (v : Value) (i j : Int) (w : World) (h : SetOf w v i j) :
    Calls Tryz.prog 58 #[v] w fun e w' => ∃ t, e = .returned t ∧ SetOf w' t (-j) (-i) ∧ Below w.heap.size w w' := by
  rcases h with ⟨rfl, rfl, s, x, t, y, g, A, n, c, B, m, d, g', A', n', c', B', m', d', rfl, h4, h5⟩ | ⟨h1, g, A, n, c, B, m, d, g', A', n', c', B', m', d', rfl, h4, h5⟩
  · refine (minus_none 34 s g A n c B m d x t g' A' n' c' B' m' d' y w h4 h5).mono ?_
    rintro e w' ⟨g5, A5, n5, c5, B5, m5, d5, g6, A6, n6, c6, B6, m6, d6, rfl, q1, q2, hb⟩
    exact ⟨_, rfl, .inl ⟨by omega, rfl, _, _, _, _, _, _, _, _, _, _, _, _, _, _, _, _, _, _, rfl, q1, q2⟩, hb⟩
  · refine (minus_some 34 _ g A n c B m d _ _ g' A' n' c' B' m' d' _ w h4 h5 (by omega) (es_bounds i) (es_bounds j)).mono ?_
    rintro e w' ⟨g5, A5, n5, c5, B5, m5, d5, g6, A6, n6, c6, B6, m6, d6, rfl, q1, q2, hb⟩
    rw [← es_neg, ← es_neg]
    rw [← ex_neg] at q1 q2
    exact ⟨_, rfl, .inr ⟨by omega, _, _, _, _, _, _, _, _, _, _, _, _, _, _, rfl, q1, q2⟩, hb⟩

/-- A value that is a piece of which Within makes F. -/
def PieceOut (w : World) (v : Value) (F : Int → Int → Int × Int) : Prop :=
  ∃ o s1 g1 A1 n1 c1 B1 m1 d1 N1 o1 s2 g2 A2 n2 c2 B2 m2 d2 N2 o2,
    v = .agg #[.bool o, .int .i64 s1, .bool g1, .slice A1 n1 c1, .slice B1 m1 d1, .int .i64 N1, .bool o1, .int .i64 s2, .bool g2, .slice A2 n2 c2, .slice B2 m2 d2, .int .i64 N2, .bool o2] ∧ PcW w o s1 g1 A1 n1 c1 B1 m1 d1 N1 o1 s2 g2 A2 n2 c2 B2 m2 d2 N2 o2 F
/-- A set of which piece makes such a piece. -/
def SumP (w : World) (t : Value) (F : Int → Int → Int × Int) : Prop :=
  ∀ W, Below w.heap.size w W → Calls Tryz.prog 55 #[t] W fun e w' => ∃ v, e = .returned v ∧ PieceOut w' v F ∧ Below W.heap.size W w'
theorem PcW.below {w w0 : World} {o : Bool} {s1 : Int} {g1 : Bool} {A1 : Option Addr} {n1 c1 : Nat} {B1 : Option Addr} {m1 d1 : Nat} {N1 : Int} {o1 : Bool} {s2 : Int} {g2 : Bool} {A2 : Option Addr} {n2 c2 : Nat} {B2 : Option Addr} {m2 d2 : Nat} {N2 : Int} {o2 : Bool} {F : Int → Int → Int × Int}
    (h : PcW w0 o s1 g1 A1 n1 c1 B1 m1 d1 N1 o1 s2 g2 A2 n2 c2 B2 m2 d2 N2 o2 F) (hb : Below w0.heap.size w0 w) : PcW w o s1 g1 A1 n1 c1 B1 m1 d1 N1 o1 s2 g2 A2 n2 c2 B2 m2 d2 N2 o2 F :=
  ⟨h.1, fun W i j hW hij => h.2 W i j (hb.trans (hW.mono hb.size)) hij⟩

theorem es2_lo {i j : Int} (hi : i < M) (hj : j < M) : es2 (es i) (es j) = 0 ∨ es2 (es i) (es j) = -1 := by
  unfold es2 es
  rw [if_neg (show ¬ i = M by omega), if_neg (show ¬ j = M by omega)]
  split <;> split <;> (try split) <;> omega
theorem es2_hi {i j : Int} (hi : -(M : Int) < i) (hj : -(M : Int) < j) : es2 (es i) (es j) = 0 ∨ es2 (es i) (es j) = 1 := by
  unfold es2 es
  rw [if_neg (show ¬ i = -(M : Int) by omega), if_neg (show ¬ j = -(M : Int) by omega)]
  split <;> split <;> (try split) <;> omega
theorem ex2_inf {i j : Int} (h : es2 (es i) (es j) ≠ 0) : ex2 (es i) (ex i) (es j) (ex j) = 0 := by
  unfold es2 at h
  unfold ex2
  by_cases h1 : es i = 0
  · rw [if_neg (by simpa using h1)] at h
    rw [if_neg (by simpa using h1), if_pos h, ex_inf h]
  · rw [if_pos h1, ex_inf h1]
theorem es_ne {i : Int} : es i ≠ 0 ↔ i = M ∨ i = -(M : Int) := by
  have hM : M = 9218868437227405312 := rfl
  unfold es
  split
  · omega
  · split <;> omega
theorem sum_end (f : Int → Rat → Int) (d : Int) (hf : ∀ a : Int, -(M : Int) ≤ a ∧ a ≤ M → f (es a) (ex a) = a) (h0 : ∀ x, f 0 x = rndI d x) {i j : Int} (hi : -(M : Int) ≤ i ∧ i ≤ M) (hj : -(M : Int) ≤ j ∧ j ≤ M) :
    f (es2 (es i) (es j)) (ex2 (es i) (ex i) (es j) (ex j)) = ad d i j := by
  unfold es2 ex2 ad
  by_cases h1 : i = M ∨ i = -(M : Int)
  · rw [if_pos (es_ne.2 h1), if_pos (es_ne.2 h1), if_pos h1, hf i hi]
  · rw [if_neg (fun h => h1 (es_ne.1 h)), if_neg (fun h => h1 (es_ne.1 h)), if_neg h1]
    have z1 : es i = 0 := by
      by_cases h : es i = 0
      · exact h
      · exact absurd (es_ne.1 h) h1
    by_cases h2 : j = M ∨ j = -(M : Int)
    · rw [if_pos (es_ne.2 h2), if_pos h2, hf j hj]
    · rw [if_neg (fun h => h2 (es_ne.1 h)), if_neg h2]
      have z2 : es j = 0 := by
        by_cases h : es j = 0
        · exact h
        · exact absurd (es_ne.1 h) h2
      rw [z2, h0, ex_zero z1, ex_zero z2]
theorem dn_sum {i j : Int} (hi : -(M : Int) ≤ i ∧ i ≤ M) (hj : -(M : Int) ≤ j ∧ j ≤ M) : dn (es2 (es i) (es j)) (ex2 (es i) (ex i) (es j) (ex j)) = ad (-1) i j :=
  sum_end dn (-1) (fun _ h => dn_idx h) dn_zero hi hj
theorem up_sum {i j : Int} (hi : -(M : Int) ≤ i ∧ i ≤ M) (hj : -(M : Int) ≤ j ∧ j ≤ M) : up (es2 (es i) (es j)) (ex2 (es i) (ex i) (es j) (ex j)) = ad 1 i j :=
  sum_end up 1 (fun _ h => up_idx h) up_zero hi hj
theorem ad_le {i j i' j' : Int} (hi : -(M : Int) ≤ i ∧ i < M) (hj : -(M : Int) ≤ j ∧ j < M) (hi' : -(M : Int) < i' ∧ i' ≤ M) (hj' : -(M : Int) < j' ∧ j' ≤ M) (h1 : i ≤ i') (h2 : j ≤ j') : ad (-1) i j ≤ ad 1 i' j' := by
  have hb1 := rndI_down (fl i + fl j)
  have hb2 := rndI_up (fl i' + fl j')
  unfold ad
  by_cases c1 : i = M ∨ i = -(M : Int)
  · rw [if_pos c1]
    split
    · omega
    · split
      · omega
      · omega
  · rw [if_neg c1]
    by_cases c2 : j = M ∨ j = -(M : Int)
    · rw [if_pos c2]
      split
      · omega
      · split
        · omega
        · omega
    · rw [if_neg c2]
      split
      · omega
      · split
        · omega
        · have l1 := fl_le_iff.2 h1
          have l2 := fl_le_iff.2 h2
          have l3 : fl i + fl j ≤ fl i' + fl j' := by grind
          exact Int.le_trans (rndI_le _) (rndI_mono (.inr rfl) l3)

/-- What Within makes of the sum of two sets. -/
def Fadd (i1 j1 i2 j2 : Int) : Int → Int → Int × Int :=
  if j1 < i1 ∨ j2 < i2 then fun _ _ => ((M : Int), -(M : Int))
  else pf (es2 (es i1) (es i2)) (ex2 (es i1) (ex i1) (es i2) (ex i2)) (decide (es2 (es i1) (es i2) ≠ 0)) (es2 (es j1) (es j2)) (ex2 (es j1) (ex j1) (es j2) (ex j2)) (decide (es2 (es j1) (es j2) ≠ 0))
theorem sump_none (s1 : Int) (g1 : Bool) (A1 : Option Addr) (n1 c1 : Nat) (B1 : Option Addr) (m1 d1 : Nat) (s2 : Int) (g2 : Bool) (A2 : Option Addr) (n2 c2 : Nat) (B2 : Option Addr) (m2 d2 : Nat) (w : World) :
    SumP w (.agg #[.bool true, .int .i64 s1, .bool g1, .slice A1 n1 c1, .slice B1 m1 d1, .int .i64 s2, .bool g2, .slice A2 n2 c2, .slice B2 m2 d2]) (fun _ _ => ((M : Int), -(M : Int))) := by
  intro W _
  refine (piece_none 1 s1 g1 A1 n1 c1 B1 m1 d1 0 s2 g2 A2 n2 c2 B2 m2 d2 0 W).mono ?_
  rintro e w' ⟨g3, A3, n3, c3, B3, m3, d3, g4, A4, n4, c4, B4, m4, d4, rfl, -, -, hb⟩
  exact ⟨_, rfl, ⟨_, _, _, _, _, _, _, _, _, _, _, _, _, _, _, _, _, _, _, _, _, rfl, pcw_nothing _ _ _ _ _ _ _ _ 0 _ _ _ _ _ _ _ _ _ 0 _ _ _ _⟩, hb⟩
theorem plus_idx (u v : Value) (i1 j1 i2 j2 : Int) (w : World) (h : SetOf w u i1 j1) (h' : SetOf w v i2 j2) :
    Calls Tryz.prog 56 #[u, v] w fun e w' => ∃ t, e = .returned t ∧ SumP w' t (Fadd i1 j1 i2 j2) ∧ Below w.heap.size w w' := by
  have hM : M = 9218868437227405312 := rfl
  unfold Fadd
  rcases h with ⟨rfl, rfl, s1, x1, t1, y1, g1, A1, n1, c1, B1, m1, d1, g2, A2, n2, c2, B2, m2, d2, rfl, q1, q2⟩ | ⟨b1, g1, A1, n1, c1, B1, m1, d1, g2, A2, n2, c2, B2, m2, d2, rfl, q1, q2⟩
  · rw [if_pos (by omega)]
    have key : ∃ o s3 g3 A3 n3 c3 B3 m3 d3 s4 g4 A4 n4 c4 B4 m4 d4, v = .agg #[.bool o, .int .i64 s3, .bool g3, .slice A3 n3 c3, .slice B3 m3 d3, .int .i64 s4, .bool g4, .slice A4 n4 c4, .slice B4 m4 d4] := by
      rcases h' with ⟨-, -, s3, x3, t3, y3, g3, A3, n3, c3, B3, m3, d3, g4, A4, n4, c4, B4, m4, d4, rfl, q3, q4⟩ | ⟨b2, g3, A3, n3, c3, B3, m3, d3, g4, A4, n4, c4, B4, m4, d4, rfl, q3, q4⟩
      · exact ⟨_, _, _, _, _, _, _, _, _, _, _, _, _, _, _, _, _, rfl⟩
      · exact ⟨_, _, _, _, _, _, _, _, _, _, _, _, _, _, _, _, _, rfl⟩
    obtain ⟨o, s3, g3, A3, n3, c3, B3, m3, d3, s4, g4, A4, n4, c4, B4, m4, d4, rfl⟩ := key
    refine (plus6_none1 o s1 g1 A1 n1 c1 B1 m1 d1 t1 g2 A2 n2 c2 B2 m2 d2 s3 g3 A3 n3 c3 B3 m3 d3 s4 g4 A4 n4 c4 B4 m4 d4 w).mono ?_
    rintro e w' ⟨g5, A5, n5, c5, B5, m5, d5, g6, A6, n6, c6, B6, m6, d6, rfl, -, -, hb⟩
    exact ⟨_, rfl, sump_none _ _ _ _ _ _ _ _ _ _ _ _ _ _ _ _ _, hb⟩
  · rcases h' with ⟨rfl, rfl, s3, x3, t3, y3, g3, A3, n3, c3, B3, m3, d3, g4, A4, n4, c4, B4, m4, d4, rfl, q3, q4⟩ | ⟨b2, g3, A3, n3, c3, B3, m3, d3, g4, A4, n4, c4, B4, m4, d4, rfl, q3, q4⟩
    · rw [if_pos (by omega)]
      refine (plus6_none2 _ g1 A1 n1 c1 B1 m1 d1 _ g2 A2 n2 c2 B2 m2 d2 s3 g3 A3 n3 c3 B3 m3 d3 t3 g4 A4 n4 c4 B4 m4 d4 w).mono ?_
      rintro e w' ⟨g5, A5, n5, c5, B5, m5, d5, g6, A6, n6, c6, B6, m6, d6, rfl, -, -, hb⟩
      exact ⟨_, rfl, sump_none _ _ _ _ _ _ _ _ _ _ _ _ _ _ _ _ _, hb⟩
    · rw [if_neg (by omega)]
      refine (plus6_some 34 _ g1 A1 n1 c1 B1 m1 d1 _ _ g2 A2 n2 c2 B2 m2 d2 _ _ g3 A3 n3 c3 B3 m3 d3 _ _ g4 A4 n4 c4 B4 m4 d4 _ w q1 q2 q3 q4 (by omega)).mono ?_
      rintro e w' ⟨g5, A5, n5, c5, B5, m5, d5, g6, A6, n6, c6, B6, m6, d6, rfl, r1, r2, hb⟩
      refine ⟨_, rfl, fun W hW => ?_, hb⟩
      refine (piece_some 69 _ g5 A5 n5 c5 B5 m5 d5 _ _ g6 A6 n6 c6 B6 m6 d6 _ W (r1.below hW) (r2.below hW) (by omega) ex2_inf ex2_inf).mono ?_
      rintro e w'' ⟨g7, A7, n7, c7, B7, m7, d7, g8, A8, n8, c8, B8, m8, d8, rfl, r3, r4, hb2⟩
      refine ⟨_, rfl, ⟨_, _, _, _, _, _, _, _, _, _, _, _, _, _, _, _, _, _, _, _, _, rfl, pcw_one 69 _ _ _ _ _ _ _ _ _ _ _ _ _ _ _ _ _ _ _ _ w'' r3 r4 (by omega) (by omega) (es2_lo (by omega) (by omega)) (es2_hi (by omega) (by omega)) ?_⟩, hb2⟩
      rw [dn_sum (by omega) (by omega), up_sum (by omega) (by omega)]
      exact ad_le (by omega) (by omega) (by omega) (by omega) (by omega) (by omega)
/-- In all. -/
theorem Fadd_ct {i1 j1 i2 j2 : Int} (h1 : Iv i1 j1) (h2 : Iv i2 j2) {i j : Int} (h : Iv i j) :
    Fadd i1 j1 i2 j2 i j = if j1 < i1 ∨ j2 < i2 ∨ j < i then ((M : Int), -(M : Int)) else ct i j (ad (-1) i1 i2) (ad 1 i1 i2) (ad (-1) j1 j2) (ad 1 j1 j2) := by
  unfold Fadd
  by_cases c : j1 < i1 ∨ j2 < i2
  · rw [if_pos c, if_pos (by omega)]
  · rw [if_neg c]
    by_cases c3 : j < i
    · rw [if_pos (by omega)]
      unfold pf
      rw [if_pos c3]
    · rw [if_neg (by omega)]
      unfold Iv at h1 h2 h
      have hM : M = 9218868437227405312 := rfl
      rw [pf_closed (es2_lo (by omega) (by omega)) (es2_hi (by omega) (by omega)) i j (by omega), dn_sum (by omega) (by omega), up_sum (by omega) (by omega), dn_sum (by omega) (by omega), up_sum (by omega) (by omega)]
theorem pcg_new {w : World} {t : TypeId} {o : Bool} {s1 : Int} {g1 : Bool} {A1 : Option Addr} {n1 c1 : Nat} {B1 : Option Addr} {m1 d1 : Nat} {N1 : Int} {o1 : Bool} {s2 : Int} {g2 : Bool} {A2 : Option Addr} {n2 c2 : Nat} {B2 : Option Addr} {m2 d2 : Nat} {N2 : Int} {o2 : Bool} {F : Int → Int → Int × Int}
    (h : PcW w o s1 g1 A1 n1 c1 B1 m1 d1 N1 o1 s2 g2 A2 n2 c2 B2 m2 d2 N2 o2 F) : PcG (w.alloc (.cells #[.bool o, .int .i64 s1, .bool g1, .slice A1 n1 c1, .slice B1 m1 d1, .int .i64 N1, .bool o1, .int .i64 s2, .bool g2, .slice A2 n2 c2, .slice B2 m2 d2, .int .i64 N2, .bool o2] t)) ⟨w.heap.size, 0, none⟩ 0 F := by
  refine ⟨o, s1, g1, A1, n1, c1, B1, m1, d1, N1, o1, s2, g2, A2, n2, c2, B2, m2, d2, N2, o2, ?_, ?_, ?_, ?_, ?_, ?_, ?_, ?_, ?_, ?_, ?_, ?_, ?_, h.below (below_alloc w _)⟩
  all_goals simp [Addr.add, World.cell?_alloc_new]
theorem all_one (x y : Nat) (F : Int → Int → Int × Int) (w : World) (t : TypeId) (hx : x < 18446744073709551616) (hy : y < 18446744073709551616) (o : Bool) (s1 : Int) (g1 : Bool) (A1 : Option Addr) (n1 c1 : Nat) (B1 : Option Addr) (m1 d1 : Nat) (N1 : Int) (o1 : Bool) (s2 : Int) (g2 : Bool) (A2 : Option Addr) (n2 c2 : Nat) (B2 : Option Addr) (m2 d2 : Nat) (N2 : Int) (o2 : Bool)
    (h : PcW w o s1 g1 A1 n1 c1 B1 m1 d1 N1 o1 s2 g2 A2 n2 c2 B2 m2 d2 N2 o2 F) :
    Calls Tryz.prog 54 #[.agg #[.int .u64 (x : Int), .int .u64 (y : Int)], .slice (some ⟨w.heap.size, 0, none⟩) 1 1] (w.alloc (.cells #[.bool o, .int .i64 s1, .bool g1, .slice A1 n1 c1, .slice B1 m1 d1, .int .i64 N1, .bool o1, .int .i64 s2, .bool g2, .slice A2 n2 c2, .slice B2 m2 d2, .int .i64 N2, .bool o2] t)) fun e w' =>
      e = .returned (.agg #[.int .u64 (pat (F (rd x y).1 (rd x y).2).1 : Int), .int .u64 (pat (F (rd x y).1 (rd x y).2).2 : Int)]) ∧ Below (w.alloc (.cells #[.bool o, .int .i64 s1, .bool g1, .slice A1 n1 c1, .slice B1 m1 d1, .int .i64 N1, .bool o1, .int .i64 s2, .bool g2, .slice A2 n2 c2, .slice B2 m2 d2, .int .i64 N2, .bool o2] t)).heap.size (w.alloc (.cells #[.bool o, .int .i64 s1, .bool g1, .slice A1 n1 c1, .slice B1 m1 d1, .int .i64 N1, .bool o1, .int .i64 s2, .bool g2, .slice A2 n2 c2, .slice B2 m2 d2, .int .i64 N2, .bool o2] t)) w' := by
  have ha := all_gen x y ⟨w.heap.size, 0, none⟩ 1 1 (fun _ => F) _ hx hy (by omega) (by omega) (fun k hk => by
    obtain rfl : k = 0 := by omega
    exact pcg_new (t := t) h)
  have hz : zg (rd x y).1 (rd x y).2 (fun _ => F) 1 = F (rd x y).1 (rd x y).2 := by
    have hM : M = 9218868437227405312 := rfl
    show hl M (-(M : Int)) _ _ = _
    unfold hl
    rw [if_pos (by omega)]
  rw [hz] at ha
  exact ha

end Go.Proofs.YtmjkmoahkanblaaGreat

namespace Go.Proofs.YtmjkmoahkanblaaGreat
open Go.RowKit

set_option maxHeartbeats 6400000 in
theorem refaddrev_any (b1 b2 c1 c2 x y : Nat) (w : World) (hb1 : b1 < 18446744073709551616) (hb2 : b2 < 18446744073709551616) (hc1 : c1 < 18446744073709551616) (hc2 : c2 < 18446744073709551616) (hx : x < 18446744073709551616) (hy : y < 18446744073709551616) :
    Calls Tryz.prog 14 #[.agg #[.int .u64 (b1 : Int), .int .u64 (b2 : Int)], .agg #[.int .u64 (c1 : Int), .int .u64 (c2 : Int)], .agg #[.int .u64 (x : Int), .int .u64 (y : Int)]] w fun e w' => e = .returned (.agg #[.int .u64 (pat (Fadd (rd c1 c2).1 (rd c1 c2).2 (-(rd b1 b2).2) (-(rd b1 b2).1) (rd x y).1 (rd x y).2).1 : Int), .int .u64 (pat (Fadd (rd c1 c2).1 (rd c1 c2).2 (-(rd b1 b2).2) (-(rd b1 b2).1) (rd x y).1 (rd x y).2).2 : Int)]) ∧ Below w.heap.size w w' := by
  have HO1 := Lib.hid fun W => of_idx c1 c2 W hc1 hc2
  have HO2 := Lib.hid fun W => of_idx b1 b2 W hb1 hb2
  have HM := Lib.hid fun W u (h : SetOf W u (rd b1 b2).1 (rd b1 b2).2) => minus_idx u _ _ W h
  have HP := Lib.hid fun W u v (h : SetOf W u (rd c1 c2).1 (rd c1 c2).2) (h' : SetOf W v (-(rd b1 b2).2) (-(rd b1 b2).1)) => plus_idx u v _ _ _ _ W h h'
  obtain ⟨F, hF⟩ : ∃ F, Fadd (rd c1 c2).1 (rd c1 c2).2 (-(rd b1 b2).2) (-(rd b1 b2).1) = F := ⟨_, rfl⟩
  rw [hF] at HP ⊢
  have HA := Lib.hid fun W => all_one x y F W 64 hx hy
  obtain ⟨p, hp⟩ : ∃ p, pat (F (rd x y).1 (rd x y).2).1 = p := ⟨_, rfl⟩
  obtain ⟨q, hq⟩ : ∃ p, pat (F (rd x y).1 (rd x y).2).2 = p := ⟨_, rfl⟩
  rw [hp, hq] at HA ⊢
  obtain ⟨i1, e1⟩ : ∃ i, (rd c1 c2).1 = i := ⟨_, rfl⟩
  obtain ⟨j1, e2⟩ : ∃ i, (rd c1 c2).2 = i := ⟨_, rfl⟩
  obtain ⟨i2, e3⟩ : ∃ i, (rd b1 b2).1 = i := ⟨_, rfl⟩
  obtain ⟨j2, e4⟩ : ∃ i, (rd b1 b2).2 = i := ⟨_, rfl⟩
  rw [e1, e2] at HO1 HP
  rw [e3, e4] at HO2 HP HM
  clear hF hp hq e1 e2 e3 e4
  have LB0 := Lib.hid (show Below w.heap.size w ((((w.alloc (.cells #[.int .u64 (b1 : Int), .int .u64 (b2 : Int)] 24)).alloc (.cells #[.int .u64 (c1 : Int), .int .u64 (c2 : Int)] 24)).alloc (.cells #[.int .u64 (x : Int), .int .u64 (y : Int)] 24)).alloc (.cells #[.int .u64 0, .int .u64 0] 24)) from ((((below_alloc w _).alloc (by simp <;> omega) _).alloc (by simp <;> omega) _).alloc (by simp <;> omega) _))
  have LG0_0 := Lib.hid (((((Blk.at (W := w) (g := w.heap.size) (by simp <;> omega) 24 #[.int .u64 (b1 : Int), .int .u64 (b2 : Int)]).alloc (.cells #[.int .u64 (c1 : Int), .int .u64 (c2 : Int)] 24)).alloc (.cells #[.int .u64 (x : Int), .int .u64 (y : Int)] 24)).alloc (.cells #[.int .u64 0, .int .u64 0] 24)))
  have LG1_0 := Lib.hid ((((Blk.at (W := (w.alloc (.cells #[.int .u64 (b1 : Int), .int .u64 (b2 : Int)] 24))) (g := (w.heap.size + 1)) (by simp <;> omega) 24 #[.int .u64 (c1 : Int), .int .u64 (c2 : Int)]).alloc (.cells #[.int .u64 (x : Int), .int .u64 (y : Int)] 24)).alloc (.cells #[.int .u64 0, .int .u64 0] 24)))
  have LG2_0 := Lib.hid (((Blk.at (W := ((w.alloc (.cells #[.int .u64 (b1 : Int), .int .u64 (b2 : Int)] 24)).alloc (.cells #[.int .u64 (c1 : Int), .int .u64 (c2 : Int)] 24))) (g := (w.heap.size + 2)) (by simp <;> omega) 24 #[.int .u64 (x : Int), .int .u64 (y : Int)]).alloc (.cells #[.int .u64 0, .int .u64 0] 24)))
  have LR0 := Lib.hid (HasBlk.of (n := 2) (Blk.at (W := (((w.alloc (.cells #[.int .u64 (b1 : Int), .int .u64 (b2 : Int)] 24)).alloc (.cells #[.int .u64 (c1 : Int), .int .u64 (c2 : Int)] 24)).alloc (.cells #[.int .u64 (x : Int), .int .u64 (y : Int)] 24))) (g := (w.heap.size + 3)) (by simp <;> omega) 24 #[.int .u64 0, .int .u64 0]) rfl rfl)
  go_enter Tryz.func14, Tryz.ntmps14
  go_wp2_with fail
  refine wp_region_held_drew (S := fun W' => Blk W' w.heap.size 24 #[.int .u64 (b1 : Int), .int .u64 (b2 : Int)] ∧ Blk W' (w.heap.size + 1) 24 #[.int .u64 (c1 : Int), .int .u64 (c2 : Int)] ∧ Blk W' (w.heap.size + 2) 24 #[.int .u64 (x : Int), .int .u64 (y : Int)] ∧ HasBlk W' (w.heap.size + 3) 24 2 ∧ Below w.heap.size w W') (by kernel_rfl) (by exact ⟨LG0_0.out.drew, LG1_0.out.drew, LG2_0.out.drew, LR0.out.drew, LB0.out.drew⟩) (fun hHeld => ?_)
  refine wpAnyH_take (i := 0) (v := ?_) rfl (by kernel_rfl) (by kernel_rfl) (by kernel_rfl) (fun _ _ _ h => h) (Or.inl ⟨by rfl, ?_⟩) (by assumption) ?_
  rotate_left
  · (intro W2 hSw; (try dsimp only at hSw); have q0 : _ = some (.int .u64 (x : Int) : Value) := hSw.2.2.1.cell 0; have q1 : _ = some (.int .u64 (y : Int) : Value) := hSw.2.2.1.cell 1; go_simp; (try with_reducible rfl))
  try simp only [Act.put, List.getElem_toArray, List.getElem_cons_succ, List.getElem_cons_zero, List.setIfInBounds_toArray, List.set_cons_zero, List.set_cons_succ]
  refine wpAnyH_take (i := 1) (v := ?_) rfl (by kernel_rfl) (by kernel_rfl) (by kernel_rfl) (fun _ _ _ h => h) (Or.inl ⟨by rfl, ?_⟩) (by assumption) ?_
  rotate_left
  · (intro W2 hSw; (try dsimp only at hSw); have q0 : _ = some (.int .u64 (c1 : Int) : Value) := hSw.2.1.cell 0; have q1 : _ = some (.int .u64 (c2 : Int) : Value) := hSw.2.1.cell 1; go_simp; (try with_reducible rfl))
  try simp only [Act.put, List.getElem_toArray, List.getElem_cons_succ, List.getElem_cons_zero, List.setIfInBounds_toArray, List.set_cons_zero, List.set_cons_succ]
  refine wpAnyH_take (i := 3) (v := ?_) rfl (by kernel_rfl) (by kernel_rfl) (by kernel_rfl) (fun _ _ _ h => h) (Or.inl ⟨by rfl, ?_⟩) (by assumption) ?_
  rotate_left
  · (intro W2 hSw; (try dsimp only at hSw); have q0 : _ = some (.int .u64 (b1 : Int) : Value) := hSw.1.cell 0; have q1 : _ = some (.int .u64 (b2 : Int) : Value) := hSw.1.cell 1; go_simp; (try with_reducible rfl))
  try simp only [Act.put, List.getElem_toArray, List.getElem_cons_succ, List.getElem_cons_zero, List.setIfInBounds_toArray, List.set_cons_zero, List.set_cons_succ]
  refine wpAnyH_ready (rs := [2]) (by kernel_rfl) (by simp) ?_
  refine AllReadyH.cons rfl (fun KK hKK => ?_) AllReadyH.nil
  go_simp
  refine (HO1.out _).mono ?_
  rintro e w1 ⟨u1, rfl, hu1, hbA⟩
  go_wp2_with fail
  refine hKK.out _ _ (⟨hHeld.1.keep hbA, hHeld.2.1.keep hbA, hHeld.2.2.1.keep hbA, hHeld.2.2.2.1.keep hbA, hHeld.2.2.2.2.trans (hbA.mono hHeld.2.2.2.2.size)⟩) (fun _ => ?_)
  clear hKK KK hHeld; rename_i hHeld
  try simp only [Act.put, List.getElem_toArray, List.getElem_cons_succ, List.getElem_cons_zero, List.setIfInBounds_toArray, List.set_cons_zero, List.set_cons_succ]
  refine wpAnyH_ready (rs := [4]) (by kernel_rfl) (by simp) ?_
  refine AllReadyH.cons rfl (fun KK hKK => ?_) AllReadyH.nil
  go_simp
  refine (HO2.out _).mono ?_
  rintro e w2 ⟨u2, rfl, hu2, hbB⟩
  go_wp2_with fail
  refine hKK.out _ _ (⟨hHeld.1.keep hbB, hHeld.2.1.keep hbB, hHeld.2.2.1.keep hbB, hHeld.2.2.2.1.keep hbB, hHeld.2.2.2.2.trans (hbB.mono hHeld.2.2.2.2.size)⟩) (fun _ => ?_)
  clear hKK KK hHeld; rename_i hHeld
  try simp only [Act.put, List.getElem_toArray, List.getElem_cons_succ, List.getElem_cons_zero, List.setIfInBounds_toArray, List.set_cons_zero, List.set_cons_succ]
  refine wpAnyH_ready (rs := [5]) (by kernel_rfl) (by simp) ?_
  refine AllReadyH.cons rfl (fun KK hKK => ?_) AllReadyH.nil
  go_simp
  refine (HM.out _ _ hu2).mono ?_
  rintro e w3 ⟨u3, rfl, hu3, hbC⟩
  go_wp2_with fail
  refine hKK.out _ _ (⟨hHeld.1.keep hbC, hHeld.2.1.keep hbC, hHeld.2.2.1.keep hbC, hHeld.2.2.2.1.keep hbC, hHeld.2.2.2.2.trans (hbC.mono hHeld.2.2.2.2.size)⟩) (fun _ => ?_)
  clear hKK KK hHeld; rename_i hHeld
  try simp only [Act.put, List.getElem_toArray, List.getElem_cons_succ, List.getElem_cons_zero, List.setIfInBounds_toArray, List.set_cons_zero, List.set_cons_succ]
  refine wpAnyH_ready (rs := [6]) (by kernel_rfl) (by simp) ?_
  refine AllReadyH.cons rfl (fun KK hKK => ?_) AllReadyH.nil
  go_simp
  refine (HP.out _ _ _ ((hu1.below hbB).below hbC) hu3).mono ?_
  rintro e w4 ⟨u4, rfl, hu4, hbD⟩
  go_wp2_with fail
  refine hKK.out _ _ (⟨hHeld.1.keep hbD, hHeld.2.1.keep hbD, hHeld.2.2.1.keep hbD, hHeld.2.2.2.1.keep hbD, hHeld.2.2.2.2.trans (hbD.mono hHeld.2.2.2.2.size)⟩) (fun _ => ?_)
  clear hKK KK hHeld; rename_i hHeld
  try simp only [Act.put, List.getElem_toArray, List.getElem_cons_succ, List.getElem_cons_zero, List.setIfInBounds_toArray, List.set_cons_zero, List.set_cons_succ]
  refine wpAnyH_ready (rs := [7]) (by kernel_rfl) (by simp) ?_
  refine AllReadyH.cons rfl (fun KK hKK => ?_) AllReadyH.nil
  go_simp
  refine (hu4 _ (Below.refl _ _)).mono ?_
  rintro e w5 ⟨u5, rfl, ⟨o, s1, g1, A1, n1, c3, B1, m1, d1, N1, o1, s2, g2, A2, n2, c4, B2, m2, d2, N2, o2, rfl, hu5⟩, hbE⟩
  go_wp2_with fail
  refine hKK.out _ _ (⟨hHeld.1.keep hbE, hHeld.2.1.keep hbE, hHeld.2.2.1.keep hbE, hHeld.2.2.2.1.keep hbE, hHeld.2.2.2.2.trans (hbE.mono hHeld.2.2.2.2.size)⟩) (fun _ => ?_)
  clear hKK KK hHeld; rename_i hHeld
  try simp only [Act.put, List.getElem_toArray, List.getElem_cons_succ, List.getElem_cons_zero, List.setIfInBounds_toArray, List.set_cons_zero, List.set_cons_succ]
  refine wpAnyH_ready (rs := [8]) (by kernel_rfl) (by simp) ?_
  refine AllReadyH.cons rfl (fun KK hKK => ?_) AllReadyH.nil
  go_simp
  refine hKK.out _ _ (⟨hHeld.1.alloc _, hHeld.2.1.alloc _, hHeld.2.2.1.alloc _, hHeld.2.2.2.1.alloc _, hHeld.2.2.2.2.alloc hHeld.2.2.2.2.size _⟩) (fun _ => ?_)
  clear hKK KK hHeld; rename_i hHeld
  try simp only [Act.put, List.getElem_toArray, List.getElem_cons_succ, List.getElem_cons_zero, List.setIfInBounds_toArray, List.set_cons_zero, List.set_cons_succ]
  refine wpAnyH_ready (rs := [9]) (by kernel_rfl) (by simp) ?_
  refine AllReadyH.cons rfl (fun KK hKK => ?_) AllReadyH.nil
  go_simp
  refine (HA.out _ _ _ _ _ _ _ _ _ _ _ _ _ _ _ _ _ _ _ _ _ _ hu5).mono ?_
  rintro e w6 ⟨rfl, hbF⟩
  go_wp2_with fail
  refine hKK.out _ _ (⟨hHeld.1.keep hbF, hHeld.2.1.keep hbF, hHeld.2.2.1.keep hbF, hHeld.2.2.2.1.keep hbF, hHeld.2.2.2.2.trans (hbF.mono hHeld.2.2.2.2.size)⟩) (fun _ => ?_)
  clear hKK KK hHeld; rename_i hHeld
  try simp only [Act.put, List.getElem_toArray, List.getElem_cons_succ, List.getElem_cons_zero, List.setIfInBounds_toArray, List.set_cons_zero, List.set_cons_succ]
  refine wpAnyH_ready (rs := [10]) (by kernel_rfl) (by simp) ?_
  refine AllReadyH.cons rfl (fun KK hKK => ?_) AllReadyH.nil
  have ha0 := hHeld.2.2.2.1.someCell 0 (by decide); have hf0 := hHeld.2.2.2.1.frozen 0; have ha1 := hHeld.2.2.2.1.someCell 1 (by decide); have hf1 := hHeld.2.2.2.1.frozen 1; have HK := Lib.hid (hHeld.2.2.2.1.setCell [.int .u64 (p : Int), .int .u64 (q : Int)] rfl); have F := Lib.hid (below_sets (w0 := w) (r := (w.heap.size + 3)) (by omega) [.int .u64 (p : Int), .int .u64 (q : Int)] 0 _ hHeld.2.2.2.2)
  go_simp
  refine hKK.out _ _ (⟨hHeld.1.other (by omega) 0 [.int .u64 (p : Int), .int .u64 (q : Int)], hHeld.2.1.other (by omega) 0 [.int .u64 (p : Int), .int .u64 (q : Int)], hHeld.2.2.1.other (by omega) 0 [.int .u64 (p : Int), .int .u64 (q : Int)], hHeld.2.2.2.1.sets [.int .u64 (p : Int), .int .u64 (q : Int)] rfl rfl, below_sets (by omega) [.int .u64 (p : Int), .int .u64 (q : Int)] 0 _ hHeld.2.2.2.2⟩) (fun _ => ?_)
  clear hKK KK hHeld; rename_i hHeld
  try simp only [Act.put, List.getElem_toArray, List.getElem_cons_succ, List.getElem_cons_zero, List.setIfInBounds_toArray, List.set_cons_zero, List.set_cons_succ]
  refine wpAnyH_done (by kernel_rfl) ?_ _
  have hk0 := HK.out 0 (by decide)
  have hk1 := HK.out 1 (by decide)
  simp [sets] at hk0 hk1
  clear hHeld HK hu1 hbA hu2 hbB hu3 hbC hu4 hbD hu5 hbE hbF
  clear LB0 LR0 LG0_0 LG1_0 LG2_0
  go_wp2
  refine bodyPost_ret (v := .agg #[.int .u64 (p : Int), .int .u64 (q : Int)]) (by simp [results, Tryz.results14, go_sem, hk0, hk1]) rfl ?_
  exact ⟨rfl, F.out⟩

set_option maxHeartbeats 6400000 in
theorem refsubrev1_any (b1 b2 c1 c2 x y : Nat) (w : World) (hb1 : b1 < 18446744073709551616) (hb2 : b2 < 18446744073709551616) (hc1 : c1 < 18446744073709551616) (hc2 : c2 < 18446744073709551616) (hx : x < 18446744073709551616) (hy : y < 18446744073709551616) :
    Calls Tryz.prog 16 #[.agg #[.int .u64 (b1 : Int), .int .u64 (b2 : Int)], .agg #[.int .u64 (c1 : Int), .int .u64 (c2 : Int)], .agg #[.int .u64 (x : Int), .int .u64 (y : Int)]] w fun e w' => e = .returned (.agg #[.int .u64 (pat (Fadd (rd c1 c2).1 (rd c1 c2).2 (rd b1 b2).1 (rd b1 b2).2 (rd x y).1 (rd x y).2).1 : Int), .int .u64 (pat (Fadd (rd c1 c2).1 (rd c1 c2).2 (rd b1 b2).1 (rd b1 b2).2 (rd x y).1 (rd x y).2).2 : Int)]) ∧ Below w.heap.size w w' := by
  have HO1 := Lib.hid fun W => of_idx c1 c2 W hc1 hc2
  have HO2 := Lib.hid fun W => of_idx b1 b2 W hb1 hb2
  have HP := Lib.hid fun W u v (h : SetOf W u (rd c1 c2).1 (rd c1 c2).2) (h' : SetOf W v (rd b1 b2).1 (rd b1 b2).2) => plus_idx u v _ _ _ _ W h h'
  obtain ⟨F, hF⟩ : ∃ F, Fadd (rd c1 c2).1 (rd c1 c2).2 (rd b1 b2).1 (rd b1 b2).2 = F := ⟨_, rfl⟩
  rw [hF] at HP ⊢
  have HA := Lib.hid fun W => all_one x y F W 64 hx hy
  obtain ⟨p, hp⟩ : ∃ p, pat (F (rd x y).1 (rd x y).2).1 = p := ⟨_, rfl⟩
  obtain ⟨q, hq⟩ : ∃ p, pat (F (rd x y).1 (rd x y).2).2 = p := ⟨_, rfl⟩
  rw [hp, hq] at HA ⊢
  obtain ⟨i1, e1⟩ : ∃ i, (rd c1 c2).1 = i := ⟨_, rfl⟩
  obtain ⟨j1, e2⟩ : ∃ i, (rd c1 c2).2 = i := ⟨_, rfl⟩
  obtain ⟨i2, e3⟩ : ∃ i, (rd b1 b2).1 = i := ⟨_, rfl⟩
  obtain ⟨j2, e4⟩ : ∃ i, (rd b1 b2).2 = i := ⟨_, rfl⟩
  rw [e1, e2] at HO1 HP
  rw [e3, e4] at HO2 HP
  clear hF hp hq e1 e2 e3 e4
  have LB0 := Lib.hid (show Below w.heap.size w ((((w.alloc (.cells #[.int .u64 (b1 : Int), .int .u64 (b2 : Int)] 24)).alloc (.cells #[.int .u64 (c1 : Int), .int .u64 (c2 : Int)] 24)).alloc (.cells #[.int .u64 (x : Int), .int .u64 (y : Int)] 24)).alloc (.cells #[.int .u64 0, .int .u64 0] 24)) from ((((below_alloc w _).alloc (by simp <;> omega) _).alloc (by simp <;> omega) _).alloc (by simp <;> omega) _))
  have LG0_0 := Lib.hid (((((Blk.at (W := w) (g := w.heap.size) (by simp <;> omega) 24 #[.int .u64 (b1 : Int), .int .u64 (b2 : Int)]).alloc (.cells #[.int .u64 (c1 : Int), .int .u64 (c2 : Int)] 24)).alloc (.cells #[.int .u64 (x : Int), .int .u64 (y : Int)] 24)).alloc (.cells #[.int .u64 0, .int .u64 0] 24)))
  have LG1_0 := Lib.hid ((((Blk.at (W := (w.alloc (.cells #[.int .u64 (b1 : Int), .int .u64 (b2 : Int)] 24))) (g := (w.heap.size + 1)) (by simp <;> omega) 24 #[.int .u64 (c1 : Int), .int .u64 (c2 : Int)]).alloc (.cells #[.int .u64 (x : Int), .int .u64 (y : Int)] 24)).alloc (.cells #[.int .u64 0, .int .u64 0] 24)))
  have LG2_0 := Lib.hid (((Blk.at (W := ((w.alloc (.cells #[.int .u64 (b1 : Int), .int .u64 (b2 : Int)] 24)).alloc (.cells #[.int .u64 (c1 : Int), .int .u64 (c2 : Int)] 24))) (g := (w.heap.size + 2)) (by simp <;> omega) 24 #[.int .u64 (x : Int), .int .u64 (y : Int)]).alloc (.cells #[.int .u64 0, .int .u64 0] 24)))
  have LR0 := Lib.hid (HasBlk.of (n := 2) (Blk.at (W := (((w.alloc (.cells #[.int .u64 (b1 : Int), .int .u64 (b2 : Int)] 24)).alloc (.cells #[.int .u64 (c1 : Int), .int .u64 (c2 : Int)] 24)).alloc (.cells #[.int .u64 (x : Int), .int .u64 (y : Int)] 24))) (g := (w.heap.size + 3)) (by simp <;> omega) 24 #[.int .u64 0, .int .u64 0]) rfl rfl)
  go_enter Tryz.func16, Tryz.ntmps16
  go_wp2_with fail
  refine wp_region_held_drew (S := fun W' => Blk W' w.heap.size 24 #[.int .u64 (b1 : Int), .int .u64 (b2 : Int)] ∧ Blk W' (w.heap.size + 1) 24 #[.int .u64 (c1 : Int), .int .u64 (c2 : Int)] ∧ Blk W' (w.heap.size + 2) 24 #[.int .u64 (x : Int), .int .u64 (y : Int)] ∧ HasBlk W' (w.heap.size + 3) 24 2 ∧ Below w.heap.size w W') (by kernel_rfl) (by exact ⟨LG0_0.out.drew, LG1_0.out.drew, LG2_0.out.drew, LR0.out.drew, LB0.out.drew⟩) (fun hHeld => ?_)
  refine wpAnyH_take (i := 0) (v := ?_) rfl (by kernel_rfl) (by kernel_rfl) (by kernel_rfl) (fun _ _ _ h => h) (Or.inl ⟨by rfl, ?_⟩) (by assumption) ?_
  rotate_left
  · (intro W2 hSw; (try dsimp only at hSw); have q0 : _ = some (.int .u64 (x : Int) : Value) := hSw.2.2.1.cell 0; have q1 : _ = some (.int .u64 (y : Int) : Value) := hSw.2.2.1.cell 1; go_simp; (try with_reducible rfl))
  try simp only [Act.put, List.getElem_toArray, List.getElem_cons_succ, List.getElem_cons_zero, List.setIfInBounds_toArray, List.set_cons_zero, List.set_cons_succ]
  refine wpAnyH_take (i := 1) (v := ?_) rfl (by kernel_rfl) (by kernel_rfl) (by kernel_rfl) (fun _ _ _ h => h) (Or.inl ⟨by rfl, ?_⟩) (by assumption) ?_
  rotate_left
  · (intro W2 hSw; (try dsimp only at hSw); have q0 : _ = some (.int .u64 (c1 : Int) : Value) := hSw.2.1.cell 0; have q1 : _ = some (.int .u64 (c2 : Int) : Value) := hSw.2.1.cell 1; go_simp; (try with_reducible rfl))
  try simp only [Act.put, List.getElem_toArray, List.getElem_cons_succ, List.getElem_cons_zero, List.setIfInBounds_toArray, List.set_cons_zero, List.set_cons_succ]
  refine wpAnyH_take (i := 3) (v := ?_) rfl (by kernel_rfl) (by kernel_rfl) (by kernel_rfl) (fun _ _ _ h => h) (Or.inl ⟨by rfl, ?_⟩) (by assumption) ?_
  rotate_left
  · (intro W2 hSw; (try dsimp only at hSw); have q0 : _ = some (.int .u64 (b1 : Int) : Value) := hSw.1.cell 0; have q1 : _ = some (.int .u64 (b2 : Int) : Value) := hSw.1.cell 1; go_simp; (try with_reducible rfl))
  try simp only [Act.put, List.getElem_toArray, List.getElem_cons_succ, List.getElem_cons_zero, List.setIfInBounds_toArray, List.set_cons_zero, List.set_cons_succ]
  refine wpAnyH_ready (rs := [2]) (by kernel_rfl) (by simp) ?_
  refine AllReadyH.cons rfl (fun KK hKK => ?_) AllReadyH.nil
  go_simp
  refine (HO1.out _).mono ?_
  rintro e w1 ⟨u1, rfl, hu1, hbA⟩
  go_wp2_with fail
  refine hKK.out _ _ (⟨hHeld.1.keep hbA, hHeld.2.1.keep hbA, hHeld.2.2.1.keep hbA, hHeld.2.2.2.1.keep hbA, hHeld.2.2.2.2.trans (hbA.mono hHeld.2.2.2.2.size)⟩) (fun _ => ?_)
  clear hKK KK hHeld; rename_i hHeld
  try simp only [Act.put, List.getElem_toArray, List.getElem_cons_succ, List.getElem_cons_zero, List.setIfInBounds_toArray, List.set_cons_zero, List.set_cons_succ]
  refine wpAnyH_ready (rs := [4]) (by kernel_rfl) (by simp) ?_
  refine AllReadyH.cons rfl (fun KK hKK => ?_) AllReadyH.nil
  go_simp
  refine (HO2.out _).mono ?_
  rintro e w2 ⟨u2, rfl, hu2, hbB⟩
  go_wp2_with fail
  refine hKK.out _ _ (⟨hHeld.1.keep hbB, hHeld.2.1.keep hbB, hHeld.2.2.1.keep hbB, hHeld.2.2.2.1.keep hbB, hHeld.2.2.2.2.trans (hbB.mono hHeld.2.2.2.2.size)⟩) (fun _ => ?_)
  clear hKK KK hHeld; rename_i hHeld
  try simp only [Act.put, List.getElem_toArray, List.getElem_cons_succ, List.getElem_cons_zero, List.setIfInBounds_toArray, List.set_cons_zero, List.set_cons_succ]
  refine wpAnyH_ready (rs := [5]) (by kernel_rfl) (by simp) ?_
  refine AllReadyH.cons rfl (fun KK hKK => ?_) AllReadyH.nil
  go_simp
  refine (HP.out _ _ _ (hu1.below hbB) hu2).mono ?_
  rintro e w4 ⟨u4, rfl, hu4, hbD⟩
  go_wp2_with fail
  refine hKK.out _ _ (⟨hHeld.1.keep hbD, hHeld.2.1.keep hbD, hHeld.2.2.1.keep hbD, hHeld.2.2.2.1.keep hbD, hHeld.2.2.2.2.trans (hbD.mono hHeld.2.2.2.2.size)⟩) (fun _ => ?_)
  clear hKK KK hHeld; rename_i hHeld
  try simp only [Act.put, List.getElem_toArray, List.getElem_cons_succ, List.getElem_cons_zero, List.setIfInBounds_toArray, List.set_cons_zero, List.set_cons_succ]
  refine wpAnyH_ready (rs := [6]) (by kernel_rfl) (by simp) ?_
  refine AllReadyH.cons rfl (fun KK hKK => ?_) AllReadyH.nil
  go_simp
  refine (hu4 _ (Below.refl _ _)).mono ?_
  rintro e w5 ⟨u5, rfl, ⟨o, s1, g1, A1, n1, c3, B1, m1, d1, N1, o1, s2, g2, A2, n2, c4, B2, m2, d2, N2, o2, rfl, hu5⟩, hbE⟩
  go_wp2_with fail
  refine hKK.out _ _ (⟨hHeld.1.keep hbE, hHeld.2.1.keep hbE, hHeld.2.2.1.keep hbE, hHeld.2.2.2.1.keep hbE, hHeld.2.2.2.2.trans (hbE.mono hHeld.2.2.2.2.size)⟩) (fun _ => ?_)
  clear hKK KK hHeld; rename_i hHeld
  try simp only [Act.put, List.getElem_toArray, List.getElem_cons_succ, List.getElem_cons_zero, List.setIfInBounds_toArray, List.set_cons_zero, List.set_cons_succ]
  refine wpAnyH_ready (rs := [7]) (by kernel_rfl) (by simp) ?_
  refine AllReadyH.cons rfl (fun KK hKK => ?_) AllReadyH.nil
  go_simp
  refine hKK.out _ _ (⟨hHeld.1.alloc _, hHeld.2.1.alloc _, hHeld.2.2.1.alloc _, hHeld.2.2.2.1.alloc _, hHeld.2.2.2.2.alloc hHeld.2.2.2.2.size _⟩) (fun _ => ?_)
  clear hKK KK hHeld; rename_i hHeld
  try simp only [Act.put, List.getElem_toArray, List.getElem_cons_succ, List.getElem_cons_zero, List.setIfInBounds_toArray, List.set_cons_zero, List.set_cons_succ]
  refine wpAnyH_ready (rs := [8]) (by kernel_rfl) (by simp) ?_
  refine AllReadyH.cons rfl (fun KK hKK => ?_) AllReadyH.nil
  go_simp
  refine (HA.out _ _ _ _ _ _ _ _ _ _ _ _ _ _ _ _ _ _ _ _ _ _ hu5).mono ?_
  rintro e w6 ⟨rfl, hbF⟩
  go_wp2_with fail
  refine hKK.out _ _ (⟨hHeld.1.keep hbF, hHeld.2.1.keep hbF, hHeld.2.2.1.keep hbF, hHeld.2.2.2.1.keep hbF, hHeld.2.2.2.2.trans (hbF.mono hHeld.2.2.2.2.size)⟩) (fun _ => ?_)
  clear hKK KK hHeld; rename_i hHeld
  try simp only [Act.put, List.getElem_toArray, List.getElem_cons_succ, List.getElem_cons_zero, List.setIfInBounds_toArray, List.set_cons_zero, List.set_cons_succ]
  refine wpAnyH_ready (rs := [9]) (by kernel_rfl) (by simp) ?_
  refine AllReadyH.cons rfl (fun KK hKK => ?_) AllReadyH.nil
  have ha0 := hHeld.2.2.2.1.someCell 0 (by decide); have hf0 := hHeld.2.2.2.1.frozen 0; have ha1 := hHeld.2.2.2.1.someCell 1 (by decide); have hf1 := hHeld.2.2.2.1.frozen 1; have HK := Lib.hid (hHeld.2.2.2.1.setCell [.int .u64 (p : Int), .int .u64 (q : Int)] rfl); have F := Lib.hid (below_sets (w0 := w) (r := (w.heap.size + 3)) (by omega) [.int .u64 (p : Int), .int .u64 (q : Int)] 0 _ hHeld.2.2.2.2)
  go_simp
  refine hKK.out _ _ (⟨hHeld.1.other (by omega) 0 [.int .u64 (p : Int), .int .u64 (q : Int)], hHeld.2.1.other (by omega) 0 [.int .u64 (p : Int), .int .u64 (q : Int)], hHeld.2.2.1.other (by omega) 0 [.int .u64 (p : Int), .int .u64 (q : Int)], hHeld.2.2.2.1.sets [.int .u64 (p : Int), .int .u64 (q : Int)] rfl rfl, below_sets (by omega) [.int .u64 (p : Int), .int .u64 (q : Int)] 0 _ hHeld.2.2.2.2⟩) (fun _ => ?_)
  clear hKK KK hHeld; rename_i hHeld
  try simp only [Act.put, List.getElem_toArray, List.getElem_cons_succ, List.getElem_cons_zero, List.setIfInBounds_toArray, List.set_cons_zero, List.set_cons_succ]
  refine wpAnyH_done (by kernel_rfl) ?_ _
  have hk0 := HK.out 0 (by decide)
  have hk1 := HK.out 1 (by decide)
  simp [sets] at hk0 hk1
  clear hHeld HK hu1 hbA hu2 hbB hu4 hbD hu5 hbE hbF
  clear LB0 LR0 LG0_0 LG1_0 LG2_0
  go_wp2
  refine bodyPost_ret (v := .agg #[.int .u64 (p : Int), .int .u64 (q : Int)]) (by simp [results, Tryz.results16, go_sem, hk0, hk1]) rfl ?_
  exact ⟨rfl, F.out⟩

set_option maxHeartbeats 6400000 in
theorem refsubrev2_any (b1 b2 c1 c2 x y : Nat) (w : World) (hb1 : b1 < 18446744073709551616) (hb2 : b2 < 18446744073709551616) (hc1 : c1 < 18446744073709551616) (hc2 : c2 < 18446744073709551616) (hx : x < 18446744073709551616) (hy : y < 18446744073709551616) :
    Calls Tryz.prog 18 #[.agg #[.int .u64 (b1 : Int), .int .u64 (b2 : Int)], .agg #[.int .u64 (c1 : Int), .int .u64 (c2 : Int)], .agg #[.int .u64 (x : Int), .int .u64 (y : Int)]] w fun e w' => e = .returned (.agg #[.int .u64 (pat (Fadd (rd b1 b2).1 (rd b1 b2).2 (-(rd c1 c2).2) (-(rd c1 c2).1) (rd x y).1 (rd x y).2).1 : Int), .int .u64 (pat (Fadd (rd b1 b2).1 (rd b1 b2).2 (-(rd c1 c2).2) (-(rd c1 c2).1) (rd x y).1 (rd x y).2).2 : Int)]) ∧ Below w.heap.size w w' := by
  have HO1 := Lib.hid fun W => of_idx b1 b2 W hb1 hb2
  have HO2 := Lib.hid fun W => of_idx c1 c2 W hc1 hc2
  have HM := Lib.hid fun W u (h : SetOf W u (rd c1 c2).1 (rd c1 c2).2) => minus_idx u _ _ W h
  have HP := Lib.hid fun W u v (h : SetOf W u (rd b1 b2).1 (rd b1 b2).2) (h' : SetOf W v (-(rd c1 c2).2) (-(rd c1 c2).1)) => plus_idx u v _ _ _ _ W h h'
  obtain ⟨F, hF⟩ : ∃ F, Fadd (rd b1 b2).1 (rd b1 b2).2 (-(rd c1 c2).2) (-(rd c1 c2).1) = F := ⟨_, rfl⟩
  rw [hF] at HP ⊢
  have HA := Lib.hid fun W => all_one x y F W 64 hx hy
  obtain ⟨p, hp⟩ : ∃ p, pat (F (rd x y).1 (rd x y).2).1 = p := ⟨_, rfl⟩
  obtain ⟨q, hq⟩ : ∃ p, pat (F (rd x y).1 (rd x y).2).2 = p := ⟨_, rfl⟩
  rw [hp, hq] at HA ⊢
  obtain ⟨i1, e1⟩ : ∃ i, (rd b1 b2).1 = i := ⟨_, rfl⟩
  obtain ⟨j1, e2⟩ : ∃ i, (rd b1 b2).2 = i := ⟨_, rfl⟩
  obtain ⟨i2, e3⟩ : ∃ i, (rd c1 c2).1 = i := ⟨_, rfl⟩
  obtain ⟨j2, e4⟩ : ∃ i, (rd c1 c2).2 = i := ⟨_, rfl⟩
  rw [e1, e2] at HO1 HP
  rw [e3, e4] at HO2 HP HM
  clear hF hp hq e1 e2 e3 e4
  have LB0 := Lib.hid (show Below w.heap.size w ((((w.alloc (.cells #[.int .u64 (b1 : Int), .int .u64 (b2 : Int)] 24)).alloc (.cells #[.int .u64 (c1 : Int), .int .u64 (c2 : Int)] 24)).alloc (.cells #[.int .u64 (x : Int), .int .u64 (y : Int)] 24)).alloc (.cells #[.int .u64 0, .int .u64 0] 24)) from ((((below_alloc w _).alloc (by simp <;> omega) _).alloc (by simp <;> omega) _).alloc (by simp <;> omega) _))
  have LG0_0 := Lib.hid (((((Blk.at (W := w) (g := w.heap.size) (by simp <;> omega) 24 #[.int .u64 (b1 : Int), .int .u64 (b2 : Int)]).alloc (.cells #[.int .u64 (c1 : Int), .int .u64 (c2 : Int)] 24)).alloc (.cells #[.int .u64 (x : Int), .int .u64 (y : Int)] 24)).alloc (.cells #[.int .u64 0, .int .u64 0] 24)))
  have LG1_0 := Lib.hid ((((Blk.at (W := (w.alloc (.cells #[.int .u64 (b1 : Int), .int .u64 (b2 : Int)] 24))) (g := (w.heap.size + 1)) (by simp <;> omega) 24 #[.int .u64 (c1 : Int), .int .u64 (c2 : Int)]).alloc (.cells #[.int .u64 (x : Int), .int .u64 (y : Int)] 24)).alloc (.cells #[.int .u64 0, .int .u64 0] 24)))
  have LG2_0 := Lib.hid (((Blk.at (W := ((w.alloc (.cells #[.int .u64 (b1 : Int), .int .u64 (b2 : Int)] 24)).alloc (.cells #[.int .u64 (c1 : Int), .int .u64 (c2 : Int)] 24))) (g := (w.heap.size + 2)) (by simp <;> omega) 24 #[.int .u64 (x : Int), .int .u64 (y : Int)]).alloc (.cells #[.int .u64 0, .int .u64 0] 24)))
  have LR0 := Lib.hid (HasBlk.of (n := 2) (Blk.at (W := (((w.alloc (.cells #[.int .u64 (b1 : Int), .int .u64 (b2 : Int)] 24)).alloc (.cells #[.int .u64 (c1 : Int), .int .u64 (c2 : Int)] 24)).alloc (.cells #[.int .u64 (x : Int), .int .u64 (y : Int)] 24))) (g := (w.heap.size + 3)) (by simp <;> omega) 24 #[.int .u64 0, .int .u64 0]) rfl rfl)
  go_enter Tryz.func18, Tryz.ntmps18
  go_wp2_with fail
  refine wp_region_held_drew (S := fun W' => Blk W' w.heap.size 24 #[.int .u64 (b1 : Int), .int .u64 (b2 : Int)] ∧ Blk W' (w.heap.size + 1) 24 #[.int .u64 (c1 : Int), .int .u64 (c2 : Int)] ∧ Blk W' (w.heap.size + 2) 24 #[.int .u64 (x : Int), .int .u64 (y : Int)] ∧ HasBlk W' (w.heap.size + 3) 24 2 ∧ Below w.heap.size w W') (by kernel_rfl) (by exact ⟨LG0_0.out.drew, LG1_0.out.drew, LG2_0.out.drew, LR0.out.drew, LB0.out.drew⟩) (fun hHeld => ?_)
  refine wpAnyH_take (i := 0) (v := ?_) rfl (by kernel_rfl) (by kernel_rfl) (by kernel_rfl) (fun _ _ _ h => h) (Or.inl ⟨by rfl, ?_⟩) (by assumption) ?_
  rotate_left
  · (intro W2 hSw; (try dsimp only at hSw); have q0 : _ = some (.int .u64 (x : Int) : Value) := hSw.2.2.1.cell 0; have q1 : _ = some (.int .u64 (y : Int) : Value) := hSw.2.2.1.cell 1; go_simp; (try with_reducible rfl))
  try simp only [Act.put, List.getElem_toArray, List.getElem_cons_succ, List.getElem_cons_zero, List.setIfInBounds_toArray, List.set_cons_zero, List.set_cons_succ]
  refine wpAnyH_take (i := 1) (v := ?_) rfl (by kernel_rfl) (by kernel_rfl) (by kernel_rfl) (fun _ _ _ h => h) (Or.inl ⟨by rfl, ?_⟩) (by assumption) ?_
  rotate_left
  · (intro W2 hSw; (try dsimp only at hSw); have q0 : _ = some (.int .u64 (b1 : Int) : Value) := hSw.1.cell 0; have q1 : _ = some (.int .u64 (b2 : Int) : Value) := hSw.1.cell 1; go_simp; (try with_reducible rfl))
  try simp only [Act.put, List.getElem_toArray, List.getElem_cons_succ, List.getElem_cons_zero, List.setIfInBounds_toArray, List.set_cons_zero, List.set_cons_succ]
  refine wpAnyH_take (i := 3) (v := ?_) rfl (by kernel_rfl) (by kernel_rfl) (by kernel_rfl) (fun _ _ _ h => h) (Or.inl ⟨by rfl, ?_⟩) (by assumption) ?_
  rotate_left
  · (intro W2 hSw; (try dsimp only at hSw); have q0 : _ = some (.int .u64 (c1 : Int) : Value) := hSw.2.1.cell 0; have q1 : _ = some (.int .u64 (c2 : Int) : Value) := hSw.2.1.cell 1; go_simp; (try with_reducible rfl))
  try simp only [Act.put, List.getElem_toArray, List.getElem_cons_succ, List.getElem_cons_zero, List.setIfInBounds_toArray, List.set_cons_zero, List.set_cons_succ]
  refine wpAnyH_ready (rs := [2]) (by kernel_rfl) (by simp) ?_
  refine AllReadyH.cons rfl (fun KK hKK => ?_) AllReadyH.nil
  go_simp
  refine (HO1.out _).mono ?_
  rintro e w1 ⟨u1, rfl, hu1, hbA⟩
  go_wp2_with fail
  refine hKK.out _ _ (⟨hHeld.1.keep hbA, hHeld.2.1.keep hbA, hHeld.2.2.1.keep hbA, hHeld.2.2.2.1.keep hbA, hHeld.2.2.2.2.trans (hbA.mono hHeld.2.2.2.2.size)⟩) (fun _ => ?_)
  clear hKK KK hHeld; rename_i hHeld
  try simp only [Act.put, List.getElem_toArray, List.getElem_cons_succ, List.getElem_cons_zero, List.setIfInBounds_toArray, List.set_cons_zero, List.set_cons_succ]
  refine wpAnyH_ready (rs := [4]) (by kernel_rfl) (by simp) ?_
  refine AllReadyH.cons rfl (fun KK hKK => ?_) AllReadyH.nil
  go_simp
  refine (HO2.out _).mono ?_
  rintro e w2 ⟨u2, rfl, hu2, hbB⟩
  go_wp2_with fail
  refine hKK.out _ _ (⟨hHeld.1.keep hbB, hHeld.2.1.keep hbB, hHeld.2.2.1.keep hbB, hHeld.2.2.2.1.keep hbB, hHeld.2.2.2.2.trans (hbB.mono hHeld.2.2.2.2.size)⟩) (fun _ => ?_)
  clear hKK KK hHeld; rename_i hHeld
  try simp only [Act.put, List.getElem_toArray, List.getElem_cons_succ, List.getElem_cons_zero, List.setIfInBounds_toArray, List.set_cons_zero, List.set_cons_succ]
  refine wpAnyH_ready (rs := [5]) (by kernel_rfl) (by simp) ?_
  refine AllReadyH.cons rfl (fun KK hKK => ?_) AllReadyH.nil
  go_simp
  refine (HM.out _ _ hu2).mono ?_
  rintro e w3 ⟨u3, rfl, hu3, hbC⟩
  go_wp2_with fail
  refine hKK.out _ _ (⟨hHeld.1.keep hbC, hHeld.2.1.keep hbC, hHeld.2.2.1.keep hbC, hHeld.2.2.2.1.keep hbC, hHeld.2.2.2.2.trans (hbC.mono hHeld.2.2.2.2.size)⟩) (fun _ => ?_)
  clear hKK KK hHeld; rename_i hHeld
  try simp only [Act.put, List.getElem_toArray, List.getElem_cons_succ, List.getElem_cons_zero, List.setIfInBounds_toArray, List.set_cons_zero, List.set_cons_succ]
  refine wpAnyH_ready (rs := [6]) (by kernel_rfl) (by simp) ?_
  refine AllReadyH.cons rfl (fun KK hKK => ?_) AllReadyH.nil
  go_simp
  refine (HP.out _ _ _ ((hu1.below hbB).below hbC) hu3).mono ?_
  rintro e w4 ⟨u4, rfl, hu4, hbD⟩
  go_wp2_with fail
  refine hKK.out _ _ (⟨hHeld.1.keep hbD, hHeld.2.1.keep hbD, hHeld.2.2.1.keep hbD, hHeld.2.2.2.1.keep hbD, hHeld.2.2.2.2.trans (hbD.mono hHeld.2.2.2.2.size)⟩) (fun _ => ?_)
  clear hKK KK hHeld; rename_i hHeld
  try simp only [Act.put, List.getElem_toArray, List.getElem_cons_succ, List.getElem_cons_zero, List.setIfInBounds_toArray, List.set_cons_zero, List.set_cons_succ]
  refine wpAnyH_ready (rs := [7]) (by kernel_rfl) (by simp) ?_
  refine AllReadyH.cons rfl (fun KK hKK => ?_) AllReadyH.nil
  go_simp
  refine (hu4 _ (Below.refl _ _)).mono ?_
  rintro e w5 ⟨u5, rfl, ⟨o, s1, g1, A1, n1, c3, B1, m1, d1, N1, o1, s2, g2, A2, n2, c4, B2, m2, d2, N2, o2, rfl, hu5⟩, hbE⟩
  go_wp2_with fail
  refine hKK.out _ _ (⟨hHeld.1.keep hbE, hHeld.2.1.keep hbE, hHeld.2.2.1.keep hbE, hHeld.2.2.2.1.keep hbE, hHeld.2.2.2.2.trans (hbE.mono hHeld.2.2.2.2.size)⟩) (fun _ => ?_)
  clear hKK KK hHeld; rename_i hHeld
  try simp only [Act.put, List.getElem_toArray, List.getElem_cons_succ, List.getElem_cons_zero, List.setIfInBounds_toArray, List.set_cons_zero, List.set_cons_succ]
  refine wpAnyH_ready (rs := [8]) (by kernel_rfl) (by simp) ?_
  refine AllReadyH.cons rfl (fun KK hKK => ?_) AllReadyH.nil
  go_simp
  refine hKK.out _ _ (⟨hHeld.1.alloc _, hHeld.2.1.alloc _, hHeld.2.2.1.alloc _, hHeld.2.2.2.1.alloc _, hHeld.2.2.2.2.alloc hHeld.2.2.2.2.size _⟩) (fun _ => ?_)
  clear hKK KK hHeld; rename_i hHeld
  try simp only [Act.put, List.getElem_toArray, List.getElem_cons_succ, List.getElem_cons_zero, List.setIfInBounds_toArray, List.set_cons_zero, List.set_cons_succ]
  refine wpAnyH_ready (rs := [9]) (by kernel_rfl) (by simp) ?_
  refine AllReadyH.cons rfl (fun KK hKK => ?_) AllReadyH.nil
  go_simp
  refine (HA.out _ _ _ _ _ _ _ _ _ _ _ _ _ _ _ _ _ _ _ _ _ _ hu5).mono ?_
  rintro e w6 ⟨rfl, hbF⟩
  go_wp2_with fail
  refine hKK.out _ _ (⟨hHeld.1.keep hbF, hHeld.2.1.keep hbF, hHeld.2.2.1.keep hbF, hHeld.2.2.2.1.keep hbF, hHeld.2.2.2.2.trans (hbF.mono hHeld.2.2.2.2.size)⟩) (fun _ => ?_)
  clear hKK KK hHeld; rename_i hHeld
  try simp only [Act.put, List.getElem_toArray, List.getElem_cons_succ, List.getElem_cons_zero, List.setIfInBounds_toArray, List.set_cons_zero, List.set_cons_succ]
  refine wpAnyH_ready (rs := [10]) (by kernel_rfl) (by simp) ?_
  refine AllReadyH.cons rfl (fun KK hKK => ?_) AllReadyH.nil
  have ha0 := hHeld.2.2.2.1.someCell 0 (by decide); have hf0 := hHeld.2.2.2.1.frozen 0; have ha1 := hHeld.2.2.2.1.someCell 1 (by decide); have hf1 := hHeld.2.2.2.1.frozen 1; have HK := Lib.hid (hHeld.2.2.2.1.setCell [.int .u64 (p : Int), .int .u64 (q : Int)] rfl); have F := Lib.hid (below_sets (w0 := w) (r := (w.heap.size + 3)) (by omega) [.int .u64 (p : Int), .int .u64 (q : Int)] 0 _ hHeld.2.2.2.2)
  go_simp
  refine hKK.out _ _ (⟨hHeld.1.other (by omega) 0 [.int .u64 (p : Int), .int .u64 (q : Int)], hHeld.2.1.other (by omega) 0 [.int .u64 (p : Int), .int .u64 (q : Int)], hHeld.2.2.1.other (by omega) 0 [.int .u64 (p : Int), .int .u64 (q : Int)], hHeld.2.2.2.1.sets [.int .u64 (p : Int), .int .u64 (q : Int)] rfl rfl, below_sets (by omega) [.int .u64 (p : Int), .int .u64 (q : Int)] 0 _ hHeld.2.2.2.2⟩) (fun _ => ?_)
  clear hKK KK hHeld; rename_i hHeld
  try simp only [Act.put, List.getElem_toArray, List.getElem_cons_succ, List.getElem_cons_zero, List.setIfInBounds_toArray, List.set_cons_zero, List.set_cons_succ]
  refine wpAnyH_done (by kernel_rfl) ?_ _
  have hk0 := HK.out 0 (by decide)
  have hk1 := HK.out 1 (by decide)
  simp [sets] at hk0 hk1
  clear hHeld HK hu1 hbA hu2 hbB hu3 hbC hu4 hbD hu5 hbE hbF
  clear LB0 LR0 LG0_0 LG1_0 LG2_0
  go_wp2
  refine bodyPost_ret (v := .agg #[.int .u64 (p : Int), .int .u64 (q : Int)]) (by simp [results, Tryz.results18, go_sem, hk0, hk1]) rfl ?_
  exact ⟨rfl, F.out⟩

end Go.Proofs.YtmjkmoahkanblaaGreat
