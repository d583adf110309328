/-
Sets of read intervals: the calls of vergeref6 on them.
Walks: package vergeref10, all.
Rows of pieces that a call itself has made.
The first piece of a row.
-/
import Derived.Test.YthaojemejpbbgaaM16
import Derived.Deep.DeepCutAuto
import Derived.Test.YthaojemejpbbgaaM02
set_option linter.unusedSimpArgs false
set_option linter.unusedVariables false

namespace Go.Proofs.Ythaojemejpbbgaa
open Go.RowKit

/-- v is the set of the interval of the indexes i, j. -/
def SetOf (w : World) (v : Value) (i j : Int) : Prop :=
  (i = M ∧ j = -(M : Int) ∧ ∃ s x t y g A n c B m d g' A' n' c' B' m' d', v = .agg #[.bool true, .int .i64 s, .bool g, .slice A n c, .slice B m d, .int .i64 t, .bool g', .slice A' n' c', .slice B' m' d'] ∧
    RatV w 34 g (.slice A n c) (.slice B m d) x ∧ RatV w 34 g' (.slice A' n' c') (.slice B' m' d') y) ∨
  ((-(M : Int) ≤ i ∧ i ≤ j ∧ j ≤ M ∧ i < M ∧ -(M : Int) < j) ∧ ∃ g A n c B m d g' A' n' c' B' m' d', v = .agg #[.bool false, .int .i64 (es i), .bool g, .slice A n c, .slice B m d, .int .i64 (es j), .bool g', .slice A' n' c', .slice B' m' d'] ∧
    RatV w 34 g (.slice A n c) (.slice B m d) (ex i) ∧ RatV w 34 g' (.slice A' n' c') (.slice B' m' d') (ex j))
theorem SetOf.below {w w' : World} {v : Value} {i j : Int} (h : SetOf w v i j) (hb : Below w.heap.size w w') : SetOf w' v i j := by
  rcases h with ⟨h1, h2, s, x, t, y, g, A, n, c, B, m, d, g', A', n', c', B', m', d', h3, h4, h5⟩ | ⟨h1, g, A, n, c, B, m, d, g', A', n', c', B', m', d', h3, h4, h5⟩
  · exact .inl ⟨h1, h2, s, x, t, y, g, A, n, c, B, m, d, g', A', n', c', B', m', d', h3, h4.below hb, h5.below hb⟩
  · exact .inr ⟨h1, g, A, n, c, B, m, d, g', A', n', c', B', m', d', h3, h4.below hb, h5.below hb⟩
theorem SetOf.iv {w : World} {v : Value} {i j : Int} (h : SetOf w v i j) : Iv i j := by
  rcases h with ⟨h1, h2, -⟩ | ⟨h1, -⟩
  · exact .inr ⟨h1, h2⟩
  · exact .inl h1

theorem of_idx (x y : Nat) (w : World) (hx : x < 18446744073709551616) (hy : y < 18446744073709551616) :
    Calls Try.prog 16 #[.agg #[.int .u64 (x : Int), .int .u64 (y : Int)]] w fun e w' => ∃ v, e = .returned v ∧ SetOf w' v (rd x y).1 (rd x y).2 ∧ Below w.heap.size w w' := by
  cases h : snd x y
  · refine (of_none x y w hx hy h).mono ?_
    rintro e w' ⟨g, A, n, c, B, m, d, g', A', n', c', B', m', d', rfl, h1, h2, hb⟩
    refine ⟨_, rfl, .inl ?_, hb⟩
    unfold rd
    rw [h]
    exact ⟨rfl, rfl, _, _, _, _, g, A, n, c, B, m, d, g', A', n', c', B', m', d', rfl, h1.k34, h2.k34⟩
  · refine (of_full x y w hx hy h).mono ?_
    rintro e w' ⟨g, A, n, c, B, m, d, g', A', n', c', B', m', d', rfl, h1, h2, hb⟩
    refine ⟨_, rfl, .inr ?_, hb⟩
    have hd := of_decide_eq_true h
    have hi := idx_bounds hd.1
    have hj := idx_bounds hd.2.1
    unfold rd
    rw [h]
    exact ⟨⟨hi.1, hd.2.2.1, hj.2, hd.2.2.2.1, hd.2.2.2.2⟩, g, A, n, c, B, m, d, g', A', n', c', B', m', d', rfl, h1, h2⟩
/-- The least interval that holds two. -/
def hl (i j i' j' : Int) : Int × Int := if j < i then (i', j') else if j' < i' then (i, j) else (min i i', max j j')
theorem least_idx (v : Value) (i j : Int) (w : World) (h : SetOf w v i j) :
    Calls Try.prog 33 #[v] w fun e w' => e = .returned (.agg #[.int .u64 (pat i : Int), .int .u64 (pat j : Int)]) ∧ Below w.heap.size w w' := by
  rcases h with ⟨rfl, rfl, s, x, t, y, g, A, n, c, B, m, d, g', A', n', c', B', m', d', rfl, h4, h5⟩ | ⟨h1, g, A, n, c, B, m, d, g', A', n', c', B', m', d', rfl, h4, h5⟩
  · rw [pat_max, pat_min]
    exact least_none s g A n c B m d x t g' A' n' c' B' m' d' y w
  · refine (least_some 34 _ g A n c B m d _ _ g' A' n' c' B' m' d' _ w h4 h5 (by omega)).mono ?_
    rintro e w' ⟨i', j', rfl, r1, r2, r3, r4, hb⟩
    rw [least_lo (by omega) (by omega) r1 r2, least_hi (by omega) (by omega) r3 r4]
    exact ⟨rfl, hb⟩
theorem ec_sel_lo {i i' : Int} (h0 : -(M : Int) ≤ i ∧ i ≤ M) (h1 : -(M : Int) ≤ i' ∧ i' ≤ M) :
    (if ec (es i') (ex i') (es i) (ex i) < 0 then es i' else es i) = es (min i i') ∧ (if ec (es i') (ex i') (es i) (ex i) < 0 then ex i' else ex i) = ex (min i i') := by
  have := ec_idx h1.1 h1.2 h0.1 h0.2
  unfold SameSign at this
  by_cases h : i' < i
  · rw [if_pos (by omega), if_pos (by omega), show min i i' = i' from by omega]; exact ⟨rfl, rfl⟩
  · rw [if_neg (by omega), if_neg (by omega), show min i i' = i from by omega]; exact ⟨rfl, rfl⟩
theorem ec_sel_hi {i i' : Int} (h0 : -(M : Int) ≤ i ∧ i ≤ M) (h1 : -(M : Int) ≤ i' ∧ i' ≤ M) :
    (if 0 < ec (es i') (ex i') (es i) (ex i) then es i' else es i) = es (max i i') ∧ (if 0 < ec (es i') (ex i') (es i) (ex i) then ex i' else ex i) = ex (max i i') := by
  have := ec_idx h1.1 h1.2 h0.1 h0.2
  unfold SameSign at this
  by_cases h : i < i'
  · rw [if_pos (by omega), if_pos (by omega), show max i i' = i' from by omega]; exact ⟨rfl, rfl⟩
  · rw [if_neg (by omega), if_neg (by omega), show max i i' = i from by omega]; exact ⟨rfl, rfl⟩
theorem hull_idx (u v : Value) (i j i' j' : Int) (w : World) (h : SetOf w u i j) (h' : SetOf w v i' j') :
    Calls Try.prog 34 #[u, v] w fun e w' => ∃ t, e = .returned t ∧ SetOf w' t (hl i j i' j').1 (hl i j i' j').2 ∧ Below w.heap.size w w' := by
  have hM : M = 9218868437227405312 := rfl
  rcases h with ⟨rfl, rfl, s1, x1, t1, y1, g, A, n, c, B, m, d, g2, A2, n2, c2, B2, m2, d2, rfl, h4, h5⟩ | ⟨h1, g, A, n, c, B, m, d, g2, A2, n2, c2, B2, m2, d2, rfl, h4, h5⟩
  · have hh : hl M (-(M : Int)) i' j' = (i', j') := by unfold hl; rw [if_pos (by omega)]
    rw [hh]
    rcases h' with ⟨rfl, rfl, s3, x3, t3, y3, g', A', n', c', B', m', d', g4, A4, n4, c4, B4, m4, d4, rfl, h6, h7⟩ | ⟨h1', g', A', n', c', B', m', d', g4, A4, n4, c4, B4, m4, d4, rfl, h6, h7⟩
    · refine (hull_left 34 true s1 g A n c B m d x1 t1 g2 A2 n2 c2 B2 m2 d2 y1 s3 g' A' n' c' B' m' d' x3 t3 g4 A4 n4 c4 B4 m4 d4 y3 w h4 h5 h6 h7).mono ?_
      rintro e w' ⟨g5, A5, n5, c5, B5, m5, d5, g6, A6, n6, c6, B6, m6, d6, rfl, q1, q2, hb⟩
      exact ⟨_, rfl, .inl ⟨rfl, rfl, _, _, _, _, _, _, _, _, _, _, _, _, _, _, _, _, _, _, rfl, q1, q2⟩, hb⟩
    · refine (hull_left 34 false s1 g A n c B m d x1 t1 g2 A2 n2 c2 B2 m2 d2 y1 _ g' A' n' c' B' m' d' _ _ g4 A4 n4 c4 B4 m4 d4 _ w h4 h5 h6 h7).mono ?_
      rintro e w' ⟨g5, A5, n5, c5, B5, m5, d5, g6, A6, n6, c6, B6, m6, d6, rfl, q1, q2, hb⟩
      exact ⟨_, rfl, .inr ⟨h1', _, _, _, _, _, _, _, _, _, _, _, _, _, _, rfl, q1, q2⟩, hb⟩
  · rcases h' with ⟨rfl, rfl, s3, x3, t3, y3, g', A', n', c', B', m', d', g4, A4, n4, c4, B4, m4, d4, rfl, h6, h7⟩ | ⟨h1', g', A', n', c', B', m', d', g4, A4, n4, c4, B4, m4, d4, rfl, h6, h7⟩
    · have hh : hl i j M (-(M : Int)) = (i, j) := by unfold hl; rw [if_neg (by omega), if_pos (by omega)]
      rw [hh]
      refine (hull_right 34 _ g A n c B m d _ _ g2 A2 n2 c2 B2 m2 d2 _ s3 g' A' n' c' B' m' d' x3 t3 g4 A4 n4 c4 B4 m4 d4 y3 w h4 h5 h6 h7).mono ?_
      rintro e w' ⟨g5, A5, n5, c5, B5, m5, d5, g6, A6, n6, c6, B6, m6, d6, rfl, q1, q2, hb⟩
      exact ⟨_, rfl, .inr ⟨h1, _, _, _, _, _, _, _, _, _, _, _, _, _, _, rfl, q1, q2⟩, hb⟩
    · have hh : hl i j i' j' = (min i i', max j j') := by unfold hl; rw [if_neg (by omega), if_neg (by omega)]
      rw [hh]
      have e1 := ec_sel_lo (i := i) (i' := i') (by omega) (by omega)
      have e2 := ec_sel_hi (i := j) (i' := j') (by omega) (by omega)
      have := hull_both 34 (es i) g A n c B m d (ex i) (es j) g2 A2 n2 c2 B2 m2 d2 (ex j) (es i') g' A' n' c' B' m' d' (ex i') (es j') g4 A4 n4 c4 B4 m4 d4 (ex j') w h4 h5 h6 h7 (by omega)
      rw [e1.1, e1.2, e2.1, e2.2] at this
      refine this.mono ?_
      rintro e w' ⟨g5, A5, n5, c5, B5, m5, d5, g6, A6, n6, c6, B6, m6, d6, rfl, q1, q2, hb⟩
      exact ⟨_, rfl, .inr ⟨by dsimp only; omega, _, _, _, _, _, _, _, _, _, _, _, _, _, _, rfl, q1, q2⟩, hb⟩

end Go.Proofs.Ythaojemejpbbgaa

namespace Go.Proofs.Ythaojemejpbbgaa
open Go.RowKit

/-- The piece that lies at place k of a row of pieces: from the index a to the index b. -/
def PcAt (W : World) (ad : Addr) (k : Nat) (a b : Int) : Prop :=
  -(M : Int) ≤ a ∧ a < M ∧ -(M : Int) < b ∧ b ≤ M ∧ a ≤ b ∧ ∃ g1 A1 n1 c1 B1 m1 d1 g2 A2 n2 c2 B2 m2 d2,
    W.cell? (ad.add (k * 13)) = some (.bool false) ∧ W.cell? ⟨(ad.add (k * 13)).block, (ad.add (k * 13)).off + 1, none⟩ = some (.int .i64 (es a)) ∧ W.cell? ⟨(ad.add (k * 13)).block, (ad.add (k * 13)).off + 2, none⟩ = some (.bool g1) ∧
    W.cell? ⟨(ad.add (k * 13)).block, (ad.add (k * 13)).off + 3, none⟩ = some (.slice A1 n1 c1) ∧ W.cell? ⟨(ad.add (k * 13)).block, (ad.add (k * 13)).off + 4, none⟩ = some (.slice B1 m1 d1) ∧ W.cell? ⟨(ad.add (k * 13)).block, (ad.add (k * 13)).off + 5, none⟩ = some (.int .i64 1) ∧
    W.cell? ⟨(ad.add (k * 13)).block, (ad.add (k * 13)).off + 6, none⟩ = some (.bool (decide (es a ≠ 0))) ∧ W.cell? ⟨(ad.add (k * 13)).block, (ad.add (k * 13)).off + 7, none⟩ = some (.int .i64 (es b)) ∧ W.cell? ⟨(ad.add (k * 13)).block, (ad.add (k * 13)).off + 8, none⟩ = some (.bool g2) ∧
    W.cell? ⟨(ad.add (k * 13)).block, (ad.add (k * 13)).off + 9, none⟩ = some (.slice A2 n2 c2) ∧ W.cell? ⟨(ad.add (k * 13)).block, (ad.add (k * 13)).off + 10, none⟩ = some (.slice B2 m2 d2) ∧ W.cell? ⟨(ad.add (k * 13)).block, (ad.add (k * 13)).off + 11, none⟩ = some (.int .i64 1) ∧
    W.cell? ⟨(ad.add (k * 13)).block, (ad.add (k * 13)).off + 12, none⟩ = some (.bool (decide (es b ≠ 0))) ∧ RatV W 34 g1 (.slice A1 n1 c1) (.slice B1 m1 d1) (ex a) ∧ RatV W 34 g2 (.slice A2 n2 c2) (.slice B2 m2 d2) (ex b)

theorem es_mid' {i : Int} (h : -(M : Int) < i) (h' : i < M) : decide (es i ≠ 0) = false := by rw [es_mid h h']; rfl
theorem within_idx (i j a b : Int) (g1 : Bool) (A1 : Option Addr) (n1 c1 : Nat) (B1 : Option Addr) (m1 d1 : Nat) (g2 : Bool) (A2 : Option Addr) (n2 c2 : Nat) (B2 : Option Addr) (m2 d2 : Nat) (w : World)
    (hij : Iv i j) (ha : -(M : Int) ≤ a ∧ a < M) (hb : -(M : Int) < b ∧ b ≤ M) (h1 : RatV w 34 g1 (.slice A1 n1 c1) (.slice B1 m1 d1) (ex a)) (h2 : RatV w 34 g2 (.slice A2 n2 c2) (.slice B2 m2 d2) (ex b)) :
    Calls Try.prog 35 #[.agg #[.int .u64 (pat i : Int), .int .u64 (pat j : Int)], .agg #[.bool false, .int .i64 (es a), .bool g1, .slice A1 n1 c1, .slice B1 m1 d1, .int .i64 1, .bool (decide (es a ≠ 0)), .int .i64 (es b), .bool g2, .slice A2 n2 c2, .slice B2 m2 d2, .int .i64 1, .bool (decide (es b ≠ 0))]] w
      fun e w' => e = .returned (.agg #[.int .u64 (pat (wi i j a b).1 : Int), .int .u64 (pat (wi i j a b).2 : Int)]) ∧ Below w.heap.size w w' := by
  rcases hij with h | ⟨rfl, rfl⟩
  · exact within_full 34 i j a b g1 A1 n1 c1 B1 m1 d1 _ g2 A2 n2 c2 B2 m2 d2 _ w h ha hb h1 h2 (by omega) (by omega) (fun e => es_mid' (by omega) (by omega)) (fun e => es_mid' (by omega) (by omega))
  · have hM : M = 9218868437227405312 := rfl
    have e : wi M (-(M : Int)) a b = ((M : Int), -(M : Int)) := by unfold wi; rw [if_neg (by omega)]
    rw [e, pat_max, pat_min]
    exact within_none (es a) g1 A1 n1 c1 B1 m1 d1 0 (es b) g2 A2 n2 c2 B2 m2 d2 0 _ _ w
theorem hl_iv {i j i' j' : Int} (h : Iv i j) (h' : Iv i' j') : Iv (hl i j i' j').1 (hl i j i' j').2 := by
  unfold hl
  split
  · exact h'
  · split
    · exact h
    · unfold Iv at *
      rw [M_val] at *
      dsimp only
      omega
/-- What is hulled of the first k pieces. -/
def zf (i j : Int) (L : Nat → Int × Int) : Nat → Int × Int
  | 0 => ((M : Int), -(M : Int))
  | k + 1 => hl (zf i j L k).1 (zf i j L k).2 (wi i j (L k).1 (L k).2).1 (wi i j (L k).1 (L k).2).2
theorem zf_iv {i j : Int} {L : Nat → Int × Int} (hij : Iv i j) : ∀ k : Nat, (∀ t : Nat, t < k → -(M : Int) ≤ (L t).1 ∧ (L t).1 < M ∧ -(M : Int) < (L t).2 ∧ (L t).2 ≤ M ∧ (L t).1 ≤ (L t).2) → Iv (zf i j L k).1 (zf i j L k).2
  | 0, _ => Iv.none
  | k + 1, h => by
    have h1 := h k (by omega)
    exact hl_iv (zf_iv hij k fun t ht => h t (by omega)) (wi_iv hij h1.1 h1.2.1 h1.2.2.1 h1.2.2.2.1 h1.2.2.2.2)

set_option maxHeartbeats 6400000 in
theorem all_any (x y : Nat) (ad : Addr) (n c : Nat) (L : Nat → Int × Int) (w : World) (hx : x < 18446744073709551616) (hy : y < 18446744073709551616) (hn : n ≤ 100) (hc : n ≤ c) (hL : ∀ k : Nat, k < n → PcAt w ad k (L k).1 (L k).2) :
    Calls Try.prog 22 #[.agg #[.int .u64 (x : Int), .int .u64 (y : Int)], .slice (some ad) n c] w fun e w' =>
      e = .returned (.agg #[.int .u64 (pat (zf (rd x y).1 (rd x y).2 L n).1 : Int), .int .u64 (pat (zf (rd x y).1 (rd x y).2 L n).2 : Int)]) ∧ Below w.heap.size w w' := by
  have HR := Lib.hid fun W => read6 x y W hx hy
  have HE := Lib.hid empty6
  have hiv := rd_iv x y
  obtain ⟨i, hi⟩ : ∃ i, (rd x y).1 = i := ⟨_, rfl⟩
  obtain ⟨j, hj⟩ : ∃ i, (rd x y).2 = i := ⟨_, rfl⟩
  rw [hi, hj] at HR hiv ⊢
  have HZI := Lib.hid fun (k : Nat) (hk : k ≤ n) => zf_iv (L := L) hiv k fun t ht => by
    obtain ⟨a1, a2, a3, a4, a5, -⟩ := hL t (by omega)
    exact ⟨a1, a2, a3, a4, a5⟩
  have HIV := Lib.hid hiv
  have HL := Lib.hid hL
  obtain ⟨p, hp⟩ : ∃ p, pat i = p := ⟨_, rfl⟩
  obtain ⟨q, hq⟩ : ∃ p, pat j = p := ⟨_, rfl⟩
  rw [hp, hq] at HR
  have HP := Lib.hid hp
  have HQ := Lib.hid hq
  obtain ⟨zz, hzz⟩ : ∃ f : Nat → Int × Int, f = zf i j L := ⟨_, rfl⟩
  rw [← hzz] at HZI ⊢
  have HZZ := Lib.hid hzz
  clear hi hj hp hq hL hiv hzz
  have LB0 := Lib.hid (show Below w.heap.size w ((w.alloc (.cells #[.int .u64 (x : Int), .int .u64 (y : Int)] 24)).alloc (.cells #[.int .u64 0, .int .u64 0] 24)) from ((below_alloc w _).alloc (by simp <;> omega) _))
  have LG0_0 := Lib.hid (((Blk.at (W := w) (g := w.heap.size) (by simp <;> omega) 24 #[.int .u64 (x : Int), .int .u64 (y : Int)]).alloc (.cells #[.int .u64 0, .int .u64 0] 24)))
  have LR0 := Lib.hid (HasBlk.of (n := 2) (Blk.at (W := (w.alloc (.cells #[.int .u64 (x : Int), .int .u64 (y : Int)] 24))) (g := (w.heap.size + 1)) (by simp <;> omega) 24 #[.int .u64 0, .int .u64 0]) rfl rfl)
  go_enter Try.func22, Try.ntmps22
  go_wp2_with fail
  refine (HR.out _).mono ?_
  rintro e w1 ⟨rfl, hb1⟩
  have LB1 := Lib.hid (LB0.out.trans (hb1.mono LB0.out.size))
  have LR1 := Lib.hid (LR0.out.keep hb1)
  have LG0_1 := Lib.hid (LG0_0.out.keep hb1)
  clear LB0 LR0 LG0_0
  have hl1 := LB1.out.size
  have hlr1 := LR1.out.lt
  have hlt2 := LR1.out.lt
  have LB2 := Lib.hid (LB1.out.alloc LB1.out.size (.cells #[.int .u64 (p : Int), .int .u64 (q : Int)] 24))
  have LR2 := Lib.hid (LR1.out.alloc (.cells #[.int .u64 (p : Int), .int .u64 (q : Int)] 24))
  have LG0_2 := Lib.hid (LG0_1.out.alloc (.cells #[.int .u64 (p : Int), .int .u64 (q : Int)] 24))
  have LG1_2 := Lib.hid (Blk.new w1 24 #[.int .u64 (p : Int), .int .u64 (q : Int)])
  clear LB1 LR1 LG0_1
  clear hb1
  have hl2 : w1.heap.size < (w1.alloc (.cells #[.int .u64 (p : Int), .int .u64 (q : Int)] 24)).heap.size := by simp
  go_wp2_with fail
  refine (HE.out _).mono ?_
  rintro e w2 ⟨rfl, hb2⟩
  have LB3 := Lib.hid (LB2.out.trans (hb2.mono LB2.out.size))
  have LR3 := Lib.hid (LR2.out.keep hb2)
  have LG0_3 := Lib.hid (LG0_2.out.keep hb2)
  have LG1_3 := Lib.hid (LG1_2.out.keep hb2)
  clear LB2 LR2 LG0_2 LG1_2
  have hl3 := hb2.size
  have hl4 : w1.heap.size < w2.heap.size := by omega
  clear hl2 hl3
  have hlt4 := LR3.out.lt
  have LB4 := Lib.hid (LB3.out.alloc LB3.out.size (.cells #[.int .u64 9218868437227405312, .int .u64 18442240474082181120] 24))
  have LR4 := Lib.hid (LR3.out.alloc (.cells #[.int .u64 9218868437227405312, .int .u64 18442240474082181120] 24))
  have LG0_4 := Lib.hid (LG0_3.out.alloc (.cells #[.int .u64 9218868437227405312, .int .u64 18442240474082181120] 24))
  have LG1_4 := Lib.hid (LG1_3.out.alloc (.cells #[.int .u64 9218868437227405312, .int .u64 18442240474082181120] 24))
  have LG2_4 := Lib.hid (Blk.new w2 24 #[.int .u64 9218868437227405312, .int .u64 18442240474082181120])
  clear LB3 LR3 LG0_3 LG1_3
  clear hb2
  have hl5 := LB4.out.size
  go_wp2_with fail
  have hl6 : w.heap.size + 1 < w2.heap.size := by omega
  go_loopw [7] (fun iv wr => ∃ k : Nat, iv = .int .i64 (k : Int) ∧ k ≤ n ∧ Blk wr w1.heap.size 24 #[.int .u64 (p : Int), .int .u64 (q : Int)] ∧ Blk wr w2.heap.size 24 #[.int .u64 (pat (zz k).1 : Int), .int .u64 (pat (zz k).2 : Int)] ∧ HasBlk wr (w.heap.size + 1) 24 2 ∧ Below w.heap.size w wr) (fun iv _ => n - (intOf iv).toNat)
  case atStart =>
    refine ⟨0, rfl, by omega, LG1_4.out, ?_, LR4.out, LB4.out⟩
    have e : zz 0 = ((M : Int), -(M : Int)) := by rw [HZZ.out]; rfl
    rw [e, pat_max, pat_min]
    exact LG2_4.out
  case round =>
    clear LB4 LR4 LG0_4 LG1_4 LG2_4
    obtain ⟨k, rfl, hk, gy, gz, gr, gb⟩ := hrel
    have hiz := HZI.out k hk
    by_cases h : k < n
    · have h2 : (k : Int) < (n : Int) := by omega
      have gy0 := Lib.hid gy
      have gz0 := Lib.hid gz
      have gr0 := Lib.hid gr
      have gb0 := Lib.hid gb
      obtain ⟨a1, a2, a3, a4, a5, g1, A1, n1, c1, B1, m1, d1, g2, A2, n2, c2, B2, m2, d2, u0, u1, u2, u3, u4, u5, u6, u7, u8, u9, u10, u11, u12, r1, r2⟩ := HL.out k h
      have hwi := wi_iv HIV.out a1 a2 a3 a4 a5
      have e1 : zz (k + 1) = hl (zz k).1 (zz k).2 (wi i j (L k).1 (L k).2).1 (wi i j (L k).1 (L k).2).2 := by rw [HZZ.out]; rfl
      have HWI := Lib.hid fun W (hW : Below w.heap.size w W) => within_idx i j (L k).1 (L k).2 g1 A1 n1 c1 B1 m1 d1 g2 A2 n2 c2 B2 m2 d2 W HIV.out ⟨a1, a2⟩ ⟨a3, a4⟩ (r1.below hW) (r2.below hW)
      rw [HP.out, HQ.out] at HWI
      obtain ⟨v1, hv1⟩ : ∃ v, (wi i j (L k).1 (L k).2).1 = v := ⟨_, rfl⟩
      obtain ⟨v2, hv2⟩ : ∃ v, (wi i j (L k).1 (L k).2).2 = v := ⟨_, rfl⟩
      obtain ⟨z1, hz1⟩ : ∃ v, (zz k).1 = v := ⟨_, rfl⟩
      obtain ⟨z2, hz2⟩ : ∃ v, (zz k).2 = v := ⟨_, rfl⟩
      rw [hv1, hv2] at HWI hwi e1
      rw [hz1, hz2] at gz0 hiz e1
      have HO1 := Lib.hid fun W => of_idx (pat z1) (pat z2) W (pat_lt hiz.lo.1 hiz.lo.2) (pat_lt hiz.hi.1 hiz.hi.2)
      have HO2 := Lib.hid fun W => of_idx (pat v1) (pat v2) W (pat_lt hwi.lo.1 hwi.lo.2) (pat_lt hwi.hi.1 hwi.hi.2)
      rw [rd_pat hiz] at HO1
      rw [rd_pat hwi] at HO2
      dsimp only at HO1 HO2
      obtain ⟨t1, ht1⟩ : ∃ v, (hl z1 z2 v1 v2).1 = v := ⟨_, rfl⟩
      obtain ⟨t2, ht2⟩ : ∃ v, (hl z1 z2 v1 v2).2 = v := ⟨_, rfl⟩
      have HH := Lib.hid fun W u v hu hv => hull_idx u v z1 z2 v1 v2 W hu hv
      rw [ht1, ht2] at HH
      have HE1 := Lib.hid (show (zz (k + 1)).1 = t1 ∧ (zz (k + 1)).2 = t2 from by rw [e1]; exact ⟨ht1, ht2⟩)
      obtain ⟨P1, hP1⟩ : ∃ v, pat z1 = v := ⟨_, rfl⟩
      obtain ⟨P2, hP2⟩ : ∃ v, pat z2 = v := ⟨_, rfl⟩
      obtain ⟨Q1, hQ1⟩ : ∃ v, pat v1 = v := ⟨_, rfl⟩
      obtain ⟨Q2, hQ2⟩ : ∃ v, pat v2 = v := ⟨_, rfl⟩
      obtain ⟨P3, hP3⟩ : ∃ v, pat t1 = v := ⟨_, rfl⟩
      obtain ⟨P4, hP4⟩ : ∃ v, pat t2 = v := ⟨_, rfl⟩
      have HLE := Lib.hid fun W u hu => least_idx u t1 t2 W hu
      rw [hP1, hP2] at HO1 gz0
      rw [hQ1, hQ2] at HO2 HWI
      rw [hP3, hP4] at HLE
      have HP3 := Lib.hid hP3
      have HP4 := Lib.hid hP4
      obtain ⟨s1, es1⟩ : ∃ v, es (L k).1 = v := ⟨_, rfl⟩
      obtain ⟨s2, es2⟩ : ∃ v, es (L k).2 = v := ⟨_, rfl⟩
      rw [es1] at HWI u1 u6
      rw [es2] at HWI u7 u12
      obtain ⟨o1, eo1⟩ : ∃ v, decide (s1 ≠ 0) = v := ⟨_, rfl⟩
      obtain ⟨o2, eo2⟩ : ∃ v, decide (s2 ≠ 0) = v := ⟨_, rfl⟩
      rw [eo1] at HWI u6
      rw [eo2] at HWI u12
      have HU := Lib.hid fun W (hW : Below w.heap.size w W) => (⟨cell_below u0 hW, cell_below u1 hW, cell_below u2 hW, cell_below u3 hW, cell_below u4 hW, cell_below u5 hW, cell_below u6 hW, cell_below u7 hW, cell_below u8 hW, cell_below u9 hW, cell_below u10 hW, cell_below u11 hW, cell_below u12 hW⟩ : _ ∧ _ ∧ _ ∧ _ ∧ _ ∧ _ ∧ _ ∧ _ ∧ _ ∧ _ ∧ _ ∧ _ ∧ _)
      clear hv1 hv2 hz1 hz2 ht1 ht2 hP1 hP2 hQ1 hQ2 hP3 hP4 es1 es2 eo1 eo2 u0 u1 u2 u3 u4 u5 u6 u7 u8 u9 u10 u11 u12 r1 r2 a1 a2 a3 a4 a5 hwi hiz e1 gy gz gr gb hk
      go_wp2_with fail
      refine wp_region_held_drew (S := fun W' => Blk W' w1.heap.size 24 #[.int .u64 (p : Int), .int .u64 (q : Int)] ∧ HasBlk W' w2.heap.size 24 2 ∧ HasBlk W' (w.heap.size + 1) 24 2 ∧ Below w.heap.size w W') (by kernel_rfl) (by exact ⟨gy0.out.drew, HasBlk.of (n := 2) gz0.out.drew rfl rfl, gr0.out.drew, gb0.out.drew⟩) (fun hHeld => ?_)
      refine wpAnyH_take (i := 2) (v := ?_) rfl (by kernel_rfl) (by kernel_rfl) (by kernel_rfl) (fun _ _ _ h => h) (Or.inl ⟨by rfl, ?_⟩) (by assumption) ?_
      rotate_left
      · (intro W2 hSw; (try dsimp only at hSw); have q0 : _ = some (.int .u64 (p : Int) : Value) := hSw.1.cell 0; have q1 : _ = some (.int .u64 (q : Int) : Value) := hSw.1.cell 1; go_simp; (try with_reducible rfl))
      try simp only [Act.put, List.getElem_toArray, List.getElem_cons_succ, List.getElem_cons_zero, List.setIfInBounds_toArray, List.set_cons_zero, List.set_cons_succ]
      refine wpAnyH_take (i := 3) (v := ?_) rfl (by kernel_rfl) (by kernel_rfl) (by kernel_rfl) (fun _ _ _ h => h) (Or.inl ⟨by rfl, ?_⟩) (by assumption) ?_
      rotate_left
      · (intro W2 hSw; go_simp; (try with_reducible rfl))
      try simp only [Act.put, List.getElem_toArray, List.getElem_cons_succ, List.getElem_cons_zero, List.setIfInBounds_toArray, List.set_cons_zero, List.set_cons_succ]
      refine wpAnyH_take (i := 4) (v := ?_) rfl (by kernel_rfl) (by kernel_rfl) (by kernel_rfl) (fun _ _ _ h => h) (Or.inl ⟨by rfl, ?_⟩) (by assumption) ?_
      rotate_left
      · (intro W2 hSw; go_simp; (try with_reducible rfl))
      try simp only [Act.put, List.getElem_toArray, List.getElem_cons_succ, List.getElem_cons_zero, List.setIfInBounds_toArray, List.set_cons_zero, List.set_cons_succ]
      refine wpAnyH_take (i := 5) (v := ?_) rfl (by kernel_rfl) (by kernel_rfl) (by kernel_rfl) (fun _ _ _ h => h) (Or.inl ⟨by rfl, ?_⟩) (by assumption) ?_
      rotate_left
      · (intro W2 hSw; go_simp; (try with_reducible rfl))
      try simp only [Act.put, List.getElem_toArray, List.getElem_cons_succ, List.getElem_cons_zero, List.setIfInBounds_toArray, List.set_cons_zero, List.set_cons_succ]
      refine wpAnyH_take (i := 6) (v := ?_) rfl (by kernel_rfl) (by kernel_rfl) (by kernel_rfl) (fun _ _ _ h => h) (Or.inl ⟨by rfl, ?_⟩) (by assumption) ?_
      rotate_left
      · (intro W2 hSw; (try dsimp only at hSw); obtain ⟨u0, u1, u2, u3, u4, u5, u6, u7, u8, u9, u10, u11, u12⟩ := HU.out W2 hSw.2.2.2; go_simp; (try with_reducible rfl))
      try simp only [Act.put, List.getElem_toArray, List.getElem_cons_succ, List.getElem_cons_zero, List.setIfInBounds_toArray, List.set_cons_zero, List.set_cons_succ]
      refine wpAnyH_ready (rs := [0]) (by kernel_rfl) (by simp) ?_
      refine AllReadyH.cons rfl (fun KK hKK => ?_) AllReadyH.nil
      have q0 : _ = some (.int .u64 (P1 : Int) : Value) := gz0.out.drew.cell 0; have q1 : _ = some (.int .u64 (P2 : Int) : Value) := gz0.out.drew.cell 1
      go_simp
      refine hKK.out _ _ hHeld (fun _ => ?_)
      clear hKK KK hHeld; rename_i hHeld
      try simp only [Act.put, List.getElem_toArray, List.getElem_cons_succ, List.getElem_cons_zero, List.setIfInBounds_toArray, List.set_cons_zero, List.set_cons_succ]
      refine wpAnyH_ready (rs := [1]) (by kernel_rfl) (by simp) ?_
      refine AllReadyH.cons rfl (fun KK hKK => ?_) AllReadyH.nil
      go_simp
      refine (HO1.out _).mono ?_
      rintro e wa ⟨u, rfl, hu, hba⟩
      go_wp2_with fail
      refine hKK.out _ _ (⟨hHeld.1.keep hba, hHeld.2.1.keep hba, hHeld.2.2.1.keep hba, hHeld.2.2.2.trans (hba.mono hHeld.2.2.2.size)⟩) (fun _ => ?_)
      clear hKK KK hHeld; rename_i hHeld
      try simp only [Act.put, List.getElem_toArray, List.getElem_cons_succ, List.getElem_cons_zero, List.setIfInBounds_toArray, List.set_cons_zero, List.set_cons_succ]
      refine wpAnyH_ready (rs := [7]) (by kernel_rfl) (by simp) ?_
      refine AllReadyH.cons rfl (fun KK hKK => ?_) AllReadyH.nil
      go_simp
      refine (HWI.out _ hHeld.2.2.2).mono ?_
      rintro e wb ⟨rfl, hbb⟩
      go_wp2_with fail
      refine hKK.out _ _ (⟨hHeld.1.keep hbb, hHeld.2.1.keep hbb, hHeld.2.2.1.keep hbb, hHeld.2.2.2.trans (hbb.mono hHeld.2.2.2.size)⟩) (fun _ => ?_)
      clear hKK KK hHeld; rename_i hHeld
      try simp only [Act.put, List.getElem_toArray, List.getElem_cons_succ, List.getElem_cons_zero, List.setIfInBounds_toArray, List.set_cons_zero, List.set_cons_succ]
      refine wpAnyH_ready (rs := [8]) (by kernel_rfl) (by simp) ?_
      refine AllReadyH.cons rfl (fun KK hKK => ?_) AllReadyH.nil
      go_simp
      refine (HO2.out _).mono ?_
      rintro e wc ⟨v, rfl, hv, hbc⟩
      go_wp2_with fail
      refine hKK.out _ _ (⟨hHeld.1.keep hbc, hHeld.2.1.keep hbc, hHeld.2.2.1.keep hbc, hHeld.2.2.2.trans (hbc.mono hHeld.2.2.2.size)⟩) (fun _ => ?_)
      clear hKK KK hHeld; rename_i hHeld
      try simp only [Act.put, List.getElem_toArray, List.getElem_cons_succ, List.getElem_cons_zero, List.setIfInBounds_toArray, List.set_cons_zero, List.set_cons_succ]
      refine wpAnyH_ready (rs := [9]) (by kernel_rfl) (by simp) ?_
      refine AllReadyH.cons rfl (fun KK hKK => ?_) AllReadyH.nil
      go_simp
      refine (HH.out _ u v ((hu.below hbb).below hbc) hv).mono ?_
      rintro e wd ⟨t, rfl, ht, hbd⟩
      go_wp2_with fail
      refine hKK.out _ _ (⟨hHeld.1.keep hbd, hHeld.2.1.keep hbd, hHeld.2.2.1.keep hbd, hHeld.2.2.2.trans (hbd.mono hHeld.2.2.2.size)⟩) (fun _ => ?_)
      clear hKK KK hHeld; rename_i hHeld
      try simp only [Act.put, List.getElem_toArray, List.getElem_cons_succ, List.getElem_cons_zero, List.setIfInBounds_toArray, List.set_cons_zero, List.set_cons_succ]
      refine wpAnyH_ready (rs := [10]) (by kernel_rfl) (by simp) ?_
      refine AllReadyH.cons rfl (fun KK hKK => ?_) AllReadyH.nil
      go_simp
      refine (HLE.out _ t ht).mono ?_
      rintro e wf ⟨rfl, hbf⟩
      go_wp2_with fail
      refine hKK.out _ _ (⟨hHeld.1.keep hbf, hHeld.2.1.keep hbf, hHeld.2.2.1.keep hbf, hHeld.2.2.2.trans (hbf.mono hHeld.2.2.2.size)⟩) (fun _ => ?_)
      clear hKK KK hHeld; rename_i hHeld
      try simp only [Act.put, List.getElem_toArray, List.getElem_cons_succ, List.getElem_cons_zero, List.setIfInBounds_toArray, List.set_cons_zero, List.set_cons_succ]
      refine wpAnyH_ready (rs := [11]) (by kernel_rfl) (by simp) ?_
      refine AllReadyH.cons rfl (fun KK hKK => ?_) AllReadyH.nil
      have ha0 := hHeld.2.1.someCell 0 (by decide); have hf0 := hHeld.2.1.frozen 0; have ha1 := hHeld.2.1.someCell 1 (by decide); have hf1 := hHeld.2.1.frozen 1; have HZN := Lib.hid (hHeld.2.1.laid [.int .u64 (P3 : Int), .int .u64 (P4 : Int)] rfl)
      go_simp
      refine hKK.out _ _ (⟨hHeld.1.other (by omega) 0 [.int .u64 (P3 : Int), .int .u64 (P4 : Int)], hHeld.2.1.sets [.int .u64 (P3 : Int), .int .u64 (P4 : Int)] rfl rfl, hHeld.2.2.1.other (by omega) 0 [.int .u64 (P3 : Int), .int .u64 (P4 : Int)], below_sets (by omega) [.int .u64 (P3 : Int), .int .u64 (P4 : Int)] 0 _ hHeld.2.2.2⟩) (fun _ => ?_)
      clear hKK KK hHeld; rename_i hHeld
      try simp only [Act.put, List.getElem_toArray, List.getElem_cons_succ, List.getElem_cons_zero, List.setIfInBounds_toArray, List.set_cons_zero, List.set_cons_succ]
      refine wpAnyH_done (by kernel_rfl) ?_ _
      have HF := Lib.hid hHeld
      clear hHeld hu hv ht hba hbb hbc hbd hbf ha0 ha1 hf0 hf1 gy0 gz0 gr0 gb0 HU HWI HO1 HO2 HH HLE
      go_wp2
      go_roundw
      case rel =>
        refine ⟨k + 1, by go_num, by omega, HF.out.1, ?_, HF.out.2.2.1, HF.out.2.2.2⟩
        rw [HE1.out.1, HE1.out.2, HP3.out, HP4.out]
        exact HZN.out
      case measure => simp [intOf]; omega
    · have h2 : ¬ (k : Int) < (n : Int) := by omega
      obtain rfl : k = n := by omega
      obtain ⟨Q1, hQ1⟩ : ∃ v, pat (zz k).1 = v := ⟨_, rfl⟩
      obtain ⟨Q2, hQ2⟩ : ∃ v, pat (zz k).2 = v := ⟨_, rfl⟩
      rw [hQ1, hQ2] at gz
      have LB9 := Lib.hid gb
      have LR9 := Lib.hid gr
      have LG2_9 := Lib.hid gz
      have HQ1 := Lib.hid hQ1
      have HQ2 := Lib.hid hQ2
      clear gy gz gr gb hiz hQ1 hQ2
      have q2_0 : _ = some (.int .u64 (Q1 : Int) : Value) := LG2_9.out.cell 0
      have q2_1 : _ = some (.int .u64 (Q2 : Int) : Value) := LG2_9.out.cell 1
      have ha0 := LR9.out.someCell 0 (by decide)
      have hf0 := LR9.out.frozen 0
      have ha1 := LR9.out.someCell 1 (by decide)
      have hf1 := LR9.out.frozen 1
      have hk0 := LR9.out.setCell [.int .u64 (Q1 : Int), .int .u64 (Q2 : Int)] rfl 0 (by decide)
      have hk1 := LR9.out.setCell [.int .u64 (Q1 : Int), .int .u64 (Q2 : Int)] rfl 1 (by decide)
      have F := Lib.hid (below_sets (w0 := w) (r := (w.heap.size + 1)) (by omega) [.int .u64 (Q1 : Int), .int .u64 (Q2 : Int)] 0 _ LB9.out)
      simp [sets] at hk0 hk1
      go_wp2
      refine bodyPost_ret (v := .agg #[.int .u64 (Q1 : Int), .int .u64 (Q2 : Int)]) (by simp [results, Try.results22, go_sem, hk0, hk1]) rfl ?_
      exact ⟨by rw [HQ1.out, HQ2.out], F.out⟩

end Go.Proofs.Ythaojemejpbbgaa

namespace Go.Proofs.Ythaojemejpbbgaa
open Go.RowKit

theorem info_pc : (Try.prog.info? 56).map (fun i => (i.zero, i.size, i.bytes)) = some (some (.agg #[.bool false, .int .i64 0, .bool false, .slice none 0 0, .slice none 0 0, .int .i64 0, .bool false, .int .i64 0, .bool false, .slice none 0 0, .slice none 0 0, .int .i64 0, .bool false]), 13, 168) := by kernel_rfl
/-- The slice value v, of the call's own, holds n pieces. -/
def OwnP (w : World) (B : Nat) (v : Value) (n : Nat) (xs : List Value) : Prop := w.ownsRow B 56 13 v n xs
theorem OwnP.nil (w : World) (B : Nat) : OwnP w B (.slice none 0 0) 0 [] := World.ownsRow_nil w B _ _
theorem OwnP.keep {w w' : World} {B : Nat} {v : Value} {n : Nat} {xs : List Value} (h : OwnP w B v n xs) (hb : Below w.heap.size w w') : OwnP w' B v n xs := by
  refine ⟨h.1, ?_⟩
  rcases h.2 with ⟨h1, h2⟩ | ⟨g, cap, cur, hv, hb', hh, hn, hm, hs', hx⟩
  · exact .inl ⟨h1, h2⟩
  · exact .inr ⟨g, cap, cur, hv, hb', (hb.block g (Array.getElem?_eq_some_iff.1 hh).1).trans hh, hn, hm, hs', hx⟩
theorem OwnP.alloc {w : World} {B : Nat} {v : Value} {n : Nat} {xs : List Value} (h : OwnP w B v n xs) (o : Obj) : OwnP (w.alloc o) B v n xs := World.ownsRow.alloc h o

section
variable {ops : Array Oper} {rest : List Oper} {o : Oper} {a : Act} {Q : Exit → Act → World → Prop} (w : World)
/-- append(l, p). -/
theorem wpList_append_pc (hgd : o.guard = none) (s x : Operand)
    (ho : o.op = .call { callee := .builtin .append, args := #[s, x], argTypes := #[51, 51] })
    (B : Nat) (v : Value) (n : Nat) (xs : List Value) (hs : a.eval s = v) (hown : OwnP w B v n xs)
    (ad : Addr) (c : Nat) (news : List Value) (hx : a.eval x = .slice (some ad) 1 c) (hl : news.length = 13) (hc : ∀ j u, news[j]? = some u → w.cell? (ad.add j) = some u) (h1 : ∀ u ∈ news, u.oneCell' = true) (hlen : n ≤ 100) (hB : B ≤ w.heap.size)
    (h : ∀ v' w', OwnP w' B v' (n + 1) (xs ++ news) → w.grownBy w' v.ownBlock → wpList Try.prog ops Q rest (a.put o.dst v') w') : wpList Try.prog ops Q (o :: rest) a w := by
  obtain ⟨i0, hi, hz0, hz1, hz2⟩ := info_parts info_pc
  refine wpList_append_own w hgd s x 51 ho B 56 i0 _ 13 168 Try.underlying51 hi hz0 hz1 hz2 rfl (by decide) v n xs hs hown ad 1 c news hx (by rw [hl]) hc h1 ?_ ?_ hB ?_
  · unfold maxLen; omega
  · omega
  · intro v' w' h1 h2 _
    exact h v' w' h1 h2
end

theorem add_at (g m : Nat) : (⟨g, 0, none⟩ : Addr).add m = ⟨g, m, none⟩ := by
  unfold Addr.add
  by_cases h : m = 0
  · subst h; rfl
  · rw [if_neg h, Nat.zero_add]
/-- The cells of a piece from the index a to the index b. -/
def PcVal (W : World) (a b : Int) (xs : List Value) : Prop :=
  -(M : Int) ≤ a ∧ a < M ∧ -(M : Int) < b ∧ b ≤ M ∧ a ≤ b ∧ ∃ g1 A1 n1 c1 B1 m1 d1 g2 A2 n2 c2 B2 m2 d2,
    xs = [.bool false, .int .i64 (es a), .bool g1, .slice A1 n1 c1, .slice B1 m1 d1, .int .i64 1, .bool (decide (es a ≠ 0)), .int .i64 (es b), .bool g2, .slice A2 n2 c2, .slice B2 m2 d2, .int .i64 1, .bool (decide (es b ≠ 0))] ∧
    RatV W 34 g1 (.slice A1 n1 c1) (.slice B1 m1 d1) (ex a) ∧ RatV W 34 g2 (.slice A2 n2 c2) (.slice B2 m2 d2) (ex b)
theorem pcAt_of {W : World} {B g n cap : Nat} {xs p : List Value} {k : Nat} {a b : Int} (h : OwnP W B (.slice (some ⟨g, 0, none⟩) n cap) n xs) (hk : k < n) (hx : ∀ j : Nat, j < 13 → xs[k * 13 + j]? = p[j]?) (hp : PcVal W a b p) : PcAt W ⟨g, 0, none⟩ k a b := by
  obtain ⟨a1, a2, a3, a4, a5, g1, A1, n1, c1, B1, m1, d1, g2, A2, n2, c2, B2, m2, d2, rfl, r1, r2⟩ := hp
  have hc : ∀ j : Nat, j < 13 → W.cell? ⟨g, k * 13 + j, none⟩ = _ := fun j hj => (World.ownsRow.cellAt h (k * 13 + j) (by omega)).trans (hx j hj)
  refine ⟨a1, a2, a3, a4, a5, g1, A1, n1, c1, B1, m1, d1, g2, A2, n2, c2, B2, m2, d2, ?_⟩
  rw [add_at]
  exact ⟨hc 0 (by omega), hc 1 (by omega), hc 2 (by omega), hc 3 (by omega), hc 4 (by omega), hc 5 (by omega), hc 6 (by omega), hc 7 (by omega), hc 8 (by omega), hc 9 (by omega), hc 10 (by omega), hc 11 (by omega), hc 12 (by omega), r1, r2⟩
theorem OwnP.form {w : World} {B : Nat} {v : Value} {n : Nat} {xs : List Value} (h : OwnP w B v n xs) (hn : 0 < n) : ∃ g cap, v = .slice (some ⟨g, 0, none⟩) n cap ∧ B ≤ g ∧ n ≤ cap := by
  rcases h.2 with ⟨h1, h2⟩ | ⟨g, cap, cur, hv, hb', hh, hn, hm, hs', hx⟩
  · omega
  · exact ⟨g, cap, hv, hb', hn⟩
theorem OwnP.lt {w : World} {B : Nat} {v : Value} {n : Nat} {xs : List Value} (h : OwnP w B v n xs) : ∀ k, v.ownBlock = some k → B ≤ k ∧ k < w.heap.size := World.ownsRow.lt h
theorem PcVal.below {w w' : World} {a b : Int} {xs : List Value} (h : PcVal w a b xs) (hb : Below w.heap.size w w') : PcVal w' a b xs := by
  obtain ⟨a1, a2, a3, a4, a5, g1, A1, n1, c1, B1, m1, d1, g2, A2, n2, c2, B2, m2, d2, e, r1, r2⟩ := h
  exact ⟨a1, a2, a3, a4, a5, g1, A1, n1, c1, B1, m1, d1, g2, A2, n2, c2, B2, m2, d2, e, r1.below hb, r2.below hb⟩

end Go.Proofs.Ythaojemejpbbgaa

namespace Go.Proofs.Ythaojemejpbbgaa
open Go.RowKit

/-- A row that was made of one piece: it lies in a block of its own, of which no cell is a word. -/
def Row1 (w w' : World) (v : Value) (B : Nat) (news : List Value) : Prop :=
  ∃ g cap cs, v = .slice (some ⟨g, 0, none⟩) 1 cap ∧ OwnP w' B v 1 news ∧ B ≤ g ∧ w.heap.size ≤ g ∧ Blk w' g 56 cs ∧ NoWd cs ∧ Below w.heap.size w w'

section
variable {ops : Array Oper} {rest : List Oper} {o : Oper} {a : Act} {Q : Exit → Act → World → Prop} (w : World)
theorem wpList_append_pc1 (hgd : o.guard = none) (s x : Operand)
    (ho : o.op = .call { callee := .builtin .append, args := #[s, x], argTypes := #[51, 51] })
    (B : Nat) (hs : a.eval s = .slice none 0 0)
    (ad : Addr) (c : Nat) (news : List Value) (hx : a.eval x = .slice (some ad) 1 c) (hl : news.length = 13) (hc : ∀ j u, news[j]? = some u → w.cell? (ad.add j) = some u) (h1 : ∀ u ∈ news, u.oneCell' = true) (hnw : news.all notWd = true) (hB : B ≤ w.heap.size)
    (h : ∀ v' w', Row1 w w' v' B news → wpList Try.prog ops Q rest (a.put o.dst v') w') : wpList Try.prog ops Q (o :: rest) a w := by
  obtain ⟨i0, hi, hz0, hz1, hz2⟩ := info_parts info_pc
  refine wpList_plain hgd fun _ hK => ?_
  have hr1 := run_append_nil (P := Try.prog) (w := w) 51 o.type 56 i0 _ Try.underlying51 hi hz0 ad 1 c news (by rw [hl, hz1]) hc (by omega) (by omega) (by rw [hz2]; omega)
  obtain ⟨v', w', hr2, h2, h3, -⟩ := run_append_own (P := Try.prog) w B 51 o.type 56 i0 _ 13 168 Try.underlying51 hi hz0 hz1 hz2 rfl (by decide) (.slice none 0 0) 0 [] (World.ownsRow_nil w B _ _) ad 1 c news (by rw [hl]) hc h1 (by unfold maxLen; omega) (by omega) hB
  rw [hr1] at hr2
  injection hr2 with e1 e2
  subst e1
  subst e2
  have hrow : Row1 w (w.drew.alloc (.cells (news.toArray ++ Builtin.zeroCells (Value.agg #[.bool false, .int .i64 0, .bool false, .slice none 0 0, .slice none 0 0, .int .i64 0, .bool false, .int .i64 0, .bool false, .slice none 0 0, .slice none 0 0, .int .i64 0, .bool false]).cells (grownCap w 1 0 56 - 1)) 56)) (.slice (some ⟨w.heap.size, 0, none⟩) 1 (grownCap w 1 0 56)) B news := by
    refine ⟨w.heap.size, _, _, rfl, ?_, hB, Nat.le_refl _, Blk.at rfl _ _, ?_, ?_⟩
    · unfold OwnP
      simpa using h2
    · intro i x hi
      rw [Array.getElem?_append] at hi
      split at hi
      · have hm : wd x ∈ news := by
          rw [List.getElem?_toArray] at hi
          exact List.mem_of_getElem? hi
        have := List.all_eq_true.1 hnw _ hm
        cases this
      · unfold Builtin.zeroCells at hi
        rw [Array.getElem?_map] at hi
        rcases Option.map_eq_some_iff.1 hi with ⟨m, -, hm⟩
        have hz : (Value.agg #[.bool false, .int .i64 0, .bool false, .slice none 0 0, .slice none 0 0, .int .i64 0, .bool false, .int .i64 0, .bool false, .slice none 0 0, .slice none 0 0, .int .i64 0, .bool false]).cells.size = 13 := rfl
        rw [hz] at hm
        have hlt : m % 13 < 13 := Nat.mod_lt _ (by omega)
        obtain ⟨t, ht⟩ : ∃ t, m % 13 = t := ⟨_, rfl⟩
        rw [ht] at hm hlt
        match t, hlt with
        | 0, _ => cases hm
        | 1, _ => cases hm
        | 2, _ => cases hm
        | 3, _ => cases hm
        | 4, _ => cases hm
        | 5, _ => cases hm
        | 6, _ => cases hm
        | 7, _ => cases hm
        | 8, _ => cases hm
        | 9, _ => cases hm
        | 10, _ => cases hm
        | 11, _ => cases hm
        | 12, _ => cases hm
    · exact (Below.refl _ _).drew.alloc (Nat.le_refl _) _
  unfold Oper.wp execOp
  simp only [ho, resolve, invoke, builtin, Sem.run_bind, Sem.run_pure, Result.andThen_ok, List.map_toArray, List.map_cons, List.map_nil, hs, hx, hr1]
  exact hK _ _ (h _ _ hrow)
end
/-- What a second piece finds. -/
theorem Row1.keep {w w' w2 : World} {v : Value} {B : Nat} {news : List Value} (h : Row1 w w' v B news) (hb : Below w'.heap.size w' w2) : Row1 w w2 v B news := by
  obtain ⟨g, cap, cs, h1, h2, h3, h4, h5, h6, h7⟩ := h
  exact ⟨g, cap, cs, h1, h2.keep hb, h3, h4, h5.keep hb, h6, h7.trans (hb.mono h7.size)⟩
/-- A ratio that is there ahead of the second piece is there behind it. -/
theorem RatV.grown {w w' : World} {g K : Nat} {t : TypeId} {cs : Array Value} {neg : Bool} {vn vd : Value} {x : Rat} (h : RatV w K neg vn vd x) (hb : Blk w g t cs) (hc : NoWd cs) (hg : w.grownBy w' (some g)) : RatV w' K neg vn vd x := by
  obtain ⟨p, q, A, n, c, B, m, d, rfl, rfl, h3, h4, h5⟩ := h
  have k : ∀ {A : Option Addr} {n c : Nat} {xs : List Nat}, U32s w A n c xs → U32s w' A n c xs := fun {A n c xs} hu =>
    hu.keep hg.size fun ad e hn => hg.block ad.block (by
      obtain ⟨ad', e', hb', -⟩ := hu.at_ hn
      rw [e] at e'; cases e'; exact hb') (fun hh => hb.apart hc hu ad e hn (by injection hh))
  exact ⟨p, q, A, n, c, B, m, d, rfl, rfl, k h3, k h4, h5⟩

end Go.Proofs.Ythaojemejpbbgaa
