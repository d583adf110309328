/-
Sets of read intervals: the calls of vergeref6 on them.
Walks: package vergeref10, all.
Walks: package vergeref10, all, whatever the pieces are.
Pieces whose bounds are numbers or infinities, open or not: what Within makes of them.
Plain: quotients by ends, as the program rounds them and as the reference has them.
What positive, factor, FMARev, MulRev of the program answer, by indexes; a piece turned over.
Walks: package vergeref6, None.
-/
import Derived.Test.YtmjkmoahkanblaaGreatM24
import Derived.Test.YtmjkmoahkanblaaGreatM04
import Derived.Deep.DeepCutAuto
import Derived.Test.YtmjkmoahkanblaaGreatM09
import Derived.Test.YtmjkmoahkanblaaGreatM19
import Derived.Test.YtmjkmoahkanblaaGreatPIntsT
import Derived.Test.YtmjkmoahkanblaaGreatPLessT
import Derived.Test.YtmjkmoahkanblaaGreatM06
set_option linter.unusedSimpArgs false
set_option linter.unusedVariables false
set_option maxHeartbeats 12800000

namespace Go.Proofs.YtmjkmoahkanblaaGreat
open Go.RowKit
def SetOf (w : World) (v : Value) (i j : Int) : Prop :=
  (i = M ∧ j = -(M : Int) ∧ ∃ s x t y g A n c B m d g' A' n' c' B' m' d', v = .agg #[.bool true, .int .i64 s, .bool g, .slice A n c, .slice B m d, .int .i64 t, .bool g', .slice A' n' c', .slice B' m' d'] ∧
    RatV w 34 g (.slice A n c) (.slice B m d) x ∧ RatV w 34 g' (.slice A' n' c') (.slice B' m' d') y) ∨
  ((-(M : Int) ≤ i ∧ i ≤ j ∧ j ≤ M ∧ i < M ∧ -(M : Int) < j) ∧ ∃ g A n c B m d g' A' n' c' B' m' d', v = .agg #[.bool false, .int .i64 (es i), .bool g, .slice A n c, .slice B m d, .int .i64 (es j), .bool g', .slice A' n' c', .slice B' m' d'] ∧
    RatV w 34 g (.slice A n c) (.slice B m d) (ex i) ∧ RatV w 34 g' (.slice A' n' c') (.slice B' m' d') (ex j))
theorem SetOf.below {w w' : World} {v : Value} {i j : Int} (h : SetOf w v i j) (hb : Below w.heap.size w w') : SetOf w' v i j := by
  rcases h with ⟨h1, h2, s, x, t, y, g, A, n, c, B, m, d, g', A', n', c', B', m', d', h3, h4, h5⟩ | ⟨h1, g, A, n, c, B, m, d, g', A', n', c', B', m', d', h3, h4, h5⟩
  · exact .inl ⟨h1, h2, s, x, t, y, g, A, n, c, B, m, d, g', A', n', c', B', m', d', h3, h4.below hb, h5.below hb⟩
  · exact .inr ⟨h1, g, A, n, c, B, m, d, g', A', n', c', B', m', d', h3, h4.below hb, h5.below hb⟩
theorem SetOf.iv {w : World} {v : Value} {i j : Int} (h : SetOf w v i j) : Iv i j := by
  rcases h with ⟨h1, h2, -⟩ | ⟨h1, -⟩
  · exact .inr ⟨h1, h2⟩
  · exact .inl h1
theorem of_idx (x y : Nat) (w : World) (hx : x < 18446744073709551616) (hy : y < 18446744073709551616) :
    Calls Tryz.prog 57 #[.agg #[.int .u64 (x : Int), .int .u64 (y : Int)]] w fun e w' => ∃ v, e = .returned v ∧ SetOf w' v (rd x y).1 (rd x y).2 ∧ Below w.heap.size w w' := by
  cases h : snd x y
  · refine (of_none x y w hx hy h).mono ?_
    rintro e w' ⟨g, A, n, c, B, m, d, g', A', n', c', B', m', d', rfl, h1, h2, hb⟩
    refine ⟨_, rfl, .inl ?_, hb⟩
    unfold rd
    rw [h]
    exact ⟨rfl, rfl, _, _, _, _, g, A, n, c, B, m, d, g', A', n', c', B', m', d', rfl, h1.k34, h2.k34⟩
  · refine (of_full x y w hx hy h).mono ?_
    rintro e w' ⟨g, A, n, c, B, m, d, g', A', n', c', B', m', d', rfl, h1, h2, hb⟩
    refine ⟨_, rfl, .inr ?_, hb⟩
    have hd := of_decide_eq_true h
    have hi := idx_bounds hd.1
    have hj := idx_bounds hd.2.1
    unfold rd
    rw [h]
    exact ⟨⟨hi.1, hd.2.2.1, hj.2, hd.2.2.2.1, hd.2.2.2.2⟩, g, A, n, c, B, m, d, g', A', n', c', B', m', d', rfl, h1, h2⟩
def hl (i j i' j' : Int) : Int × Int := if j < i then (i', j') else if j' < i' then (i, j) else (min i i', max j j')
theorem least_idx (v : Value) (i j : Int) (w : World) (h : SetOf w v i j) :
    Calls Tryz.prog 121 #[v] w fun e w' => e = .returned (.agg #[.int .u64 (pat i : Int), .int .u64 (pat j : Int)]) ∧ Below w.heap.size w w' := by
  rcases h with ⟨rfl, rfl, s, x, t, y, g, A, n, c, B, m, d, g', A', n', c', B', m', d', rfl, h4, h5⟩ | ⟨h1, g, A, n, c, B, m, d, g', A', n', c', B', m', d', rfl, h4, h5⟩
  · rw [pat_max, pat_min]
    exact least_none s g A n c B m d x t g' A' n' c' B' m' d' y w
  · refine (least_some 34 _ g A n c B m d _ _ g' A' n' c' B' m' d' _ w h4 h5 (by omega)).mono ?_
    rintro e w' ⟨i', j', rfl, r1, r2, r3, r4, hb⟩
    rw [least_lo (by omega) (by omega) r1 r2, least_hi (by omega) (by omega) r3 r4]
    exact ⟨rfl, hb⟩
theorem ec_sel_lo {i i' : Int} (h0 : -(M : Int) ≤ i ∧ i ≤ M) (h1 : -(M : Int) ≤ i' ∧ i' ≤ M) :
    (if ec (es i') (ex i') (es i) (ex i) < 0 then es i' else es i) = es (min i i') ∧ (if ec (es i') (ex i') (es i) (ex i) < 0 then ex i' else ex i) = ex (min i i') := by
  have := ec_idx h1.1 h1.2 h0.1 h0.2
  unfold SameSign at this
  by_cases h : i' < i
  · rw [if_pos (by omega), if_pos (by omega), show min i i' = i' from by omega]; exact ⟨rfl, rfl⟩
  · rw [if_neg (by omega), if_neg (by omega), show min i i' = i from by omega]; exact ⟨rfl, rfl⟩
theorem ec_sel_hi {i i' : Int} (h0 : -(M : Int) ≤ i ∧ i ≤ M) (h1 : -(M : Int) ≤ i' ∧ i' ≤ M) :
    (if 0 < ec (es i') (ex i') (es i) (ex i) then es i' else es i) = es (max i i') ∧ (if 0 < ec (es i') (ex i') (es i) (ex i) then ex i' else ex i) = ex (max i i') := by
  have := ec_idx h1.1 h1.2 h0.1 h0.2
  unfold SameSign at this
  by_cases h : i < i'
  · rw [if_pos (by omega), if_pos (by omega), show max i i' = i' from by omega]; exact ⟨rfl, rfl⟩
  · rw [if_neg (by omega), if_neg (by omega), show max i i' = i from by omega]; exact ⟨rfl, rfl⟩
theorem hull_idx (u v : Value) (i j i' j' : Int) (w : World) (h : SetOf w u i j) (h' : SetOf w v i' j') :
    Calls Tryz.prog 122 #[u, v] w fun e w' => ∃ t, e = .returned t ∧ SetOf w' t (hl i j i' j').1 (hl i j i' j').2 ∧ Below w.heap.size w w' := by
  have hM : M = 9218868437227405312 := rfl
  rcases h with ⟨rfl, rfl, s1, x1, t1, y1, g, A, n, c, B, m, d, g2, A2, n2, c2, B2, m2, d2, rfl, h4, h5⟩ | ⟨h1, g, A, n, c, B, m, d, g2, A2, n2, c2, B2, m2, d2, rfl, h4, h5⟩
  · have hh : hl M (-(M : Int)) i' j' = (i', j') := by unfold hl; rw [if_pos (by omega)]
    rw [hh]
    rcases h' with ⟨rfl, rfl, s3, x3, t3, y3, g', A', n', c', B', m', d', g4, A4, n4, c4, B4, m4, d4, rfl, h6, h7⟩ | ⟨h1', g', A', n', c', B', m', d', g4, A4, n4, c4, B4, m4, d4, rfl, h6, h7⟩
    · refine (hull_left 34 true s1 g A n c B m d x1 t1 g2 A2 n2 c2 B2 m2 d2 y1 s3 g' A' n' c' B' m' d' x3 t3 g4 A4 n4 c4 B4 m4 d4 y3 w h4 h5 h6 h7).mono ?_
      rintro e w' ⟨g5, A5, n5, c5, B5, m5, d5, g6, A6, n6, c6, B6, m6, d6, rfl, q1, q2, hb⟩
      exact ⟨_, rfl, .inl ⟨rfl, rfl, _, _, _, _, _, _, _, _, _, _, _, _, _, _, _, _, _, _, rfl, q1, q2⟩, hb⟩
    · refine (hull_left 34 false s1 g A n c B m d x1 t1 g2 A2 n2 c2 B2 m2 d2 y1 _ g' A' n' c' B' m' d' _ _ g4 A4 n4 c4 B4 m4 d4 _ w h4 h5 h6 h7).mono ?_
      rintro e w' ⟨g5, A5, n5, c5, B5, m5, d5, g6, A6, n6, c6, B6, m6, d6, rfl, q1, q2, hb⟩
      exact ⟨_, rfl, .inr ⟨h1', _, _, _, _, _, _, _, _, _, _, _, _, _, _, rfl, q1, q2⟩, hb⟩
  · rcases h' with ⟨rfl, rfl, s3, x3, t3, y3, g', A', n', c', B', m', d', g4, A4, n4, c4, B4, m4, d4, rfl, h6, h7⟩ | ⟨h1', g', A', n', c', B', m', d', g4, A4, n4, c4, B4, m4, d4, rfl, h6, h7⟩
    · have hh : hl i j M (-(M : Int)) = (i, j) := by unfold hl; rw [if_neg (by omega), if_pos (by omega)]
      rw [hh]
      refine (hull_right 34 _ g A n c B m d _ _ g2 A2 n2 c2 B2 m2 d2 _ s3 g' A' n' c' B' m' d' x3 t3 g4 A4 n4 c4 B4 m4 d4 y3 w h4 h5 h6 h7).mono ?_
      rintro e w' ⟨g5, A5, n5, c5, B5, m5, d5, g6, A6, n6, c6, B6, m6, d6, rfl, q1, q2, hb⟩
      exact ⟨_, rfl, .inr ⟨h1, _, _, _, _, _, _, _, _, _, _, _, _, _, _, rfl, q1, q2⟩, hb⟩
    · have hh : hl i j i' j' = (min i i', max j j') := by unfold hl; rw [if_neg (by omega), if_neg (by omega)]
      rw [hh]
      have e1 := ec_sel_lo (i := i) (i' := i') (by omega) (by omega)
      have e2 := ec_sel_hi (i := j) (i' := j') (by omega) (by omega)
      have := hull_both 34 (es i) g A n c B m d (ex i) (es j) g2 A2 n2 c2 B2 m2 d2 (ex j) (es i') g' A' n' c' B' m' d' (ex i') (es j') g4 A4 n4 c4 B4 m4 d4 (ex j') w h4 h5 h6 h7 (by omega)
      rw [e1.1, e1.2, e2.1, e2.2] at this
      refine this.mono ?_
      rintro e w' ⟨g5, A5, n5, c5, B5, m5, d5, g6, A6, n6, c6, B6, m6, d6, rfl, q1, q2, hb⟩
      exact ⟨_, rfl, .inr ⟨by dsimp only; omega, _, _, _, _, _, _, _, _, _, _, _, _, _, _, rfl, q1, q2⟩, hb⟩
end Go.Proofs.YtmjkmoahkanblaaGreat

namespace Go.Proofs.YtmjkmoahkanblaaGreat
open Go.RowKit
theorem hl_iv {i j i' j' : Int} (h : Iv i j) (h' : Iv i' j') : Iv (hl i j i' j').1 (hl i j i' j').2 := by
  unfold hl
  split
  · exact h'
  · split
    · exact h
    · unfold Iv at *
      rw [M_val] at *
      dsimp only
      omega
end Go.Proofs.YtmjkmoahkanblaaGreat

namespace Go.Proofs.YtmjkmoahkanblaaGreat
open Go.RowKit
def PcW (w : World) (o : Bool) (s1 : Int) (g1 : Bool) (A1 : Option Addr) (n1 c1 : Nat) (B1 : Option Addr) (m1 d1 : Nat) (N1 : Int) (o1 : Bool) (s2 : Int) (g2 : Bool) (A2 : Option Addr) (n2 c2 : Nat) (B2 : Option Addr) (m2 d2 : Nat) (N2 : Int) (o2 : Bool) (F : Int → Int → Int × Int) : Prop :=
  (∀ i j, Iv i j → Iv (F i j).1 (F i j).2) ∧ ∀ W i j, Below w.heap.size w W → Iv i j →
    Calls Tryz.prog 88 #[.agg #[.int .u64 (pat i : Int), .int .u64 (pat j : Int)], .agg #[.bool o, .int .i64 s1, .bool g1, .slice A1 n1 c1, .slice B1 m1 d1, .int .i64 N1, .bool o1, .int .i64 s2, .bool g2, .slice A2 n2 c2, .slice B2 m2 d2, .int .i64 N2, .bool o2]] W
      fun e w' => e = .returned (.agg #[.int .u64 (pat (F i j).1 : Int), .int .u64 (pat (F i j).2 : Int)]) ∧ Below W.heap.size W w'
def PcG (W : World) (ad : Addr) (k : Nat) (F : Int → Int → Int × Int) : Prop :=
  ∃ o s1 g1 A1 n1 c1 B1 m1 d1 N1 o1 s2 g2 A2 n2 c2 B2 m2 d2 N2 o2,
    W.cell? (ad.add (k * 13)) = some (.bool o) ∧ W.cell? ⟨(ad.add (k * 13)).block, (ad.add (k * 13)).off + 1, none⟩ = some (.int .i64 s1) ∧ W.cell? ⟨(ad.add (k * 13)).block, (ad.add (k * 13)).off + 2, none⟩ = some (.bool g1) ∧
    W.cell? ⟨(ad.add (k * 13)).block, (ad.add (k * 13)).off + 3, none⟩ = some (.slice A1 n1 c1) ∧ W.cell? ⟨(ad.add (k * 13)).block, (ad.add (k * 13)).off + 4, none⟩ = some (.slice B1 m1 d1) ∧ W.cell? ⟨(ad.add (k * 13)).block, (ad.add (k * 13)).off + 5, none⟩ = some (.int .i64 N1) ∧
    W.cell? ⟨(ad.add (k * 13)).block, (ad.add (k * 13)).off + 6, none⟩ = some (.bool o1) ∧ W.cell? ⟨(ad.add (k * 13)).block, (ad.add (k * 13)).off + 7, none⟩ = some (.int .i64 s2) ∧ W.cell? ⟨(ad.add (k * 13)).block, (ad.add (k * 13)).off + 8, none⟩ = some (.bool g2) ∧
    W.cell? ⟨(ad.add (k * 13)).block, (ad.add (k * 13)).off + 9, none⟩ = some (.slice A2 n2 c2) ∧ W.cell? ⟨(ad.add (k * 13)).block, (ad.add (k * 13)).off + 10, none⟩ = some (.slice B2 m2 d2) ∧ W.cell? ⟨(ad.add (k * 13)).block, (ad.add (k * 13)).off + 11, none⟩ = some (.int .i64 N2) ∧
    W.cell? ⟨(ad.add (k * 13)).block, (ad.add (k * 13)).off + 12, none⟩ = some (.bool o2) ∧ PcW W o s1 g1 A1 n1 c1 B1 m1 d1 N1 o1 s2 g2 A2 n2 c2 B2 m2 d2 N2 o2 F
def zg (i j : Int) (L : Nat → Int → Int → Int × Int) : Nat → Int × Int
  | 0 => ((M : Int), -(M : Int))
  | k + 1 => hl (zg i j L k).1 (zg i j L k).2 (L k i j).1 (L k i j).2
theorem zg_iv {i j : Int} {L : Nat → Int → Int → Int × Int} : ∀ k : Nat, (∀ t : Nat, t < k → Iv (L t i j).1 (L t i j).2) → Iv (zg i j L k).1 (zg i j L k).2
  | 0, _ => Iv.none
  | k + 1, h => hl_iv (zg_iv k fun t ht => h t (by omega)) (h k (by omega))
theorem all_gen (x y : Nat) (ad : Addr) (n c : Nat) (L : Nat → Int → Int → Int × Int) (w : World) (hx : x < 18446744073709551616) (hy : y < 18446744073709551616) (hn : n ≤ 100) (hc : n ≤ c) (hL : ∀ k : Nat, k < n → PcG w ad k (L k)) :
    Calls Tryz.prog 54 #[.agg #[.int .u64 (x : Int), .int .u64 (y : Int)], .slice (some ad) n c] w fun e w' =>
      e = .returned (.agg #[.int .u64 (pat (zg (rd x y).1 (rd x y).2 L n).1 : Int), .int .u64 (pat (zg (rd x y).1 (rd x y).2 L n).2 : Int)]) ∧ Below w.heap.size w w' := by
  have HR := Lib.hid fun W => read6 x y W hx hy
  have HE := Lib.hid empty6
  have hiv := rd_iv x y
  obtain ⟨i, hi⟩ : ∃ i, (rd x y).1 = i := ⟨_, rfl⟩
  obtain ⟨j, hj⟩ : ∃ i, (rd x y).2 = i := ⟨_, rfl⟩
  rw [hi, hj] at HR hiv ⊢
  have HZI := Lib.hid fun (k : Nat) (hk : k ≤ n) => zg_iv (L := L) (i := i) (j := j) k fun t ht => by
    obtain ⟨o, s1, g1, A1, n1, c1, B1, m1, d1, N1, o1, s2, g2, A2, n2, c2, B2, m2, d2, N2, o2, -, -, -, -, -, -, -, -, -, -, -, -, -, h, -⟩ := hL t (by omega)
    exact h i j hiv
  have HIV := Lib.hid hiv
  have HL := Lib.hid hL
  obtain ⟨p, hp⟩ : ∃ p, pat i = p := ⟨_, rfl⟩
  obtain ⟨q, hq⟩ : ∃ p, pat j = p := ⟨_, rfl⟩
  rw [hp, hq] at HR
  have HP := Lib.hid hp
  have HQ := Lib.hid hq
  obtain ⟨zz, hzz⟩ : ∃ f : Nat → Int × Int, f = zg i j L := ⟨_, rfl⟩
  rw [← hzz] at HZI ⊢
  have HZZ := Lib.hid hzz
  clear hi hj hp hq hL hiv hzz
  obtain ⟨LB0, LG0_0, LR⟩ := bx2 w #[.int .u64 (x : Int), .int .u64 (y : Int)] 24 #[.int .u64 0, .int .u64 0] 24
  have LR0 := Lib.hid (HasBlk.of (n := 2) LR.out rfl rfl)
  clear LR
  go_enter Tryz.func54, Tryz.ntmps54
  go_wp2_with fail
  refine (HR.out _).mono ?_
  rintro e w1 ⟨rfl, hb1⟩
  have LB1 := stB LB0 hb1 LB0.out.size
  have LR1 := stR LR0 hb1
  have LG0_1 := stG LG0_0 hb1
  clear LB0 LR0 LG0_0
  have hl1 := LB1.out.size
  have hlr1 := LR1.out.lt
  have hlt2 := LR1.out.lt
  have LB2 := Lib.hid (LB1.out.alloc LB1.out.size (.cells #[.int .u64 (p : Int), .int .u64 (q : Int)] 24))
  have LR2 := Lib.hid (LR1.out.alloc (.cells #[.int .u64 (p : Int), .int .u64 (q : Int)] 24))
  have LG0_2 := Lib.hid (LG0_1.out.alloc (.cells #[.int .u64 (p : Int), .int .u64 (q : Int)] 24))
  have LG1_2 := Lib.hid (Blk.new w1 24 #[.int .u64 (p : Int), .int .u64 (q : Int)])
  clear LB1 LR1 LG0_1
  clear hb1
  have hl2 : w1.heap.size < (w1.alloc (.cells #[.int .u64 (p : Int), .int .u64 (q : Int)] 24)).heap.size := by simp
  go_wp2_with fail
  refine (HE.out _).mono ?_
  rintro e w2 ⟨rfl, hb2⟩
  have LB3 := stB LB2 hb2 LB2.out.size
  have LR3 := stR LR2 hb2
  have LG0_3 := stG LG0_2 hb2
  have LG1_3 := stG LG1_2 hb2
  clear LB2 LR2 LG0_2 LG1_2
  have hl3 := hb2.size
  have hl4 : w1.heap.size < w2.heap.size := by omega
  clear hl2 hl3
  have hlt4 := LR3.out.lt
  have LB4 := Lib.hid (LB3.out.alloc LB3.out.size (.cells #[.int .u64 9218868437227405312, .int .u64 18442240474082181120] 24))
  have LR4 := Lib.hid (LR3.out.alloc (.cells #[.int .u64 9218868437227405312, .int .u64 18442240474082181120] 24))
  have LG0_4 := Lib.hid (LG0_3.out.alloc (.cells #[.int .u64 9218868437227405312, .int .u64 18442240474082181120] 24))
  have LG1_4 := Lib.hid (LG1_3.out.alloc (.cells #[.int .u64 9218868437227405312, .int .u64 18442240474082181120] 24))
  have LG2_4 := Lib.hid (Blk.new w2 24 #[.int .u64 9218868437227405312, .int .u64 18442240474082181120])
  clear LB3 LR3 LG0_3 LG1_3
  clear hb2
  have hl5 := LB4.out.size
  go_wp2_with fail
  have hl6 : w.heap.size + 1 < w2.heap.size := by omega
  go_loopw [7] (fun iv wr => ∃ k : Nat, iv = .int .i64 (k : Int) ∧ k ≤ n ∧ Blk wr w1.heap.size 24 #[.int .u64 (p : Int), .int .u64 (q : Int)] ∧ Blk wr w2.heap.size 24 #[.int .u64 (pat (zz k).1 : Int), .int .u64 (pat (zz k).2 : Int)] ∧ HasBlk wr (w.heap.size + 1) 24 2 ∧ Below w.heap.size w wr) (fun iv _ => n - (intOf iv).toNat)
  case atStart =>
    refine ⟨0, rfl, by omega, LG1_4.out, ?_, LR4.out, LB4.out⟩
    have e : zz 0 = ((M : Int), -(M : Int)) := by rw [HZZ.out]; rfl
    rw [e, pat_max, pat_min]
    exact LG2_4.out
  case round =>
    clear LB4 LR4 LG0_4 LG1_4 LG2_4
    obtain ⟨k, rfl, hk, gy, gz, gr, gb⟩ := hrel
    have hiz := HZI.out k hk
    by_cases h : k < n
    · have h2 : (k : Int) < (n : Int) := by omega
      have gy0 := Lib.hid gy
      have gz0 := Lib.hid gz
      have gr0 := Lib.hid gr
      have gb0 := Lib.hid gb
      obtain ⟨o, s1, g1, A1, n1, c1, B1, m1, d1, N1, o1, s2, g2, A2, n2, c2, B2, m2, d2, N2, o2, u0, u1, u2, u3, u4, u5, u6, u7, u8, u9, u10, u11, u12, riv, rcall⟩ := HL.out k h
      have hwi := riv i j HIV.out
      have e1 : zz (k + 1) = hl (zz k).1 (zz k).2 (L k i j).1 (L k i j).2 := by rw [HZZ.out]; rfl
      have HWI := Lib.hid fun W (hW : Below w.heap.size w W) => rcall W i j hW HIV.out
      rw [HP.out, HQ.out] at HWI
      obtain ⟨v1, hv1⟩ : ∃ v, (L k i j).1 = v := ⟨_, rfl⟩
      obtain ⟨v2, hv2⟩ : ∃ v, (L k i j).2 = v := ⟨_, rfl⟩
      obtain ⟨z1, hz1⟩ : ∃ v, (zz k).1 = v := ⟨_, rfl⟩
      obtain ⟨z2, hz2⟩ : ∃ v, (zz k).2 = v := ⟨_, rfl⟩
      rw [hv1, hv2] at HWI hwi e1
      rw [hz1, hz2] at gz0 hiz e1
      have HO1 := Lib.hid fun W => of_idx (pat z1) (pat z2) W (pat_lt hiz.lo.1 hiz.lo.2) (pat_lt hiz.hi.1 hiz.hi.2)
      have HO2 := Lib.hid fun W => of_idx (pat v1) (pat v2) W (pat_lt hwi.lo.1 hwi.lo.2) (pat_lt hwi.hi.1 hwi.hi.2)
      rw [rd_pat hiz] at HO1
      rw [rd_pat hwi] at HO2
      dsimp only at HO1 HO2
      obtain ⟨t1, ht1⟩ : ∃ v, (hl z1 z2 v1 v2).1 = v := ⟨_, rfl⟩
      obtain ⟨t2, ht2⟩ : ∃ v, (hl z1 z2 v1 v2).2 = v := ⟨_, rfl⟩
      have HH := Lib.hid fun W u v hu hv => hull_idx u v z1 z2 v1 v2 W hu hv
      rw [ht1, ht2] at HH
      have HE1 := Lib.hid (show (zz (k + 1)).1 = t1 ∧ (zz (k + 1)).2 = t2 from by rw [e1]; exact ⟨ht1, ht2⟩)
      obtain ⟨P1, hP1⟩ : ∃ v, pat z1 = v := ⟨_, rfl⟩
      obtain ⟨P2, hP2⟩ : ∃ v, pat z2 = v := ⟨_, rfl⟩
      obtain ⟨Q1, hQ1⟩ : ∃ v, pat v1 = v := ⟨_, rfl⟩
      obtain ⟨Q2, hQ2⟩ : ∃ v, pat v2 = v := ⟨_, rfl⟩
      obtain ⟨P3, hP3⟩ : ∃ v, pat t1 = v := ⟨_, rfl⟩
      obtain ⟨P4, hP4⟩ : ∃ v, pat t2 = v := ⟨_, rfl⟩
      have HLE := Lib.hid fun W u hu => least_idx u t1 t2 W hu
      rw [hP1, hP2] at HO1 gz0
      rw [hQ1, hQ2] at HO2 HWI
      rw [hP3, hP4] at HLE
      have HP3 := Lib.hid hP3
      have HP4 := Lib.hid hP4
      have HU := Lib.hid fun W (hW : Below w.heap.size w W) => (⟨cell_below u0 hW, cell_below u1 hW, cell_below u2 hW, cell_below u3 hW, cell_below u4 hW, cell_below u5 hW, cell_below u6 hW, cell_below u7 hW, cell_below u8 hW, cell_below u9 hW, cell_below u10 hW, cell_below u11 hW, cell_below u12 hW⟩ : _ ∧ _ ∧ _ ∧ _ ∧ _ ∧ _ ∧ _ ∧ _ ∧ _ ∧ _ ∧ _ ∧ _ ∧ _)
      clear hv1 hv2 hz1 hz2 ht1 ht2 hP1 hP2 hQ1 hQ2 hP3 hP4 u0 u1 u2 u3 u4 u5 u6 u7 u8 u9 u10 u11 u12 riv rcall hwi hiz e1 gy gz gr gb hk
      go_wp2_with fail
      refine wp_region_held_drew (S := fun W' => Blk W' w1.heap.size 24 #[.int .u64 (p : Int), .int .u64 (q : Int)] ∧ HasBlk W' w2.heap.size 24 2 ∧ HasBlk W' (w.heap.size + 1) 24 2 ∧ Below w.heap.size w W') (by kernel_rfl) (by exact ⟨gy0.out.drew, HasBlk.of (n := 2) gz0.out.drew rfl rfl, gr0.out.drew, gb0.out.drew⟩) (fun hHeld => ?_)
      refine tk 2 ?_ (hv := by intro W2 hSw; obtain ⟨q0, q1⟩ := hSw.1.c2; go_simp; (try with_reducible rfl))
      try simp only [Act.put, lay]
      refine tk 3 ?_
      try simp only [Act.put, lay]
      refine tk 4 ?_
      try simp only [Act.put, lay]
      refine tk 5 ?_
      try simp only [Act.put, lay]
      refine tk 6 ?_ (hv := by intro W2 hSw; obtain ⟨u0, u1, u2, u3, u4, u5, u6, u7, u8, u9, u10, u11, u12⟩ := HU.out W2 hSw.2.2.2; go_simp; (try with_reducible rfl))
      try simp only [Act.put, lay]
      refine rdy 0 (fun KK hKK => ?_)
      have q0 : _ = some (.int .u64 (P1 : Int) : Value) := gz0.out.drew.cell 0; have q1 : _ = some (.int .u64 (P2 : Int) : Value) := gz0.out.drew.cell 1
      go_simp
      refine hKK.out _ _ hHeld (fun _ => ?_)
      clear hKK KK hHeld; rename_i hHeld
      try simp only [Act.put, lay]
      refine rdy 1 (fun KK hKK => ?_)
      go_simp
      refine (HO1.out _).mono ?_
      rintro e wa ⟨u, rfl, hu, hba⟩
      go_wp2_with fail
      refine hKK.out _ _ (⟨hHeld.1.keep hba, hHeld.2.1.keep hba, hHeld.2.2.1.keep hba, hHeld.2.2.2.trans (hba.mono hHeld.2.2.2.size)⟩) (fun _ => ?_)
      clear hKK KK hHeld; rename_i hHeld
      try simp only [Act.put, lay]
      refine rdy 7 (fun KK hKK => ?_)
      go_simp
      refine (HWI.out _ hHeld.2.2.2).mono ?_
      rintro e wb ⟨rfl, hbb⟩
      go_wp2_with fail
      refine hKK.out _ _ (⟨hHeld.1.keep hbb, hHeld.2.1.keep hbb, hHeld.2.2.1.keep hbb, hHeld.2.2.2.trans (hbb.mono hHeld.2.2.2.size)⟩) (fun _ => ?_)
      clear hKK KK hHeld; rename_i hHeld
      try simp only [Act.put, lay]
      refine rdy 8 (fun KK hKK => ?_)
      go_simp
      refine (HO2.out _).mono ?_
      rintro e wc ⟨v, rfl, hv, hbc⟩
      go_wp2_with fail
      refine hKK.out _ _ (⟨hHeld.1.keep hbc, hHeld.2.1.keep hbc, hHeld.2.2.1.keep hbc, hHeld.2.2.2.trans (hbc.mono hHeld.2.2.2.size)⟩) (fun _ => ?_)
      clear hKK KK hHeld; rename_i hHeld
      try simp only [Act.put, lay]
      refine rdy 9 (fun KK hKK => ?_)
      go_simp
      refine (HH.out _ u v ((hu.below hbb).below hbc) hv).mono ?_
      rintro e wd ⟨t, rfl, ht, hbd⟩
      go_wp2_with fail
      refine hKK.out _ _ (⟨hHeld.1.keep hbd, hHeld.2.1.keep hbd, hHeld.2.2.1.keep hbd, hHeld.2.2.2.trans (hbd.mono hHeld.2.2.2.size)⟩) (fun _ => ?_)
      clear hKK KK hHeld; rename_i hHeld
      try simp only [Act.put, lay]
      refine rdy 10 (fun KK hKK => ?_)
      go_simp
      refine (HLE.out _ t ht).mono ?_
      rintro e wf ⟨rfl, hbf⟩
      go_wp2_with fail
      refine hKK.out _ _ (⟨hHeld.1.keep hbf, hHeld.2.1.keep hbf, hHeld.2.2.1.keep hbf, hHeld.2.2.2.trans (hbf.mono hHeld.2.2.2.size)⟩) (fun _ => ?_)
      clear hKK KK hHeld; rename_i hHeld
      try simp only [Act.put, lay]
      refine rdy 11 (fun KK hKK => ?_)
      have ha0 := hHeld.2.1.someCell 0 (by decide); have hf0 := hHeld.2.1.frozen 0; have ha1 := hHeld.2.1.someCell 1 (by decide); have hf1 := hHeld.2.1.frozen 1; have HZN := Lib.hid (hHeld.2.1.laid [.int .u64 (P3 : Int), .int .u64 (P4 : Int)] rfl)
      go_simp
      refine hKK.out _ _ (⟨hHeld.1.other (by omega) 0 [.int .u64 (P3 : Int), .int .u64 (P4 : Int)], hHeld.2.1.sets [.int .u64 (P3 : Int), .int .u64 (P4 : Int)] rfl rfl, hHeld.2.2.1.other (by omega) 0 [.int .u64 (P3 : Int), .int .u64 (P4 : Int)], below_sets (by omega) [.int .u64 (P3 : Int), .int .u64 (P4 : Int)] 0 _ hHeld.2.2.2⟩) (fun _ => ?_)
      clear hKK KK hHeld; rename_i hHeld
      try simp only [Act.put, lay]
      refine wpAnyH_done (by kernel_rfl) ?_ _
      have HF := Lib.hid hHeld
      clear hHeld hu hv ht hba hbb hbc hbd hbf ha0 ha1 hf0 hf1 gy0 gz0 gr0 gb0 HU HWI HO1 HO2 HH HLE
      go_wp2
      go_roundw
      case rel =>
        refine ⟨k + 1, by go_num, by omega, HF.out.1, ?_, HF.out.2.2.1, HF.out.2.2.2⟩
        rw [HE1.out.1, HE1.out.2, HP3.out, HP4.out]
        exact HZN.out
      case measure => simp [intOf]; omega
    · have h2 : ¬ (k : Int) < (n : Int) := by omega
      obtain rfl : k = n := by omega
      obtain ⟨Q1, hQ1⟩ : ∃ v, pat (zz k).1 = v := ⟨_, rfl⟩
      obtain ⟨Q2, hQ2⟩ : ∃ v, pat (zz k).2 = v := ⟨_, rfl⟩
      rw [hQ1, hQ2] at gz
      have LB9 := Lib.hid gb
      have LR9 := Lib.hid gr
      have LG2_9 := Lib.hid gz
      have HQ1 := Lib.hid hQ1
      have HQ2 := Lib.hid hQ2
      clear gy gz gr gb hiz hQ1 hQ2
      obtain ⟨q2_0, q2_1⟩ := LG2_9.out.c2
      obtain ⟨ha0, hf0, ha1, hf1⟩ := LR9.out.sf2
      obtain ⟨hk0, hk1⟩ := LR9.out.sc2 (.int .u64 (Q1 : Int)) (.int .u64 (Q2 : Int))
      have F := Lib.hid (below_sets (w0 := w) (r := (w.heap.size + 1)) (by omega) [.int .u64 (Q1 : Int), .int .u64 (Q2 : Int)] 0 _ LB9.out)
      simp [sets] at hk0 hk1
      go_wp2
      refine bodyPost_ret (v := .agg #[.int .u64 (Q1 : Int), .int .u64 (Q2 : Int)]) (by simp [results, Tryz.results54, go_sem, hk0, hk1]) rfl ?_
      exact ⟨by rw [HQ1.out, HQ2.out], F.out⟩
end Go.Proofs.YtmjkmoahkanblaaGreat

namespace Go.Proofs.YtmjkmoahkanblaaGreat
open Go.RowKit
theorem against_any (K : Nat) (i : Int) (s1 : Int) (g1 : Bool) (A1 : Option Addr) (n1 c1 : Nat) (B1 : Option Addr) (m1 d1 : Nat) (x1 : Rat) (o1 : Bool) (w : World) (hi : -(M : Int) ≤ i ∧ i ≤ M) (h1 : RatV w K g1 (.slice A1 n1 c1) (.slice B1 m1 d1) x1) (hK : 34 ≤ K) (hK2 : K ≤ 1048576) :
    Calls Tryz.prog 157 #[.int .u64 (pat i : Int), .agg #[.int .i64 s1, .bool g1, .slice A1 n1 c1, .slice B1 m1 d1, .int .i64 1, .bool o1]] w (Ag w (ec (es i) (ex i) s1 x1)) := by
  by_cases h : i = M ∨ i = -(M : Int)
  · exact against_inf K i s1 g1 A1 n1 c1 B1 m1 d1 x1 o1 w h h1 hK hK2
  · by_cases h0 : s1 = 0
    · subst h0
      rw [es_mid (i := i) (by omega) (by omega), ec_zero, ex_mid (by omega) (by omega)]
      exact against_fin K i g1 A1 n1 c1 B1 m1 d1 x1 o1 w (by omega) h1 hK hK2
    · exact against_far K i s1 g1 A1 n1 c1 B1 m1 d1 x1 o1 w (by omega) h0 h1 hK hK2
def pf (s1 : Int) (x1 : Rat) (o1 : Bool) (s2 : Int) (x2 : Rat) (o2 : Bool) (i j : Int) : Int × Int :=
  if j < i then ((M : Int), -(M : Int)) else wg i j (ec (es i) (ex i) s2 x2) (ec (es j) (ex j) s1 x1) (ec (es i) (ex i) s1 x1) (ec (es j) (ex j) s2 x2) (rndI (-1) x1) (rndI 1 x2) o1 o2
theorem dn_le_up (s : Int) (x : Rat) : dn s x ≤ up s x := by
  unfold dn up
  split
  · exact rndI_le x
  · omega
theorem dn_lt {s : Int} {x : Rat} (h : s = 0 ∨ s = -1) : -(M : Int) ≤ dn s x ∧ dn s x < M := by
  have hM : M = 9218868437227405312 := rfl
  rcases h with rfl | rfl
  · have := rndI_down x
    rw [dn_zero]; omega
  · unfold dn; rw [if_neg (by omega)]; omega
theorem up_gt {s : Int} {x : Rat} (h : s = 0 ∨ s = 1) : -(M : Int) < up s x ∧ up s x ≤ M := by
  have hM : M = 9218868437227405312 := rfl
  rcases h with rfl | rfl
  · have := rndI_up x
    rw [up_zero]; omega
  · unfold up; rw [if_neg (by omega)]; omega
theorem pf_iv {s1 : Int} {x1 : Rat} {o1 : Bool} {s2 : Int} {x2 : Rat} {o2 : Bool} (hs1 : s1 = 0 ∨ s1 = -1) (hs2 : s2 = 0 ∨ s2 = 1) (hle : dn s1 x1 ≤ up s2 x2) (i j : Int) (h : Iv i j) : Iv (pf s1 x1 o1 s2 x2 o2 i j).1 (pf s1 x1 o1 s2 x2 o2 i j).2 := by
  rcases h with h | ⟨rfl, rfl⟩
  · unfold pf
    rw [if_neg (by omega)]
    unfold wg
    split
    · exact Iv.none
    · rename_i hn
      rw [ec_lo_at (by omega) hs1, ec_hi_at (by omega) hs2]
      have e1 : ¬ dn s2 x2 < i := fun h' => hn (.inl ((ec_hi (by omega) hs2).2 h'))
      have e2 : ¬ j < up s1 x1 := fun h' => hn (.inr (.inr (.inl ((ec_lo (by omega) hs1).2 h'))))
      have e3 := dn_le_up s1 x1
      have e4 := dn_le_up s2 x2
      have e5 := dn_lt (x := x1) hs1
      have e6 := up_gt (x := x2) hs2
      unfold Iv
      dsimp only
      omega
  · unfold pf
    have hM : M = 9218868437227405312 := rfl
    rw [if_pos (by omega)]; exact Iv.none
theorem pcw_one (K : Nat) (s1 : Int) (g1 : Bool) (A1 : Option Addr) (n1 c1 : Nat) (B1 : Option Addr) (m1 d1 : Nat) (x1 : Rat) (o1 : Bool) (s2 : Int) (g2 : Bool) (A2 : Option Addr) (n2 c2 : Nat) (B2 : Option Addr) (m2 d2 : Nat) (x2 : Rat) (o2 : Bool) (w : World) (h1 : RatV w K g1 (.slice A1 n1 c1) (.slice B1 m1 d1) x1) (h2 : RatV w K g2 (.slice A2 n2 c2) (.slice B2 m2 d2) x2) (hK : 34 ≤ K) (hK2 : K ≤ 1048576) (hs1 : s1 = 0 ∨ s1 = -1) (hs2 : s2 = 0 ∨ s2 = 1) (hle : dn s1 x1 ≤ up s2 x2) :
    PcW w false s1 g1 A1 n1 c1 B1 m1 d1 1 o1 s2 g2 A2 n2 c2 B2 m2 d2 1 o2 (pf s1 x1 o1 s2 x2 o2) := by
  refine ⟨pf_iv hs1 hs2 hle, fun W i j hW hij => ?_⟩
  rcases hij with h | ⟨rfl, rfl⟩
  · unfold pf
    rw [if_neg (by omega)]
    refine within_gen i j 1 1 s1 g1 A1 n1 c1 B1 m1 d1 x1 s2 g2 A2 n2 c2 B2 m2 d2 x2 o1 o2 _ _ _ _ _ _ W (by omega) (fun W' hb => ?_) (fun W' hb => ?_) (fun W' hb => ?_) (fun W' hb => ?_) (fun W' hb _ => ?_) (fun W' hb _ => ?_)
    · exact against_any K i s2 g2 A2 n2 c2 B2 m2 d2 x2 o2 W' (by omega) ((h2.below hW).below hb) hK hK2
    · exact against_any K j s1 g1 A1 n1 c1 B1 m1 d1 x1 o1 W' (by omega) ((h1.below hW).below hb) hK hK2
    · exact against_any K i s1 g1 A1 n1 c1 B1 m1 d1 x1 o1 W' (by omega) ((h1.below hW).below hb) hK hK2
    · exact against_any K j s2 g2 A2 n2 c2 B2 m2 d2 x2 o2 W' (by omega) ((h2.below hW).below hb) hK hK2
    · refine (rounded10 K g1 A1 n1 c1 B1 m1 d1 s1 x1 o1 (-1) W' ((h1.below hW).below hb) hK2 (.inl rfl)).mono ?_
      rintro e w' ⟨k, rfl, hr, hb'⟩
      exact ⟨by rw [← hr.eq], hb'⟩
    · refine (rounded10 K g2 A2 n2 c2 B2 m2 d2 s2 x2 o2 1 W' ((h2.below hW).below hb) hK2 (.inr rfl)).mono ?_
      rintro e w' ⟨k, rfl, hr, hb'⟩
      exact ⟨by rw [← hr.eq], hb'⟩
  · have hM : M = 9218868437227405312 := rfl
    unfold pf
    rw [if_pos (by omega), pat_max, pat_min]
    exact within_none s1 g1 A1 n1 c1 B1 m1 d1 x1 s2 g2 A2 n2 c2 B2 m2 d2 x2 o1 o2 W
theorem pcw_nothing (s1 : Int) (g1 : Bool) (A1 : Option Addr) (n1 c1 : Nat) (B1 : Option Addr) (m1 d1 : Nat) (x1 : Rat) (o1 : Bool) (s2 : Int) (g2 : Bool) (A2 : Option Addr) (n2 c2 : Nat) (B2 : Option Addr) (m2 d2 : Nat) (x2 : Rat) (o2 : Bool) (N1 N2 : Int) (w : World) : PcW w true s1 g1 A1 n1 c1 B1 m1 d1 N1 o1 s2 g2 A2 n2 c2 B2 m2 d2 N2 o2 (fun _ _ => ((M : Int), -(M : Int))) := by
  refine ⟨fun _ _ _ => Iv.none, fun W i j hW hij => ?_⟩
  rw [pat_max, pat_min]
  exact within_nothing i j N1 N2 s1 g1 A1 n1 c1 B1 m1 d1 x1 s2 g2 A2 n2 c2 B2 m2 d2 x2 o1 o2 W
end Go.Proofs.YtmjkmoahkanblaaGreat

namespace Go.Proofs.YtmjkmoahkanblaaGreat
open Go.RowKit
theorem dn_neg (s : Int) (x : Rat) : dn (-s) (-x) = - up s x := by
  unfold dn up
  by_cases h : s = 0
  · subst h; simp only [Int.neg_zero, if_true]
    have := rndI_neg (d := 1) (.inr rfl) x
    exact this
  · rw [if_neg (by omega), if_neg h, Int.neg_mul]
theorem up_neg (s : Int) (x : Rat) : up (-s) (-x) = - dn s x := by
  have h := dn_neg (-s) (-x)
  rw [Int.neg_neg, Rat.neg_neg] at h
  omega
theorem fl_pos {j : Int} (h : 0 < j) : 0 < fl j := by have := fl_lt_iff.2 h; rwa [fl_zero] at this
theorem fl_nonneg {j : Int} (h : 0 ≤ j) : 0 ≤ fl j := by have := fl_le_iff.2 h; rwa [fl_zero] at this
def qA (s : Int) (x : Rat) (b1 b2 : Int) : Int × Rat × Bool := if 0 < esx s x then rt s x (es b2) (ex b2) else rt s x (es (max b1 0)) (ex (max b1 0))
def pA (s : Int) (x : Rat) (b1 b2 : Int) : Int × Int := if 0 ≤ esx s x then ov s x b2 else if 0 < b1 then ov s x b1 else (-(M : Int), -(M : Int))
def qB (s : Int) (x : Rat) (b1 b2 : Int) : Int × Rat × Bool := if esx s x < 0 then rt s x (es b2) (ex b2) else rt s x (es (max b1 0)) (ex (max b1 0))
def pB (s : Int) (x : Rat) (b1 b2 : Int) : Int × Int := if esx s x ≤ 0 then ov s x b2 else if 0 < b1 then ov s x b1 else ((M : Int), (M : Int))
theorem es_nought : es 0 = 0 := by decide
theorem ex_nought : ex 0 = 0 := by unfold ex; rw [if_pos es_nought, fl_zero]
theorem div_le_div {x y c d : Rat} (hc : 0 < c) (hd : 0 < d) (h : x * d ≤ y * c) : x / c ≤ y / d := by
  have hk : 0 < c * d := Rat.mul_pos hc hd
  refine (mul_le_pos hk).1 ?_
  have e1 : x / c * (c * d) = x * d := by rw [← Rat.mul_assoc, Rat.div_mul_cancel (by grind)]
  have e2 : y / d * (c * d) = y * c := by rw [Rat.mul_comm c d, ← Rat.mul_assoc, Rat.div_mul_cancel (by grind)]
  rw [e1, e2]; exact h
theorem div_pos' {x c : Rat} (hx : 0 < x) (hc : 0 < c) : 0 < x / c := by
  have h1 := Rat.inv_pos.2 hc
  rw [Rat.div_def]; exact Rat.mul_pos hx h1
theorem rndI_pos {x : Rat} (h : 0 < x) : 0 < rndI 1 x := by
  have hM : (M : Int) = 9218868437227405312 := rfl
  have h1 := mt ((rndI_up x).2.2 0 (by omega) (by omega)).1 (by rw [fl_zero]; grind)
  omega
theorem rndI_neg' {x : Rat} (h : x < 0) : rndI (-1) x < 0 := by
  have hM : (M : Int) = 9218868437227405312 := rfl
  have h1 := mt ((rndI_down x).2.2 0 (by omega) (by omega)).1 (by rw [fl_zero]; grind)
  omega
theorem ct_tail {op : Bool} {sa : Int} {xa : Rat} {fa : Bool} {sb : Int} {xb : Rat} {fb : Bool} {i j : Int} (h : -(M : Int) ≤ i ∧ i ≤ j ∧ j ≤ M ∧ i < M ∧ -(M : Int) < j) (ka : sa = 0 ∨ sa = -1) (kb : sb = 0 ∨ sb = 1)
    (wa : fa = true → sa = -1 ∨ sa = 0 ∧ xa = 0) (wb : fb = true → sb = 1 ∨ sb = 0 ∧ xb = 0) (oa : (op = true ∧ dn sa xa = 0 ∧ up sa xa = 0) ↔ (sa = 0 ∧ xa = 0 ∧ fa = true)) (ob : (op = true ∧ dn sb xb = 0 ∧ up sb xb = 0) ↔ (sb = 0 ∧ xb = 0 ∧ fb = true)) :
    ctO op i j (dn sa xa) (up sa xa) (dn sb xb) (up sb xb) = pf sa xa fa sb xb fb i j := by
  have hM : (M : Int) = 9218868437227405312 := rfl
  unfold pf
  rw [if_neg (by omega)]
  unfold wg ctO
  rw [ec_lo_at (by omega) ka, ec_hi_at (by omega) kb]
  have e1 := ec_hi (i := i) (s := sb) (x := xb) (by omega) kb
  have e2 := ec_lo (j := j) (s := sa) (x := xa) (by omega) ka
  have z0 : ∀ k : Int, -(M : Int) ≤ k → k ≤ M → (ec (es k) (ex k) 0 0 = 0 ↔ k = 0) := fun k k1 k2 => by
    have h := ec_idx (i := k) (b := 0) k1 k2 (by omega) (by omega)
    rw [es_nought, ex_nought] at h
    unfold SameSign at h
    omega
  have e3 : (ec (es i) (ex i) sb xb = 0 ∧ fb = true) ↔ (op = true ∧ dn sb xb = 0 ∧ up sb xb = 0 ∧ i = 0) := by
    constructor
    · rintro ⟨a, b⟩
      rcases wb b with k | k
      · exact absurd a (ec_hi_open (by omega) k)
      · have q := ob.2 ⟨k.1, k.2, b⟩
        rw [k.1, k.2] at a
        exact ⟨q.1, q.2.1, q.2.2, (z0 i (by omega) (by omega)).1 a⟩
    · rintro ⟨a, b, c, d⟩
      have q := ob.1 ⟨a, b, c⟩
      rw [q.1, q.2.1]
      exact ⟨(z0 i (by omega) (by omega)).2 d, q.2.2⟩
  have e4 : (ec (es j) (ex j) sa xa = 0 ∧ fa = true) ↔ (op = true ∧ dn sa xa = 0 ∧ up sa xa = 0 ∧ j = 0) := by
    constructor
    · rintro ⟨a, b⟩
      rcases wa b with k | k
      · exact absurd a (ec_lo_open (by omega) k)
      · have q := oa.2 ⟨k.1, k.2, b⟩
        rw [k.1, k.2] at a
        exact ⟨q.1, q.2.1, q.2.2, (z0 j (by omega) (by omega)).1 a⟩
    · rintro ⟨a, b, c, d⟩
      have q := oa.1 ⟨a, b, c⟩
      rw [q.1, q.2.1]
      exact ⟨(z0 j (by omega) (by omega)).2 d, q.2.2⟩
  by_cases hc : dn sb xb < i ∨ j < up sa xa
  · rw [if_pos hc, if_pos]
    rcases hc with h1 | h1
    · exact .inl (e1.2 h1)
    · exact .inr (.inr (.inl (e2.2 h1)))
  · rw [if_neg hc]
    by_cases hd : op = true ∧ ((dn sa xa = 0 ∧ up sa xa = 0 ∧ j ≤ 0) ∨ (dn sb xb = 0 ∧ up sb xb = 0 ∧ 0 ≤ i))
    · rw [if_pos hd, if_pos]
      obtain ⟨ho, hd | hd⟩ := hd
      · exact .inr (.inr (.inr (e4.2 ⟨ho, hd.1, hd.2.1, by omega⟩)))
      · exact .inr (.inl (e3.2 ⟨ho, hd.1, hd.2.1, by omega⟩))
    · rw [if_neg hd, if_neg]
      rintro (h1 | h1 | h1 | h1)
      · exact hc (.inl (e1.1 h1))
      · have q := e3.1 h1
        exact hd ⟨q.1, .inr ⟨q.2.1, q.2.2.1, by omega⟩⟩
      · exact hc (.inr (e2.1 h1))
      · have q := e4.1 h1
        exact hd ⟨q.1, .inl ⟨q.2.1, q.2.2.1, by omega⟩⟩
end Go.Proofs.YtmjkmoahkanblaaGreat

namespace Go.Proofs.YtmjkmoahkanblaaGreat
open Go.RowKit
theorem rc_neg2 (x y : Rat) : rc (-x) (-y) = - rc x y := by
  unfold rc
  by_cases h : x < y
  · have h1 : ¬ -x < -y := by grind
    have h2 : -y < -x := by grind
    rw [if_neg h1, if_pos h2, if_pos h]; rfl
  · by_cases h' : y < x
    · have h1 : -x < -y := by grind
      rw [if_pos h1, if_neg h, if_pos h']
    · have h1 : ¬ -x < -y := by grind
      have h2 : ¬ -y < -x := by grind
      rw [if_neg h1, if_neg h2, if_neg h, if_neg h']; rfl
theorem ec_neg2 (s : Int) (x : Rat) (t : Int) (y : Rat) : ec (-s) (-x) (-t) (-y) = - ec s x t y := by
  unfold ec
  by_cases h : s = t
  · subst h
    rw [if_pos rfl, if_pos rfl, rc_neg2]
    by_cases h0 : s = 0
    · subst h0; simp
    · rw [if_neg (by omega), if_neg h0]; rfl
  · rw [if_neg (show ¬ -s = -t by omega), if_neg h]
    by_cases h2 : s < t
    · rw [if_neg (show ¬ -s < -t by omega), if_pos h2]; rfl
    · rw [if_pos (show -s < -t by omega), if_neg h2]
theorem ec_turn (i t : Int) (y : Rat) : ec (es i) (ex i) (-t) (-y) = - ec (es (-i)) (ex (-i)) t y := by
  have h := ec_neg2 (es (-i)) (ex (-i)) t y
  rw [es_neg, ex_neg, Int.neg_neg, Rat.neg_neg] at h
  rw [h, es_neg, ex_neg]
theorem pf_neg (sa : Int) (xa : Rat) (oa : Bool) (sb : Int) (xb : Rat) (ob : Bool) (i j : Int) :
    pf (-sb) (-xb) ob (-sa) (-xa) oa i j = (-(pf sa xa oa sb xb ob (-j) (-i)).2, -(pf sa xa oa sb xb ob (-j) (-i)).1) := by
  have a := rndI_neg (d := 1) (.inr rfl) xb
  have b := rndI_neg (d := -1) (.inl rfl) xa
  rw [show (-(1 : Int)) = -1 from rfl] at a
  rw [show (- -1 : Int) = 1 from rfl] at b
  unfold pf
  by_cases hji : j < i
  · rw [if_pos hji, if_pos (show -i < -j by omega)]; simp
  · rw [if_neg hji, if_neg (show ¬ -i < -j by omega), ec_turn, ec_turn, ec_turn, ec_turn, a, b]
    unfold wg
    obtain ⟨c1, h1⟩ : ∃ z, ec (es (-i)) (ex (-i)) sa xa = z := ⟨_, rfl⟩
    obtain ⟨c2, h2⟩ : ∃ z, ec (es (-j)) (ex (-j)) sb xb = z := ⟨_, rfl⟩
    obtain ⟨c3, h3⟩ : ∃ z, ec (es (-i)) (ex (-i)) sb xb = z := ⟨_, rfl⟩
    obtain ⟨c4, h4⟩ : ∃ z, ec (es (-j)) (ex (-j)) sa xa = z := ⟨_, rfl⟩
    rw [h1, h2, h3, h4]
    by_cases hc : 0 < c2 ∨ (c2 = 0 ∧ ob = true) ∨ c1 < 0 ∨ (c1 = 0 ∧ oa = true)
    · rw [if_pos hc, if_pos (by rcases hc with h | ⟨h, o⟩ | h | ⟨h, o⟩; exact .inr (.inr (.inl (by omega))); exact .inr (.inr (.inr ⟨by omega, o⟩)); exact .inl (by omega); exact .inr (.inl ⟨by omega, o⟩))]
      simp
    · rw [if_neg hc, if_neg (by rintro (h | ⟨h, o⟩ | h | ⟨h, o⟩); exact hc (.inr (.inr (.inl (by omega)))); exact hc (.inr (.inr (.inr ⟨by omega, o⟩))); exact hc (.inl (by omega)); exact hc (.inr (.inl ⟨by omega, o⟩)))]
      by_cases k1 : c3 ≤ 0 <;> by_cases k2 : 0 ≤ c4
      · rw [if_neg (by omega), if_neg (by omega), if_neg (by omega), if_neg (by omega)]; simp
      · rw [if_neg (show ¬ -c3 < 0 by omega), if_pos (show 0 < -c4 by omega), if_pos (show c4 < 0 by omega), if_neg (show ¬ 0 < c3 by omega)]; simp
      · rw [if_pos (show -c3 < 0 by omega), if_neg (show ¬ 0 < -c4 by omega), if_neg (show ¬ c4 < 0 by omega), if_pos (show 0 < c3 by omega)]; simp
      · rw [if_pos (show -c3 < 0 by omega), if_pos (show 0 < -c4 by omega), if_pos (show c4 < 0 by omega), if_pos (show 0 < c3 by omega)]
theorem ov_rng {s : Int} {x : Rat} {j : Int} (hs : s = 0 ∨ s = 1 ∨ s = -1) : (-(M : Int) ≤ (ov s x j).1 ∧ (ov s x j).1 ≤ M) ∧ (-(M : Int) ≤ (ov s x j).2 ∧ (ov s x j).2 ≤ M) := by
  have hM : (M : Int) = 9218868437227405312 := rfl
  unfold ov
  have a := rndI_down (x / fl j)
  have b := rndI_up (x / fl j)
  split
  · rcases hs with h | h | h <;> subst h <;> dsimp only <;> omega
  · split <;> dsimp only <;> omega
structure NumOk (s1 : Int) (x1 : Rat) (s2 : Int) (x2 : Rat) : Prop where
  a1 : s1 = 0 ∨ s1 = -1
  a2 : s1 ≠ 0 → x1 = 0
  b1 : s2 = 0 ∨ s2 = 1
  b2 : s2 ≠ 0 → x2 = 0
  le : s1 = 0 → s2 = 0 → x1 ≤ x2
def PF (b1 b2 : Int) (s1 : Int) (x1 : Rat) (s2 : Int) (x2 : Rat) (i j : Int) : Int × Int :=
  if b2 ≤ 0 then ((M : Int), -(M : Int)) else pf (qA s1 x1 b1 b2).1 (qA s1 x1 b1 b2).2.1 (qA s1 x1 b1 b2).2.2 (qB s2 x2 b1 b2).1 (qB s2 x2 b1 b2).2.1 (qB s2 x2 b1 b2).2.2 i j
def Ne (i j : Int) : Prop := -(M : Int) ≤ i ∧ i ≤ j ∧ j ≤ M ∧ i < M ∧ -(M : Int) < j
theorem Ne.iv {i j : Int} (h : Ne i j) : Iv i j := .inl h
theorem Ne.neg {i j : Int} (h : Ne i j) : Ne (-j) (-i) := by unfold Ne at *; omega
def fa (b1 b2 : Int) (s1 : Int) (x1 : Rat) (s2 : Int) (x2 : Rat) (i j : Int) : Int × Int :=
  if (b1 ≤ 0 ∧ 0 ≤ b2) ∧ esx s1 x1 ≤ 0 ∧ 0 ≤ esx s2 x2 then (i, j)
  else (min (PF b1 b2 s1 x1 s2 x2 i j).1 (-(PF (-b2) (-b1) s1 x1 s2 x2 (-j) (-i)).2), max (PF b1 b2 s1 x1 s2 x2 i j).2 (-(PF (-b2) (-b1) s1 x1 s2 x2 (-j) (-i)).1))
theorem mirror_idx (i j : Int) (w : World) (h : Iv i j) : Calls Tryz.prog 59 #[.agg #[.float .f64 (pat i), .float .f64 (pat j)]] w fun e w' => e = .returned (.agg #[.float .f64 (pat (-j)), .float .f64 (pat (-i))]) ∧ Below w.heap.size w w' := by
  have h2 := mirrorf (pat i) (pat j) w (pat_lt h.lo.1 h.lo.2) (pat_lt h.hi.1 h.hi.2)
  rw [rd_pat h] at h2
  exact h2
theorem ne_or {i j : Int} (h : Iv i j) (h2 : ¬ j < i) : Ne i j := by
  rcases h with h | ⟨rfl, rfl⟩
  · exact h
  · have hM : (M : Int) = 9218868437227405312 := rfl
    omega
end Go.Proofs.YtmjkmoahkanblaaGreat

namespace Go.Proofs.YtmjkmoahkanblaaGreat
open Go.RowKit
theorem none6 (w : World) : Calls Tryz.prog 125 #[] w (NewSet w 1 true 0 0 0 0) := by
  have HF := Lib.hid fun W => finite_nat 0 W (by omega)
  obtain ⟨LB0, LR⟩ := bx1 w #[.bool false, .int .i64 0, .bool false, .slice none 0 0, .slice none 0 0, .int .i64 0, .bool false, .slice none 0 0, .slice none 0 0] 69
  have LR0 := Lib.hid (HasBlk.of (n := 9) LR.out rfl rfl)
  clear LR
  go_enter Tryz.func125, Tryz.ntmps125
  go_wp2_with fail
  refine (HF.out _).mono ?_
  rintro e w1 ⟨g3, A3, n3, c3, B3, m3, d3, rfl, h3, hb3⟩
  have LB1 := stB LB0 hb3 LB0.out.size
  have LR1 := stR LR0 hb3
  clear LB0 LR0
  go_wp2_with fail
  refine (HF.out _).mono ?_
  rintro e w2 ⟨g4, A4, n4, c4, B4, m4, d4, rfl, h4, hb4⟩
  have LB2 := stB LB1 hb4 LB1.out.size
  have LR2 := stR LR1 hb4
  clear LB1 LR1
  have FR1 := Lib.hid (LR2.out.rat (h3.below hb4) [.bool true, .int .i64 0, .bool g3, .slice A3 n3 c3, .slice B3 m3 d3, .int .i64 0, .bool g4, .slice A4 n4 c4, .slice B4 m4 d4])
  have FR2 := Lib.hid (LR2.out.rat h4 [.bool true, .int .i64 0, .bool g3, .slice A3 n3 c3, .slice B3 m3 d3, .int .i64 0, .bool g4, .slice A4 n4 c4, .slice B4 m4 d4])
  clear h3 h4 hb3 hb4 HF
  obtain ⟨ha0, hf0, ha1, hf1, ha2, hf2, ha3, hf3, ha4, hf4, ha5, hf5, ha6, hf6, ha7, hf7, ha8, hf8⟩ := LR2.out.sf9
  obtain ⟨hk0, hk1, hk2, hk3, hk4, hk5, hk6, hk7, hk8⟩ := LR2.out.sc9 (.bool true) (.int .i64 0) (.bool g3) (.slice A3 n3 c3) (.slice B3 m3 d3) (.int .i64 0) (.bool g4) (.slice A4 n4 c4) (.slice B4 m4 d4)
  have F := Lib.hid (below_sets (w0 := w) (r := w.heap.size) (by omega) [.bool true, .int .i64 0, .bool g3, .slice A3 n3 c3, .slice B3 m3 d3, .int .i64 0, .bool g4, .slice A4 n4 c4, .slice B4 m4 d4] 0 _ LB2.out)
  simp [sets] at hk0 hk1 hk2 hk3 hk4 hk5 hk6 hk7 hk8
  go_wp2
  refine bodyPost_ret (v := .agg #[.bool true, .int .i64 0, .bool g3, .slice A3 n3 c3, .slice B3 m3 d3, .int .i64 0, .bool g4, .slice A4 n4 c4, .slice B4 m4 d4]) (by simp [results, Tryz.results125, go_sem, hk0, hk1, hk2, hk3, hk4, hk5, hk6, hk7, hk8]) rfl ?_
  exact ⟨_, _, _, _, _, _, _, _, _, _, _, _, _, _, rfl, FR1.out, FR2.out, F.out⟩
end Go.Proofs.YtmjkmoahkanblaaGreat
