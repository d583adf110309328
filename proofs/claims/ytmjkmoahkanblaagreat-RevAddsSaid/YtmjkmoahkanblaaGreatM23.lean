/-
Walks: package vergeref10, all.
Walks: package vergeref10, all, whatever the pieces are.
Pieces whose bounds are numbers or infinities, open or not: what Within makes of them.
Plain: a sum of floats of which one is infinite; the quick road's answer.
-/
import Derived.Test.YtmjkmoahkanblaaGreatM13
import Derived.Deep.DeepCutAuto
import Derived.Test.YtmjkmoahkanblaaGreatM22
import Derived.Test.YtmjkmoahkanblaaGreatPGoA
import Derived.Test.YtmjkmoahkanblaaGreatM15
import Derived.Test.YtmjkmoahkanblaaGreatPMathT
set_option linter.unusedSimpArgs false
set_option linter.unusedVariables false

namespace Go.Proofs.YtmjkmoahkanblaaGreat
open Go.RowKit

/-- The piece that lies at place k of a row of pieces: from the index a to the index b. -/
def PcAt (W : World) (ad : Addr) (k : Nat) (a b : Int) : Prop :=
  -(M : Int) ≤ a ∧ a < M ∧ -(M : Int) < b ∧ b ≤ M ∧ a ≤ b ∧ ∃ g1 A1 n1 c1 B1 m1 d1 g2 A2 n2 c2 B2 m2 d2,
    W.cell? (ad.add (k * 13)) = some (.bool false) ∧ W.cell? ⟨(ad.add (k * 13)).block, (ad.add (k * 13)).off + 1, none⟩ = some (.int .i64 (es a)) ∧ W.cell? ⟨(ad.add (k * 13)).block, (ad.add (k * 13)).off + 2, none⟩ = some (.bool g1) ∧
    W.cell? ⟨(ad.add (k * 13)).block, (ad.add (k * 13)).off + 3, none⟩ = some (.slice A1 n1 c1) ∧ W.cell? ⟨(ad.add (k * 13)).block, (ad.add (k * 13)).off + 4, none⟩ = some (.slice B1 m1 d1) ∧ W.cell? ⟨(ad.add (k * 13)).block, (ad.add (k * 13)).off + 5, none⟩ = some (.int .i64 1) ∧
    W.cell? ⟨(ad.add (k * 13)).block, (ad.add (k * 13)).off + 6, none⟩ = some (.bool (decide (es a ≠ 0))) ∧ W.cell? ⟨(ad.add (k * 13)).block, (ad.add (k * 13)).off + 7, none⟩ = some (.int .i64 (es b)) ∧ W.cell? ⟨(ad.add (k * 13)).block, (ad.add (k * 13)).off + 8, none⟩ = some (.bool g2) ∧
    W.cell? ⟨(ad.add (k * 13)).block, (ad.add (k * 13)).off + 9, none⟩ = some (.slice A2 n2 c2) ∧ W.cell? ⟨(ad.add (k * 13)).block, (ad.add (k * 13)).off + 10, none⟩ = some (.slice B2 m2 d2) ∧ W.cell? ⟨(ad.add (k * 13)).block, (ad.add (k * 13)).off + 11, none⟩ = some (.int .i64 1) ∧
    W.cell? ⟨(ad.add (k * 13)).block, (ad.add (k * 13)).off + 12, none⟩ = some (.bool (decide (es b ≠ 0))) ∧ RatV W 34 g1 (.slice A1 n1 c1) (.slice B1 m1 d1) (ex a) ∧ RatV W 34 g2 (.slice A2 n2 c2) (.slice B2 m2 d2) (ex b)

theorem es_mid' {i : Int} (h : -(M : Int) < i) (h' : i < M) : decide (es i ≠ 0) = false := by rw [es_mid h h']; rfl
theorem within_idx (i j a b : Int) (g1 : Bool) (A1 : Option Addr) (n1 c1 : Nat) (B1 : Option Addr) (m1 d1 : Nat) (g2 : Bool) (A2 : Option Addr) (n2 c2 : Nat) (B2 : Option Addr) (m2 d2 : Nat) (w : World)
    (hij : Iv i j) (ha : -(M : Int) ≤ a ∧ a < M) (hb : -(M : Int) < b ∧ b ≤ M) (h1 : RatV w 34 g1 (.slice A1 n1 c1) (.slice B1 m1 d1) (ex a)) (h2 : RatV w 34 g2 (.slice A2 n2 c2) (.slice B2 m2 d2) (ex b)) :
    Calls Tryz.prog 88 #[.agg #[.int .u64 (pat i : Int), .int .u64 (pat j : Int)], .agg #[.bool false, .int .i64 (es a), .bool g1, .slice A1 n1 c1, .slice B1 m1 d1, .int .i64 1, .bool (decide (es a ≠ 0)), .int .i64 (es b), .bool g2, .slice A2 n2 c2, .slice B2 m2 d2, .int .i64 1, .bool (decide (es b ≠ 0))]] w
      fun e w' => e = .returned (.agg #[.int .u64 (pat (wi i j a b).1 : Int), .int .u64 (pat (wi i j a b).2 : Int)]) ∧ Below w.heap.size w w' := by
  rcases hij with h | ⟨rfl, rfl⟩
  · exact within_full 34 i j a b g1 A1 n1 c1 B1 m1 d1 _ g2 A2 n2 c2 B2 m2 d2 _ w h ha hb h1 h2 (by omega) (by omega) (fun e => es_mid' (by omega) (by omega)) (fun e => es_mid' (by omega) (by omega))
  · have hM : M = 9218868437227405312 := rfl
    have e : wi M (-(M : Int)) a b = ((M : Int), -(M : Int)) := by unfold wi; rw [if_neg (by omega)]
    rw [e, pat_max, pat_min]
    exact within_none (es a) g1 A1 n1 c1 B1 m1 d1 0 (es b) g2 A2 n2 c2 B2 m2 d2 0 _ _ w
theorem hl_iv {i j i' j' : Int} (h : Iv i j) (h' : Iv i' j') : Iv (hl i j i' j').1 (hl i j i' j').2 := by
  unfold hl
  split
  · exact h'
  · split
    · exact h
    · unfold Iv at *
      rw [M_val] at *
      dsimp only
      omega
/-- What is hulled of the first k pieces. -/
def zf (i j : Int) (L : Nat → Int × Int) : Nat → Int × Int
  | 0 => ((M : Int), -(M : Int))
  | k + 1 => hl (zf i j L k).1 (zf i j L k).2 (wi i j (L k).1 (L k).2).1 (wi i j (L k).1 (L k).2).2
theorem zf_iv {i j : Int} {L : Nat → Int × Int} (hij : Iv i j) : ∀ k : Nat, (∀ t : Nat, t < k → -(M : Int) ≤ (L t).1 ∧ (L t).1 < M ∧ -(M : Int) < (L t).2 ∧ (L t).2 ≤ M ∧ (L t).1 ≤ (L t).2) → Iv (zf i j L k).1 (zf i j L k).2
  | 0, _ => Iv.none
  | k + 1, h => by
    have h1 := h k (by omega)
    exact hl_iv (zf_iv hij k fun t ht => h t (by omega)) (wi_iv hij h1.1 h1.2.1 h1.2.2.1 h1.2.2.2.1 h1.2.2.2.2)

set_option maxHeartbeats 6400000 in
theorem all_any (x y : Nat) (ad : Addr) (n c : Nat) (L : Nat → Int × Int) (w : World) (hx : x < 18446744073709551616) (hy : y < 18446744073709551616) (hn : n ≤ 100) (hc : n ≤ c) (hL : ∀ k : Nat, k < n → PcAt w ad k (L k).1 (L k).2) :
    Calls Tryz.prog 54 #[.agg #[.int .u64 (x : Int), .int .u64 (y : Int)], .slice (some ad) n c] w fun e w' =>
      e = .returned (.agg #[.int .u64 (pat (zf (rd x y).1 (rd x y).2 L n).1 : Int), .int .u64 (pat (zf (rd x y).1 (rd x y).2 L n).2 : Int)]) ∧ Below w.heap.size w w' := by
  have HR := Lib.hid fun W => read6 x y W hx hy
  have HE := Lib.hid empty6
  have hiv := rd_iv x y
  obtain ⟨i, hi⟩ : ∃ i, (rd x y).1 = i := ⟨_, rfl⟩
  obtain ⟨j, hj⟩ : ∃ i, (rd x y).2 = i := ⟨_, rfl⟩
  rw [hi, hj] at HR hiv ⊢
  have HZI := Lib.hid fun (k : Nat) (hk : k ≤ n) => zf_iv (L := L) hiv k fun t ht => by
    obtain ⟨a1, a2, a3, a4, a5, -⟩ := hL t (by omega)
    exact ⟨a1, a2, a3, a4, a5⟩
  have HIV := Lib.hid hiv
  have HL := Lib.hid hL
  obtain ⟨p, hp⟩ : ∃ p, pat i = p := ⟨_, rfl⟩
  obtain ⟨q, hq⟩ : ∃ p, pat j = p := ⟨_, rfl⟩
  rw [hp, hq] at HR
  have HP := Lib.hid hp
  have HQ := Lib.hid hq
  obtain ⟨zz, hzz⟩ : ∃ f : Nat → Int × Int, f = zf i j L := ⟨_, rfl⟩
  rw [← hzz] at HZI ⊢
  have HZZ := Lib.hid hzz
  clear hi hj hp hq hL hiv hzz
  have LB0 := Lib.hid (show Below w.heap.size w ((w.alloc (.cells #[.int .u64 (x : Int), .int .u64 (y : Int)] 24)).alloc (.cells #[.int .u64 0, .int .u64 0] 24)) from ((below_alloc w _).alloc (by simp <;> omega) _))
  have LG0_0 := Lib.hid (((Blk.at (W := w) (g := w.heap.size) (by simp <;> omega) 24 #[.int .u64 (x : Int), .int .u64 (y : Int)]).alloc (.cells #[.int .u64 0, .int .u64 0] 24)))
  have LR0 := Lib.hid (HasBlk.of (n := 2) (Blk.at (W := (w.alloc (.cells #[.int .u64 (x : Int), .int .u64 (y : Int)] 24))) (g := (w.heap.size + 1)) (by simp <;> omega) 24 #[.int .u64 0, .int .u64 0]) rfl rfl)
  go_enter Tryz.func54, Tryz.ntmps54
  go_wp2_with fail
  refine (HR.out _).mono ?_
  rintro e w1 ⟨rfl, hb1⟩
  have LB1 := Lib.hid (LB0.out.trans (hb1.mono LB0.out.size))
  have LR1 := Lib.hid (LR0.out.keep hb1)
  have LG0_1 := Lib.hid (LG0_0.out.keep hb1)
  clear LB0 LR0 LG0_0
  have hl1 := LB1.out.size
  have hlr1 := LR1.out.lt
  have hlt2 := LR1.out.lt
  have LB2 := Lib.hid (LB1.out.alloc LB1.out.size (.cells #[.int .u64 (p : Int), .int .u64 (q : Int)] 24))
  have LR2 := Lib.hid (LR1.out.alloc (.cells #[.int .u64 (p : Int), .int .u64 (q : Int)] 24))
  have LG0_2 := Lib.hid (LG0_1.out.alloc (.cells #[.int .u64 (p : Int), .int .u64 (q : Int)] 24))
  have LG1_2 := Lib.hid (Blk.new w1 24 #[.int .u64 (p : Int), .int .u64 (q : Int)])
  clear LB1 LR1 LG0_1
  clear hb1
  have hl2 : w1.heap.size < (w1.alloc (.cells #[.int .u64 (p : Int), .int .u64 (q : Int)] 24)).heap.size := by simp
  go_wp2_with fail
  refine (HE.out _).mono ?_
  rintro e w2 ⟨rfl, hb2⟩
  have LB3 := Lib.hid (LB2.out.trans (hb2.mono LB2.out.size))
  have LR3 := Lib.hid (LR2.out.keep hb2)
  have LG0_3 := Lib.hid (LG0_2.out.keep hb2)
  have LG1_3 := Lib.hid (LG1_2.out.keep hb2)
  clear LB2 LR2 LG0_2 LG1_2
  have hl3 := hb2.size
  have hl4 : w1.heap.size < w2.heap.size := by omega
  clear hl2 hl3
  have hlt4 := LR3.out.lt
  have LB4 := Lib.hid (LB3.out.alloc LB3.out.size (.cells #[.int .u64 9218868437227405312, .int .u64 18442240474082181120] 24))
  have LR4 := Lib.hid (LR3.out.alloc (.cells #[.int .u64 9218868437227405312, .int .u64 18442240474082181120] 24))
  have LG0_4 := Lib.hid (LG0_3.out.alloc (.cells #[.int .u64 9218868437227405312, .int .u64 18442240474082181120] 24))
  have LG1_4 := Lib.hid (LG1_3.out.alloc (.cells #[.int .u64 9218868437227405312, .int .u64 18442240474082181120] 24))
  have LG2_4 := Lib.hid (Blk.new w2 24 #[.int .u64 9218868437227405312, .int .u64 18442240474082181120])
  clear LB3 LR3 LG0_3 LG1_3
  clear hb2
  have hl5 := LB4.out.size
  go_wp2_with fail
  have hl6 : w.heap.size + 1 < w2.heap.size := by omega
  go_loopw [7] (fun iv wr => ∃ k : Nat, iv = .int .i64 (k : Int) ∧ k ≤ n ∧ Blk wr w1.heap.size 24 #[.int .u64 (p : Int), .int .u64 (q : Int)] ∧ Blk wr w2.heap.size 24 #[.int .u64 (pat (zz k).1 : Int), .int .u64 (pat (zz k).2 : Int)] ∧ HasBlk wr (w.heap.size + 1) 24 2 ∧ Below w.heap.size w wr) (fun iv _ => n - (intOf iv).toNat)
  case atStart =>
    refine ⟨0, rfl, by omega, LG1_4.out, ?_, LR4.out, LB4.out⟩
    have e : zz 0 = ((M : Int), -(M : Int)) := by rw [HZZ.out]; rfl
    rw [e, pat_max, pat_min]
    exact LG2_4.out
  case round =>
    clear LB4 LR4 LG0_4 LG1_4 LG2_4
    obtain ⟨k, rfl, hk, gy, gz, gr, gb⟩ := hrel
    have hiz := HZI.out k hk
    by_cases h : k < n
    · have h2 : (k : Int) < (n : Int) := by omega
      have gy0 := Lib.hid gy
      have gz0 := Lib.hid gz
      have gr0 := Lib.hid gr
      have gb0 := Lib.hid gb
      obtain ⟨a1, a2, a3, a4, a5, g1, A1, n1, c1, B1, m1, d1, g2, A2, n2, c2, B2, m2, d2, u0, u1, u2, u3, u4, u5, u6, u7, u8, u9, u10, u11, u12, r1, r2⟩ := HL.out k h
      have hwi := wi_iv HIV.out a1 a2 a3 a4 a5
      have e1 : zz (k + 1) = hl (zz k).1 (zz k).2 (wi i j (L k).1 (L k).2).1 (wi i j (L k).1 (L k).2).2 := by rw [HZZ.out]; rfl
      have HWI := Lib.hid fun W (hW : Below w.heap.size w W) => within_idx i j (L k).1 (L k).2 g1 A1 n1 c1 B1 m1 d1 g2 A2 n2 c2 B2 m2 d2 W HIV.out ⟨a1, a2⟩ ⟨a3, a4⟩ (r1.below hW) (r2.below hW)
      rw [HP.out, HQ.out] at HWI
      obtain ⟨v1, hv1⟩ : ∃ v, (wi i j (L k).1 (L k).2).1 = v := ⟨_, rfl⟩
      obtain ⟨v2, hv2⟩ : ∃ v, (wi i j (L k).1 (L k).2).2 = v := ⟨_, rfl⟩
      obtain ⟨z1, hz1⟩ : ∃ v, (zz k).1 = v := ⟨_, rfl⟩
      obtain ⟨z2, hz2⟩ : ∃ v, (zz k).2 = v := ⟨_, rfl⟩
      rw [hv1, hv2] at HWI hwi e1
      rw [hz1, hz2] at gz0 hiz e1
      have HO1 := Lib.hid fun W => of_idx (pat z1) (pat z2) W (pat_lt hiz.lo.1 hiz.lo.2) (pat_lt hiz.hi.1 hiz.hi.2)
      have HO2 := Lib.hid fun W => of_idx (pat v1) (pat v2) W (pat_lt hwi.lo.1 hwi.lo.2) (pat_lt hwi.hi.1 hwi.hi.2)
      rw [rd_pat hiz] at HO1
      rw [rd_pat hwi] at HO2
      dsimp only at HO1 HO2
      obtain ⟨t1, ht1⟩ : ∃ v, (hl z1 z2 v1 v2).1 = v := ⟨_, rfl⟩
      obtain ⟨t2, ht2⟩ : ∃ v, (hl z1 z2 v1 v2).2 = v := ⟨_, rfl⟩
      have HH := Lib.hid fun W u v hu hv => hull_idx u v z1 z2 v1 v2 W hu hv
      rw [ht1, ht2] at HH
      have HE1 := Lib.hid (show (zz (k + 1)).1 = t1 ∧ (zz (k + 1)).2 = t2 from by rw [e1]; exact ⟨ht1, ht2⟩)
      obtain ⟨P1, hP1⟩ : ∃ v, pat z1 = v := ⟨_, rfl⟩
      obtain ⟨P2, hP2⟩ : ∃ v, pat z2 = v := ⟨_, rfl⟩
      obtain ⟨Q1, hQ1⟩ : ∃ v, pat v1 = v := ⟨_, rfl⟩
      obtain ⟨Q2, hQ2⟩ : ∃ v, pat v2 = v := ⟨_, rfl⟩
      obtain ⟨P3, hP3⟩ : ∃ v, pat t1 = v := ⟨_, rfl⟩
      obtain ⟨P4, hP4⟩ : ∃ v, pat t2 = v := ⟨_, rfl⟩
      have HLE := Lib.hid fun W u hu => least_idx u t1 t2 W hu
      rw [hP1, hP2] at HO1 gz0
      rw [hQ1, hQ2] at HO2 HWI
      rw [hP3, hP4] at HLE
      have HP3 := Lib.hid hP3
      have HP4 := Lib.hid hP4
      obtain ⟨s1, es1⟩ : ∃ v, es (L k).1 = v := ⟨_, rfl⟩
      obtain ⟨s2, es2⟩ : ∃ v, es (L k).2 = v := ⟨_, rfl⟩
      rw [es1] at HWI u1 u6
      rw [es2] at HWI u7 u12
      obtain ⟨o1, eo1⟩ : ∃ v, decide (s1 ≠ 0) = v := ⟨_, rfl⟩
      obtain ⟨o2, eo2⟩ : ∃ v, decide (s2 ≠ 0) = v := ⟨_, rfl⟩
      rw [eo1] at HWI u6
      rw [eo2] at HWI u12
      have HU := Lib.hid fun W (hW : Below w.heap.size w W) => (⟨cell_below u0 hW, cell_below u1 hW, cell_below u2 hW, cell_below u3 hW, cell_below u4 hW, cell_below u5 hW, cell_below u6 hW, cell_below u7 hW, cell_below u8 hW, cell_below u9 hW, cell_below u10 hW, cell_below u11 hW, cell_below u12 hW⟩ : _ ∧ _ ∧ _ ∧ _ ∧ _ ∧ _ ∧ _ ∧ _ ∧ _ ∧ _ ∧ _ ∧ _ ∧ _)
      clear hv1 hv2 hz1 hz2 ht1 ht2 hP1 hP2 hQ1 hQ2 hP3 hP4 es1 es2 eo1 eo2 u0 u1 u2 u3 u4 u5 u6 u7 u8 u9 u10 u11 u12 r1 r2 a1 a2 a3 a4 a5 hwi hiz e1 gy gz gr gb hk
      go_wp2_with fail
      refine wp_region_held_drew (S := fun W' => Blk W' w1.heap.size 24 #[.int .u64 (p : Int), .int .u64 (q : Int)] ∧ HasBlk W' w2.heap.size 24 2 ∧ HasBlk W' (w.heap.size + 1) 24 2 ∧ Below w.heap.size w W') (by kernel_rfl) (by exact ⟨gy0.out.drew, HasBlk.of (n := 2) gz0.out.drew rfl rfl, gr0.out.drew, gb0.out.drew⟩) (fun hHeld => ?_)
      refine wpAnyH_take (i := 2) (v := ?_) rfl (by kernel_rfl) (by kernel_rfl) (by kernel_rfl) (fun _ _ _ h => h) (Or.inl ⟨by rfl, ?_⟩) (by assumption) ?_
      rotate_left
      · (intro W2 hSw; (try dsimp only at hSw); have q0 : _ = some (.int .u64 (p : Int) : Value) := hSw.1.cell 0; have q1 : _ = some (.int .u64 (q : Int) : Value) := hSw.1.cell 1; go_simp; (try with_reducible rfl))
      try simp only [Act.put, List.getElem_toArray, List.getElem_cons_succ, List.getElem_cons_zero, List.setIfInBounds_toArray, List.set_cons_zero, List.set_cons_succ]
      refine wpAnyH_take (i := 3) (v := ?_) rfl (by kernel_rfl) (by kernel_rfl) (by kernel_rfl) (fun _ _ _ h => h) (Or.inl ⟨by rfl, ?_⟩) (by assumption) ?_
      rotate_left
      · (intro W2 hSw; go_simp; (try with_reducible rfl))
      try simp only [Act.put, List.getElem_toArray, List.getElem_cons_succ, List.getElem_cons_zero, List.setIfInBounds_toArray, List.set_cons_zero, List.set_cons_succ]
      refine wpAnyH_take (i := 4) (v := ?_) rfl (by kernel_rfl) (by kernel_rfl) (by kernel_rfl) (fun _ _ _ h => h) (Or.inl ⟨by rfl, ?_⟩) (by assumption) ?_
      rotate_left
      · (intro W2 hSw; go_simp; (try with_reducible rfl))
      try simp only [Act.put, List.getElem_toArray, List.getElem_cons_succ, List.getElem_cons_zero, List.setIfInBounds_toArray, List.set_cons_zero, List.set_cons_succ]
      refine wpAnyH_take (i := 5) (v := ?_) rfl (by kernel_rfl) (by kernel_rfl) (by kernel_rfl) (fun _ _ _ h => h) (Or.inl ⟨by rfl, ?_⟩) (by assumption) ?_
      rotate_left
      · (intro W2 hSw; go_simp; (try with_reducible rfl))
      try simp only [Act.put, List.getElem_toArray, List.getElem_cons_succ, List.getElem_cons_zero, List.setIfInBounds_toArray, List.set_cons_zero, List.set_cons_succ]
      refine wpAnyH_take (i := 6) (v := ?_) rfl (by kernel_rfl) (by kernel_rfl) (by kernel_rfl) (fun _ _ _ h => h) (Or.inl ⟨by rfl, ?_⟩) (by assumption) ?_
      rotate_left
      · (intro W2 hSw; (try dsimp only at hSw); obtain ⟨u0, u1, u2, u3, u4, u5, u6, u7, u8, u9, u10, u11, u12⟩ := HU.out W2 hSw.2.2.2; go_simp; (try with_reducible rfl))
      try simp only [Act.put, List.getElem_toArray, List.getElem_cons_succ, List.getElem_cons_zero, List.setIfInBounds_toArray, List.set_cons_zero, List.set_cons_succ]
      refine wpAnyH_ready (rs := [0]) (by kernel_rfl) (by simp) ?_
      refine AllReadyH.cons rfl (fun KK hKK => ?_) AllReadyH.nil
      have q0 : _ = some (.int .u64 (P1 : Int) : Value) := gz0.out.drew.cell 0; have q1 : _ = some (.int .u64 (P2 : Int) : Value) := gz0.out.drew.cell 1
      go_simp
      refine hKK.out _ _ hHeld (fun _ => ?_)
      clear hKK KK hHeld; rename_i hHeld
      try simp only [Act.put, List.getElem_toArray, List.getElem_cons_succ, List.getElem_cons_zero, List.setIfInBounds_toArray, List.set_cons_zero, List.set_cons_succ]
      refine wpAnyH_ready (rs := [1]) (by kernel_rfl) (by simp) ?_
      refine AllReadyH.cons rfl (fun KK hKK => ?_) AllReadyH.nil
      go_simp
      refine (HO1.out _).mono ?_
      rintro e wa ⟨u, rfl, hu, hba⟩
      go_wp2_with fail
      refine hKK.out _ _ (⟨hHeld.1.keep hba, hHeld.2.1.keep hba, hHeld.2.2.1.keep hba, hHeld.2.2.2.trans (hba.mono hHeld.2.2.2.size)⟩) (fun _ => ?_)
      clear hKK KK hHeld; rename_i hHeld
      try simp only [Act.put, List.getElem_toArray, List.getElem_cons_succ, List.getElem_cons_zero, List.setIfInBounds_toArray, List.set_cons_zero, List.set_cons_succ]
      refine wpAnyH_ready (rs := [7]) (by kernel_rfl) (by simp) ?_
      refine AllReadyH.cons rfl (fun KK hKK => ?_) AllReadyH.nil
      go_simp
      refine (HWI.out _ hHeld.2.2.2).mono ?_
      rintro e wb ⟨rfl, hbb⟩
      go_wp2_with fail
      refine hKK.out _ _ (⟨hHeld.1.keep hbb, hHeld.2.1.keep hbb, hHeld.2.2.1.keep hbb, hHeld.2.2.2.trans (hbb.mono hHeld.2.2.2.size)⟩) (fun _ => ?_)
      clear hKK KK hHeld; rename_i hHeld
      try simp only [Act.put, List.getElem_toArray, List.getElem_cons_succ, List.getElem_cons_zero, List.setIfInBounds_toArray, List.set_cons_zero, List.set_cons_succ]
      refine wpAnyH_ready (rs := [8]) (by kernel_rfl) (by simp) ?_
      refine AllReadyH.cons rfl (fun KK hKK => ?_) AllReadyH.nil
      go_simp
      refine (HO2.out _).mono ?_
      rintro e wc ⟨v, rfl, hv, hbc⟩
      go_wp2_with fail
      refine hKK.out _ _ (⟨hHeld.1.keep hbc, hHeld.2.1.keep hbc, hHeld.2.2.1.keep hbc, hHeld.2.2.2.trans (hbc.mono hHeld.2.2.2.size)⟩) (fun _ => ?_)
      clear hKK KK hHeld; rename_i hHeld
      try simp only [Act.put, List.getElem_toArray, List.getElem_cons_succ, List.getElem_cons_zero, List.setIfInBounds_toArray, List.set_cons_zero, List.set_cons_succ]
      refine wpAnyH_ready (rs := [9]) (by kernel_rfl) (by simp) ?_
      refine AllReadyH.cons rfl (fun KK hKK => ?_) AllReadyH.nil
      go_simp
      refine (HH.out _ u v ((hu.below hbb).below hbc) hv).mono ?_
      rintro e wd ⟨t, rfl, ht, hbd⟩
      go_wp2_with fail
      refine hKK.out _ _ (⟨hHeld.1.keep hbd, hHeld.2.1.keep hbd, hHeld.2.2.1.keep hbd, hHeld.2.2.2.trans (hbd.mono hHeld.2.2.2.size)⟩) (fun _ => ?_)
      clear hKK KK hHeld; rename_i hHeld
      try simp only [Act.put, List.getElem_toArray, List.getElem_cons_succ, List.getElem_cons_zero, List.setIfInBounds_toArray, List.set_cons_zero, List.set_cons_succ]
      refine wpAnyH_ready (rs := [10]) (by kernel_rfl) (by simp) ?_
      refine AllReadyH.cons rfl (fun KK hKK => ?_) AllReadyH.nil
      go_simp
      refine (HLE.out _ t ht).mono ?_
      rintro e wf ⟨rfl, hbf⟩
      go_wp2_with fail
      refine hKK.out _ _ (⟨hHeld.1.keep hbf, hHeld.2.1.keep hbf, hHeld.2.2.1.keep hbf, hHeld.2.2.2.trans (hbf.mono hHeld.2.2.2.size)⟩) (fun _ => ?_)
      clear hKK KK hHeld; rename_i hHeld
      try simp only [Act.put, List.getElem_toArray, List.getElem_cons_succ, List.getElem_cons_zero, List.setIfInBounds_toArray, List.set_cons_zero, List.set_cons_succ]
      refine wpAnyH_ready (rs := [11]) (by kernel_rfl) (by simp) ?_
      refine AllReadyH.cons rfl (fun KK hKK => ?_) AllReadyH.nil
      have ha0 := hHeld.2.1.someCell 0 (by decide); have hf0 := hHeld.2.1.frozen 0; have ha1 := hHeld.2.1.someCell 1 (by decide); have hf1 := hHeld.2.1.frozen 1; have HZN := Lib.hid (hHeld.2.1.laid [.int .u64 (P3 : Int), .int .u64 (P4 : Int)] rfl)
      go_simp
      refine hKK.out _ _ (⟨hHeld.1.other (by omega) 0 [.int .u64 (P3 : Int), .int .u64 (P4 : Int)], hHeld.2.1.sets [.int .u64 (P3 : Int), .int .u64 (P4 : Int)] rfl rfl, hHeld.2.2.1.other (by omega) 0 [.int .u64 (P3 : Int), .int .u64 (P4 : Int)], below_sets (by omega) [.int .u64 (P3 : Int), .int .u64 (P4 : Int)] 0 _ hHeld.2.2.2⟩) (fun _ => ?_)
      clear hKK KK hHeld; rename_i hHeld
      try simp only [Act.put, List.getElem_toArray, List.getElem_cons_succ, List.getElem_cons_zero, List.setIfInBounds_toArray, List.set_cons_zero, List.set_cons_succ]
      refine wpAnyH_done (by kernel_rfl) ?_ _
      have HF := Lib.hid hHeld
      clear hHeld hu hv ht hba hbb hbc hbd hbf ha0 ha1 hf0 hf1 gy0 gz0 gr0 gb0 HU HWI HO1 HO2 HH HLE
      go_wp2
      go_roundw
      case rel =>
        refine ⟨k + 1, by go_num, by omega, HF.out.1, ?_, HF.out.2.2.1, HF.out.2.2.2⟩
        rw [HE1.out.1, HE1.out.2, HP3.out, HP4.out]
        exact HZN.out
      case measure => simp [intOf]; omega
    · have h2 : ¬ (k : Int) < (n : Int) := by omega
      obtain rfl : k = n := by omega
      obtain ⟨Q1, hQ1⟩ : ∃ v, pat (zz k).1 = v := ⟨_, rfl⟩
      obtain ⟨Q2, hQ2⟩ : ∃ v, pat (zz k).2 = v := ⟨_, rfl⟩
      rw [hQ1, hQ2] at gz
      have LB9 := Lib.hid gb
      have LR9 := Lib.hid gr
      have LG2_9 := Lib.hid gz
      have HQ1 := Lib.hid hQ1
      have HQ2 := Lib.hid hQ2
      clear gy gz gr gb hiz hQ1 hQ2
      have q2_0 : _ = some (.int .u64 (Q1 : Int) : Value) := LG2_9.out.cell 0
      have q2_1 : _ = some (.int .u64 (Q2 : Int) : Value) := LG2_9.out.cell 1
      have ha0 := LR9.out.someCell 0 (by decide)
      have hf0 := LR9.out.frozen 0
      have ha1 := LR9.out.someCell 1 (by decide)
      have hf1 := LR9.out.frozen 1
      have hk0 := LR9.out.setCell [.int .u64 (Q1 : Int), .int .u64 (Q2 : Int)] rfl 0 (by decide)
      have hk1 := LR9.out.setCell [.int .u64 (Q1 : Int), .int .u64 (Q2 : Int)] rfl 1 (by decide)
      have F := Lib.hid (below_sets (w0 := w) (r := (w.heap.size + 1)) (by omega) [.int .u64 (Q1 : Int), .int .u64 (Q2 : Int)] 0 _ LB9.out)
      simp [sets] at hk0 hk1
      go_wp2
      refine bodyPost_ret (v := .agg #[.int .u64 (Q1 : Int), .int .u64 (Q2 : Int)]) (by simp [results, Tryz.results54, go_sem, hk0, hk1]) rfl ?_
      exact ⟨by rw [HQ1.out, HQ2.out], F.out⟩

end Go.Proofs.YtmjkmoahkanblaaGreat

namespace Go.Proofs.YtmjkmoahkanblaaGreat
open Go.RowKit

/-- A piece of which Within makes F. -/
def PcW (w : World) (o : Bool) (s1 : Int) (g1 : Bool) (A1 : Option Addr) (n1 c1 : Nat) (B1 : Option Addr) (m1 d1 : Nat) (N1 : Int) (o1 : Bool) (s2 : Int) (g2 : Bool) (A2 : Option Addr) (n2 c2 : Nat) (B2 : Option Addr) (m2 d2 : Nat) (N2 : Int) (o2 : Bool) (F : Int → Int → Int × Int) : Prop :=
  (∀ i j, Iv i j → Iv (F i j).1 (F i j).2) ∧ ∀ W i j, Below w.heap.size w W → Iv i j →
    Calls Tryz.prog 88 #[.agg #[.int .u64 (pat i : Int), .int .u64 (pat j : Int)], .agg #[.bool o, .int .i64 s1, .bool g1, .slice A1 n1 c1, .slice B1 m1 d1, .int .i64 N1, .bool o1, .int .i64 s2, .bool g2, .slice A2 n2 c2, .slice B2 m2 d2, .int .i64 N2, .bool o2]] W
      fun e w' => e = .returned (.agg #[.int .u64 (pat (F i j).1 : Int), .int .u64 (pat (F i j).2 : Int)]) ∧ Below W.heap.size W w'
/-- Such a piece lies at place k of a row of pieces. -/
def PcG (W : World) (ad : Addr) (k : Nat) (F : Int → Int → Int × Int) : Prop :=
  ∃ o s1 g1 A1 n1 c1 B1 m1 d1 N1 o1 s2 g2 A2 n2 c2 B2 m2 d2 N2 o2,
    W.cell? (ad.add (k * 13)) = some (.bool o) ∧ W.cell? ⟨(ad.add (k * 13)).block, (ad.add (k * 13)).off + 1, none⟩ = some (.int .i64 s1) ∧ W.cell? ⟨(ad.add (k * 13)).block, (ad.add (k * 13)).off + 2, none⟩ = some (.bool g1) ∧
    W.cell? ⟨(ad.add (k * 13)).block, (ad.add (k * 13)).off + 3, none⟩ = some (.slice A1 n1 c1) ∧ W.cell? ⟨(ad.add (k * 13)).block, (ad.add (k * 13)).off + 4, none⟩ = some (.slice B1 m1 d1) ∧ W.cell? ⟨(ad.add (k * 13)).block, (ad.add (k * 13)).off + 5, none⟩ = some (.int .i64 N1) ∧
    W.cell? ⟨(ad.add (k * 13)).block, (ad.add (k * 13)).off + 6, none⟩ = some (.bool o1) ∧ W.cell? ⟨(ad.add (k * 13)).block, (ad.add (k * 13)).off + 7, none⟩ = some (.int .i64 s2) ∧ W.cell? ⟨(ad.add (k * 13)).block, (ad.add (k * 13)).off + 8, none⟩ = some (.bool g2) ∧
    W.cell? ⟨(ad.add (k * 13)).block, (ad.add (k * 13)).off + 9, none⟩ = some (.slice A2 n2 c2) ∧ W.cell? ⟨(ad.add (k * 13)).block, (ad.add (k * 13)).off + 10, none⟩ = some (.slice B2 m2 d2) ∧ W.cell? ⟨(ad.add (k * 13)).block, (ad.add (k * 13)).off + 11, none⟩ = some (.int .i64 N2) ∧
    W.cell? ⟨(ad.add (k * 13)).block, (ad.add (k * 13)).off + 12, none⟩ = some (.bool o2) ∧ PcW W o s1 g1 A1 n1 c1 B1 m1 d1 N1 o1 s2 g2 A2 n2 c2 B2 m2 d2 N2 o2 F
/-- What is hulled of the first k pieces. -/
def zg (i j : Int) (L : Nat → Int → Int → Int × Int) : Nat → Int × Int
  | 0 => ((M : Int), -(M : Int))
  | k + 1 => hl (zg i j L k).1 (zg i j L k).2 (L k i j).1 (L k i j).2
theorem zg_iv {i j : Int} {L : Nat → Int → Int → Int × Int} : ∀ k : Nat, (∀ t : Nat, t < k → Iv (L t i j).1 (L t i j).2) → Iv (zg i j L k).1 (zg i j L k).2
  | 0, _ => Iv.none
  | k + 1, h => hl_iv (zg_iv k fun t ht => h t (by omega)) (h k (by omega))

set_option maxHeartbeats 6400000 in
theorem all_gen (x y : Nat) (ad : Addr) (n c : Nat) (L : Nat → Int → Int → Int × Int) (w : World) (hx : x < 18446744073709551616) (hy : y < 18446744073709551616) (hn : n ≤ 100) (hc : n ≤ c) (hL : ∀ k : Nat, k < n → PcG w ad k (L k)) :
    Calls Tryz.prog 54 #[.agg #[.int .u64 (x : Int), .int .u64 (y : Int)], .slice (some ad) n c] w fun e w' =>
      e = .returned (.agg #[.int .u64 (pat (zg (rd x y).1 (rd x y).2 L n).1 : Int), .int .u64 (pat (zg (rd x y).1 (rd x y).2 L n).2 : Int)]) ∧ Below w.heap.size w w' := by
  have HR := Lib.hid fun W => read6 x y W hx hy
  have HE := Lib.hid empty6
  have hiv := rd_iv x y
  obtain ⟨i, hi⟩ : ∃ i, (rd x y).1 = i := ⟨_, rfl⟩
  obtain ⟨j, hj⟩ : ∃ i, (rd x y).2 = i := ⟨_, rfl⟩
  rw [hi, hj] at HR hiv ⊢
  have HZI := Lib.hid fun (k : Nat) (hk : k ≤ n) => zg_iv (L := L) (i := i) (j := j) k fun t ht => by
    obtain ⟨o, s1, g1, A1, n1, c1, B1, m1, d1, N1, o1, s2, g2, A2, n2, c2, B2, m2, d2, N2, o2, -, -, -, -, -, -, -, -, -, -, -, -, -, h, -⟩ := hL t (by omega)
    exact h i j hiv
  have HIV := Lib.hid hiv
  have HL := Lib.hid hL
  obtain ⟨p, hp⟩ : ∃ p, pat i = p := ⟨_, rfl⟩
  obtain ⟨q, hq⟩ : ∃ p, pat j = p := ⟨_, rfl⟩
  rw [hp, hq] at HR
  have HP := Lib.hid hp
  have HQ := Lib.hid hq
  obtain ⟨zz, hzz⟩ : ∃ f : Nat → Int × Int, f = zg i j L := ⟨_, rfl⟩
  rw [← hzz] at HZI ⊢
  have HZZ := Lib.hid hzz
  clear hi hj hp hq hL hiv hzz
  have LB0 := Lib.hid (show Below w.heap.size w ((w.alloc (.cells #[.int .u64 (x : Int), .int .u64 (y : Int)] 24)).alloc (.cells #[.int .u64 0, .int .u64 0] 24)) from ((below_alloc w _).alloc (by simp <;> omega) _))
  have LG0_0 := Lib.hid (((Blk.at (W := w) (g := w.heap.size) (by simp <;> omega) 24 #[.int .u64 (x : Int), .int .u64 (y : Int)]).alloc (.cells #[.int .u64 0, .int .u64 0] 24)))
  have LR0 := Lib.hid (HasBlk.of (n := 2) (Blk.at (W := (w.alloc (.cells #[.int .u64 (x : Int), .int .u64 (y : Int)] 24))) (g := (w.heap.size + 1)) (by simp <;> omega) 24 #[.int .u64 0, .int .u64 0]) rfl rfl)
  go_enter Tryz.func54, Tryz.ntmps54
  go_wp2_with fail
  refine (HR.out _).mono ?_
  rintro e w1 ⟨rfl, hb1⟩
  have LB1 := Lib.hid (LB0.out.trans (hb1.mono LB0.out.size))
  have LR1 := Lib.hid (LR0.out.keep hb1)
  have LG0_1 := Lib.hid (LG0_0.out.keep hb1)
  clear LB0 LR0 LG0_0
  have hl1 := LB1.out.size
  have hlr1 := LR1.out.lt
  have hlt2 := LR1.out.lt
  have LB2 := Lib.hid (LB1.out.alloc LB1.out.size (.cells #[.int .u64 (p : Int), .int .u64 (q : Int)] 24))
  have LR2 := Lib.hid (LR1.out.alloc (.cells #[.int .u64 (p : Int), .int .u64 (q : Int)] 24))
  have LG0_2 := Lib.hid (LG0_1.out.alloc (.cells #[.int .u64 (p : Int), .int .u64 (q : Int)] 24))
  have LG1_2 := Lib.hid (Blk.new w1 24 #[.int .u64 (p : Int), .int .u64 (q : Int)])
  clear LB1 LR1 LG0_1
  clear hb1
  have hl2 : w1.heap.size < (w1.alloc (.cells #[.int .u64 (p : Int), .int .u64 (q : Int)] 24)).heap.size := by simp
  go_wp2_with fail
  refine (HE.out _).mono ?_
  rintro e w2 ⟨rfl, hb2⟩
  have LB3 := Lib.hid (LB2.out.trans (hb2.mono LB2.out.size))
  have LR3 := Lib.hid (LR2.out.keep hb2)
  have LG0_3 := Lib.hid (LG0_2.out.keep hb2)
  have LG1_3 := Lib.hid (LG1_2.out.keep hb2)
  clear LB2 LR2 LG0_2 LG1_2
  have hl3 := hb2.size
  have hl4 : w1.heap.size < w2.heap.size := by omega
  clear hl2 hl3
  have hlt4 := LR3.out.lt
  have LB4 := Lib.hid (LB3.out.alloc LB3.out.size (.cells #[.int .u64 9218868437227405312, .int .u64 18442240474082181120] 24))
  have LR4 := Lib.hid (LR3.out.alloc (.cells #[.int .u64 9218868437227405312, .int .u64 18442240474082181120] 24))
  have LG0_4 := Lib.hid (LG0_3.out.alloc (.cells #[.int .u64 9218868437227405312, .int .u64 18442240474082181120] 24))
  have LG1_4 := Lib.hid (LG1_3.out.alloc (.cells #[.int .u64 9218868437227405312, .int .u64 18442240474082181120] 24))
  have LG2_4 := Lib.hid (Blk.new w2 24 #[.int .u64 9218868437227405312, .int .u64 18442240474082181120])
  clear LB3 LR3 LG0_3 LG1_3
  clear hb2
  have hl5 := LB4.out.size
  go_wp2_with fail
  have hl6 : w.heap.size + 1 < w2.heap.size := by omega
  go_loopw [7] (fun iv wr => ∃ k : Nat, iv = .int .i64 (k : Int) ∧ k ≤ n ∧ Blk wr w1.heap.size 24 #[.int .u64 (p : Int), .int .u64 (q : Int)] ∧ Blk wr w2.heap.size 24 #[.int .u64 (pat (zz k).1 : Int), .int .u64 (pat (zz k).2 : Int)] ∧ HasBlk wr (w.heap.size + 1) 24 2 ∧ Below w.heap.size w wr) (fun iv _ => n - (intOf iv).toNat)
  case atStart =>
    refine ⟨0, rfl, by omega, LG1_4.out, ?_, LR4.out, LB4.out⟩
    have e : zz 0 = ((M : Int), -(M : Int)) := by rw [HZZ.out]; rfl
    rw [e, pat_max, pat_min]
    exact LG2_4.out
  case round =>
    clear LB4 LR4 LG0_4 LG1_4 LG2_4
    obtain ⟨k, rfl, hk, gy, gz, gr, gb⟩ := hrel
    have hiz := HZI.out k hk
    by_cases h : k < n
    · have h2 : (k : Int) < (n : Int) := by omega
      have gy0 := Lib.hid gy
      have gz0 := Lib.hid gz
      have gr0 := Lib.hid gr
      have gb0 := Lib.hid gb
      obtain ⟨o, s1, g1, A1, n1, c1, B1, m1, d1, N1, o1, s2, g2, A2, n2, c2, B2, m2, d2, N2, o2, u0, u1, u2, u3, u4, u5, u6, u7, u8, u9, u10, u11, u12, riv, rcall⟩ := HL.out k h
      have hwi := riv i j HIV.out
      have e1 : zz (k + 1) = hl (zz k).1 (zz k).2 (L k i j).1 (L k i j).2 := by rw [HZZ.out]; rfl
      have HWI := Lib.hid fun W (hW : Below w.heap.size w W) => rcall W i j hW HIV.out
      rw [HP.out, HQ.out] at HWI
      obtain ⟨v1, hv1⟩ : ∃ v, (L k i j).1 = v := ⟨_, rfl⟩
      obtain ⟨v2, hv2⟩ : ∃ v, (L k i j).2 = v := ⟨_, rfl⟩
      obtain ⟨z1, hz1⟩ : ∃ v, (zz k).1 = v := ⟨_, rfl⟩
      obtain ⟨z2, hz2⟩ : ∃ v, (zz k).2 = v := ⟨_, rfl⟩
      rw [hv1, hv2] at HWI hwi e1
      rw [hz1, hz2] at gz0 hiz e1
      have HO1 := Lib.hid fun W => of_idx (pat z1) (pat z2) W (pat_lt hiz.lo.1 hiz.lo.2) (pat_lt hiz.hi.1 hiz.hi.2)
      have HO2 := Lib.hid fun W => of_idx (pat v1) (pat v2) W (pat_lt hwi.lo.1 hwi.lo.2) (pat_lt hwi.hi.1 hwi.hi.2)
      rw [rd_pat hiz] at HO1
      rw [rd_pat hwi] at HO2
      dsimp only at HO1 HO2
      obtain ⟨t1, ht1⟩ : ∃ v, (hl z1 z2 v1 v2).1 = v := ⟨_, rfl⟩
      obtain ⟨t2, ht2⟩ : ∃ v, (hl z1 z2 v1 v2).2 = v := ⟨_, rfl⟩
      have HH := Lib.hid fun W u v hu hv => hull_idx u v z1 z2 v1 v2 W hu hv
      rw [ht1, ht2] at HH
      have HE1 := Lib.hid (show (zz (k + 1)).1 = t1 ∧ (zz (k + 1)).2 = t2 from by rw [e1]; exact ⟨ht1, ht2⟩)
      obtain ⟨P1, hP1⟩ : ∃ v, pat z1 = v := ⟨_, rfl⟩
      obtain ⟨P2, hP2⟩ : ∃ v, pat z2 = v := ⟨_, rfl⟩
      obtain ⟨Q1, hQ1⟩ : ∃ v, pat v1 = v := ⟨_, rfl⟩
      obtain ⟨Q2, hQ2⟩ : ∃ v, pat v2 = v := ⟨_, rfl⟩
      obtain ⟨P3, hP3⟩ : ∃ v, pat t1 = v := ⟨_, rfl⟩
      obtain ⟨P4, hP4⟩ : ∃ v, pat t2 = v := ⟨_, rfl⟩
      have HLE := Lib.hid fun W u hu => least_idx u t1 t2 W hu
      rw [hP1, hP2] at HO1 gz0
      rw [hQ1, hQ2] at HO2 HWI
      rw [hP3, hP4] at HLE
      have HP3 := Lib.hid hP3
      have HP4 := Lib.hid hP4
      have HU := Lib.hid fun W (hW : Below w.heap.size w W) => (⟨cell_below u0 hW, cell_below u1 hW, cell_below u2 hW, cell_below u3 hW, cell_below u4 hW, cell_below u5 hW, cell_below u6 hW, cell_below u7 hW, cell_below u8 hW, cell_below u9 hW, cell_below u10 hW, cell_below u11 hW, cell_below u12 hW⟩ : _ ∧ _ ∧ _ ∧ _ ∧ _ ∧ _ ∧ _ ∧ _ ∧ _ ∧ _ ∧ _ ∧ _ ∧ _)
      clear hv1 hv2 hz1 hz2 ht1 ht2 hP1 hP2 hQ1 hQ2 hP3 hP4 u0 u1 u2 u3 u4 u5 u6 u7 u8 u9 u10 u11 u12 riv rcall hwi hiz e1 gy gz gr gb hk
      go_wp2_with fail
      refine wp_region_held_drew (S := fun W' => Blk W' w1.heap.size 24 #[.int .u64 (p : Int), .int .u64 (q : Int)] ∧ HasBlk W' w2.heap.size 24 2 ∧ HasBlk W' (w.heap.size + 1) 24 2 ∧ Below w.heap.size w W') (by kernel_rfl) (by exact ⟨gy0.out.drew, HasBlk.of (n := 2) gz0.out.drew rfl rfl, gr0.out.drew, gb0.out.drew⟩) (fun hHeld => ?_)
      refine wpAnyH_take (i := 2) (v := ?_) rfl (by kernel_rfl) (by kernel_rfl) (by kernel_rfl) (fun _ _ _ h => h) (Or.inl ⟨by rfl, ?_⟩) (by assumption) ?_
      rotate_left
      · (intro W2 hSw; (try dsimp only at hSw); have q0 : _ = some (.int .u64 (p : Int) : Value) := hSw.1.cell 0; have q1 : _ = some (.int .u64 (q : Int) : Value) := hSw.1.cell 1; go_simp; (try with_reducible rfl))
      try simp only [Act.put, List.getElem_toArray, List.getElem_cons_succ, List.getElem_cons_zero, List.setIfInBounds_toArray, List.set_cons_zero, List.set_cons_succ]
      refine wpAnyH_take (i := 3) (v := ?_) rfl (by kernel_rfl) (by kernel_rfl) (by kernel_rfl) (fun _ _ _ h => h) (Or.inl ⟨by rfl, ?_⟩) (by assumption) ?_
      rotate_left
      · (intro W2 hSw; go_simp; (try with_reducible rfl))
      try simp only [Act.put, List.getElem_toArray, List.getElem_cons_succ, List.getElem_cons_zero, List.setIfInBounds_toArray, List.set_cons_zero, List.set_cons_succ]
      refine wpAnyH_take (i := 4) (v := ?_) rfl (by kernel_rfl) (by kernel_rfl) (by kernel_rfl) (fun _ _ _ h => h) (Or.inl ⟨by rfl, ?_⟩) (by assumption) ?_
      rotate_left
      · (intro W2 hSw; go_simp; (try with_reducible rfl))
      try simp only [Act.put, List.getElem_toArray, List.getElem_cons_succ, List.getElem_cons_zero, List.setIfInBounds_toArray, List.set_cons_zero, List.set_cons_succ]
      refine wpAnyH_take (i := 5) (v := ?_) rfl (by kernel_rfl) (by kernel_rfl) (by kernel_rfl) (fun _ _ _ h => h) (Or.inl ⟨by rfl, ?_⟩) (by assumption) ?_
      rotate_left
      · (intro W2 hSw; go_simp; (try with_reducible rfl))
      try simp only [Act.put, List.getElem_toArray, List.getElem_cons_succ, List.getElem_cons_zero, List.setIfInBounds_toArray, List.set_cons_zero, List.set_cons_succ]
      refine wpAnyH_take (i := 6) (v := ?_) rfl (by kernel_rfl) (by kernel_rfl) (by kernel_rfl) (fun _ _ _ h => h) (Or.inl ⟨by rfl, ?_⟩) (by assumption) ?_
      rotate_left
      · (intro W2 hSw; (try dsimp only at hSw); obtain ⟨u0, u1, u2, u3, u4, u5, u6, u7, u8, u9, u10, u11, u12⟩ := HU.out W2 hSw.2.2.2; go_simp; (try with_reducible rfl))
      try simp only [Act.put, List.getElem_toArray, List.getElem_cons_succ, List.getElem_cons_zero, List.setIfInBounds_toArray, List.set_cons_zero, List.set_cons_succ]
      refine wpAnyH_ready (rs := [0]) (by kernel_rfl) (by simp) ?_
      refine AllReadyH.cons rfl (fun KK hKK => ?_) AllReadyH.nil
      have q0 : _ = some (.int .u64 (P1 : Int) : Value) := gz0.out.drew.cell 0; have q1 : _ = some (.int .u64 (P2 : Int) : Value) := gz0.out.drew.cell 1
      go_simp
      refine hKK.out _ _ hHeld (fun _ => ?_)
      clear hKK KK hHeld; rename_i hHeld
      try simp only [Act.put, List.getElem_toArray, List.getElem_cons_succ, List.getElem_cons_zero, List.setIfInBounds_toArray, List.set_cons_zero, List.set_cons_succ]
      refine wpAnyH_ready (rs := [1]) (by kernel_rfl) (by simp) ?_
      refine AllReadyH.cons rfl (fun KK hKK => ?_) AllReadyH.nil
      go_simp
      refine (HO1.out _).mono ?_
      rintro e wa ⟨u, rfl, hu, hba⟩
      go_wp2_with fail
      refine hKK.out _ _ (⟨hHeld.1.keep hba, hHeld.2.1.keep hba, hHeld.2.2.1.keep hba, hHeld.2.2.2.trans (hba.mono hHeld.2.2.2.size)⟩) (fun _ => ?_)
      clear hKK KK hHeld; rename_i hHeld
      try simp only [Act.put, List.getElem_toArray, List.getElem_cons_succ, List.getElem_cons_zero, List.setIfInBounds_toArray, List.set_cons_zero, List.set_cons_succ]
      refine wpAnyH_ready (rs := [7]) (by kernel_rfl) (by simp) ?_
      refine AllReadyH.cons rfl (fun KK hKK => ?_) AllReadyH.nil
      go_simp
      refine (HWI.out _ hHeld.2.2.2).mono ?_
      rintro e wb ⟨rfl, hbb⟩
      go_wp2_with fail
      refine hKK.out _ _ (⟨hHeld.1.keep hbb, hHeld.2.1.keep hbb, hHeld.2.2.1.keep hbb, hHeld.2.2.2.trans (hbb.mono hHeld.2.2.2.size)⟩) (fun _ => ?_)
      clear hKK KK hHeld; rename_i hHeld
      try simp only [Act.put, List.getElem_toArray, List.getElem_cons_succ, List.getElem_cons_zero, List.setIfInBounds_toArray, List.set_cons_zero, List.set_cons_succ]
      refine wpAnyH_ready (rs := [8]) (by kernel_rfl) (by simp) ?_
      refine AllReadyH.cons rfl (fun KK hKK => ?_) AllReadyH.nil
      go_simp
      refine (HO2.out _).mono ?_
      rintro e wc ⟨v, rfl, hv, hbc⟩
      go_wp2_with fail
      refine hKK.out _ _ (⟨hHeld.1.keep hbc, hHeld.2.1.keep hbc, hHeld.2.2.1.keep hbc, hHeld.2.2.2.trans (hbc.mono hHeld.2.2.2.size)⟩) (fun _ => ?_)
      clear hKK KK hHeld; rename_i hHeld
      try simp only [Act.put, List.getElem_toArray, List.getElem_cons_succ, List.getElem_cons_zero, List.setIfInBounds_toArray, List.set_cons_zero, List.set_cons_succ]
      refine wpAnyH_ready (rs := [9]) (by kernel_rfl) (by simp) ?_
      refine AllReadyH.cons rfl (fun KK hKK => ?_) AllReadyH.nil
      go_simp
      refine (HH.out _ u v ((hu.below hbb).below hbc) hv).mono ?_
      rintro e wd ⟨t, rfl, ht, hbd⟩
      go_wp2_with fail
      refine hKK.out _ _ (⟨hHeld.1.keep hbd, hHeld.2.1.keep hbd, hHeld.2.2.1.keep hbd, hHeld.2.2.2.trans (hbd.mono hHeld.2.2.2.size)⟩) (fun _ => ?_)
      clear hKK KK hHeld; rename_i hHeld
      try simp only [Act.put, List.getElem_toArray, List.getElem_cons_succ, List.getElem_cons_zero, List.setIfInBounds_toArray, List.set_cons_zero, List.set_cons_succ]
      refine wpAnyH_ready (rs := [10]) (by kernel_rfl) (by simp) ?_
      refine AllReadyH.cons rfl (fun KK hKK => ?_) AllReadyH.nil
      go_simp
      refine (HLE.out _ t ht).mono ?_
      rintro e wf ⟨rfl, hbf⟩
      go_wp2_with fail
      refine hKK.out _ _ (⟨hHeld.1.keep hbf, hHeld.2.1.keep hbf, hHeld.2.2.1.keep hbf, hHeld.2.2.2.trans (hbf.mono hHeld.2.2.2.size)⟩) (fun _ => ?_)
      clear hKK KK hHeld; rename_i hHeld
      try simp only [Act.put, List.getElem_toArray, List.getElem_cons_succ, List.getElem_cons_zero, List.setIfInBounds_toArray, List.set_cons_zero, List.set_cons_succ]
      refine wpAnyH_ready (rs := [11]) (by kernel_rfl) (by simp) ?_
      refine AllReadyH.cons rfl (fun KK hKK => ?_) AllReadyH.nil
      have ha0 := hHeld.2.1.someCell 0 (by decide); have hf0 := hHeld.2.1.frozen 0; have ha1 := hHeld.2.1.someCell 1 (by decide); have hf1 := hHeld.2.1.frozen 1; have HZN := Lib.hid (hHeld.2.1.laid [.int .u64 (P3 : Int), .int .u64 (P4 : Int)] rfl)
      go_simp
      refine hKK.out _ _ (⟨hHeld.1.other (by omega) 0 [.int .u64 (P3 : Int), .int .u64 (P4 : Int)], hHeld.2.1.sets [.int .u64 (P3 : Int), .int .u64 (P4 : Int)] rfl rfl, hHeld.2.2.1.other (by omega) 0 [.int .u64 (P3 : Int), .int .u64 (P4 : Int)], below_sets (by omega) [.int .u64 (P3 : Int), .int .u64 (P4 : Int)] 0 _ hHeld.2.2.2⟩) (fun _ => ?_)
      clear hKK KK hHeld; rename_i hHeld
      try simp only [Act.put, List.getElem_toArray, List.getElem_cons_succ, List.getElem_cons_zero, List.setIfInBounds_toArray, List.set_cons_zero, List.set_cons_succ]
      refine wpAnyH_done (by kernel_rfl) ?_ _
      have HF := Lib.hid hHeld
      clear hHeld hu hv ht hba hbb hbc hbd hbf ha0 ha1 hf0 hf1 gy0 gz0 gr0 gb0 HU HWI HO1 HO2 HH HLE
      go_wp2
      go_roundw
      case rel =>
        refine ⟨k + 1, by go_num, by omega, HF.out.1, ?_, HF.out.2.2.1, HF.out.2.2.2⟩
        rw [HE1.out.1, HE1.out.2, HP3.out, HP4.out]
        exact HZN.out
      case measure => simp [intOf]; omega
    · have h2 : ¬ (k : Int) < (n : Int) := by omega
      obtain rfl : k = n := by omega
      obtain ⟨Q1, hQ1⟩ : ∃ v, pat (zz k).1 = v := ⟨_, rfl⟩
      obtain ⟨Q2, hQ2⟩ : ∃ v, pat (zz k).2 = v := ⟨_, rfl⟩
      rw [hQ1, hQ2] at gz
      have LB9 := Lib.hid gb
      have LR9 := Lib.hid gr
      have LG2_9 := Lib.hid gz
      have HQ1 := Lib.hid hQ1
      have HQ2 := Lib.hid hQ2
      clear gy gz gr gb hiz hQ1 hQ2
      have q2_0 : _ = some (.int .u64 (Q1 : Int) : Value) := LG2_9.out.cell 0
      have q2_1 : _ = some (.int .u64 (Q2 : Int) : Value) := LG2_9.out.cell 1
      have ha0 := LR9.out.someCell 0 (by decide)
      have hf0 := LR9.out.frozen 0
      have ha1 := LR9.out.someCell 1 (by decide)
      have hf1 := LR9.out.frozen 1
      have hk0 := LR9.out.setCell [.int .u64 (Q1 : Int), .int .u64 (Q2 : Int)] rfl 0 (by decide)
      have hk1 := LR9.out.setCell [.int .u64 (Q1 : Int), .int .u64 (Q2 : Int)] rfl 1 (by decide)
      have F := Lib.hid (below_sets (w0 := w) (r := (w.heap.size + 1)) (by omega) [.int .u64 (Q1 : Int), .int .u64 (Q2 : Int)] 0 _ LB9.out)
      simp [sets] at hk0 hk1
      go_wp2
      refine bodyPost_ret (v := .agg #[.int .u64 (Q1 : Int), .int .u64 (Q2 : Int)]) (by simp [results, Tryz.results54, go_sem, hk0, hk1]) rfl ?_
      exact ⟨by rw [HQ1.out, HQ2.out], F.out⟩

end Go.Proofs.YtmjkmoahkanblaaGreat

namespace Go.Proofs.YtmjkmoahkanblaaGreat
open Go.RowKit

theorem against_any (K : Nat) (i : Int) (s1 : Int) (g1 : Bool) (A1 : Option Addr) (n1 c1 : Nat) (B1 : Option Addr) (m1 d1 : Nat) (x1 : Rat) (o1 : Bool) (w : World) (hi : -(M : Int) ≤ i ∧ i ≤ M) (h1 : RatV w K g1 (.slice A1 n1 c1) (.slice B1 m1 d1) x1) (hK : 34 ≤ K) (hK2 : K ≤ 1048576) :
    Calls Tryz.prog 157 #[.int .u64 (pat i : Int), .agg #[.int .i64 s1, .bool g1, .slice A1 n1 c1, .slice B1 m1 d1, .int .i64 1, .bool o1]] w (Ag w (ec (es i) (ex i) s1 x1)) := by
  by_cases h : i = M ∨ i = -(M : Int)
  · exact against_inf K i s1 g1 A1 n1 c1 B1 m1 d1 x1 o1 w h h1 hK hK2
  · by_cases h0 : s1 = 0
    · subst h0
      rw [es_mid (i := i) (by omega) (by omega), ec_zero, ex_mid (by omega) (by omega)]
      exact against_fin K i g1 A1 n1 c1 B1 m1 d1 x1 o1 w (by omega) h1 hK hK2
    · exact against_far K i s1 g1 A1 n1 c1 B1 m1 d1 x1 o1 w (by omega) h0 h1 hK hK2

/-- What Within makes of a piece from (s1, x1) to (s2, x2). -/
def pf (s1 : Int) (x1 : Rat) (o1 : Bool) (s2 : Int) (x2 : Rat) (o2 : Bool) (i j : Int) : Int × Int :=
  if j < i then ((M : Int), -(M : Int)) else wg i j (ec (es i) (ex i) s2 x2) (ec (es j) (ex j) s1 x1) (ec (es i) (ex i) s1 x1) (ec (es j) (ex j) s2 x2) (rndI (-1) x1) (rndI 1 x2) o1 o2
theorem dn_le_up (s : Int) (x : Rat) : dn s x ≤ up s x := by
  unfold dn up
  split
  · exact rndI_le x
  · omega
theorem dn_lt {s : Int} {x : Rat} (h : s = 0 ∨ s = -1) : -(M : Int) ≤ dn s x ∧ dn s x < M := by
  have hM : M = 9218868437227405312 := rfl
  rcases h with rfl | rfl
  · have := rndI_down x
    rw [dn_zero]; omega
  · unfold dn; rw [if_neg (by omega)]; omega
theorem up_gt {s : Int} {x : Rat} (h : s = 0 ∨ s = 1) : -(M : Int) < up s x ∧ up s x ≤ M := by
  have hM : M = 9218868437227405312 := rfl
  rcases h with rfl | rfl
  · have := rndI_up x
    rw [up_zero]; omega
  · unfold up; rw [if_neg (by omega)]; omega
theorem pf_iv {s1 : Int} {x1 : Rat} {o1 : Bool} {s2 : Int} {x2 : Rat} {o2 : Bool} (hs1 : s1 = 0 ∨ s1 = -1) (hs2 : s2 = 0 ∨ s2 = 1) (hle : dn s1 x1 ≤ up s2 x2) (i j : Int) (h : Iv i j) : Iv (pf s1 x1 o1 s2 x2 o2 i j).1 (pf s1 x1 o1 s2 x2 o2 i j).2 := by
  rcases h with h | ⟨rfl, rfl⟩
  · unfold pf
    rw [if_neg (by omega)]
    unfold wg
    split
    · exact Iv.none
    · rename_i hn
      rw [ec_lo_at (by omega) hs1, ec_hi_at (by omega) hs2]
      have e1 : ¬ dn s2 x2 < i := fun h' => hn (.inl ((ec_hi (by omega) hs2).2 h'))
      have e2 : ¬ j < up s1 x1 := fun h' => hn (.inr (.inr (.inl ((ec_lo (by omega) hs1).2 h'))))
      have e3 := dn_le_up s1 x1
      have e4 := dn_le_up s2 x2
      have e5 := dn_lt (x := x1) hs1
      have e6 := up_gt (x := x2) hs2
      unfold Iv
      dsimp only
      omega
  · unfold pf
    have hM : M = 9218868437227405312 := rfl
    rw [if_pos (by omega)]; exact Iv.none
theorem pcw_one (K : Nat) (s1 : Int) (g1 : Bool) (A1 : Option Addr) (n1 c1 : Nat) (B1 : Option Addr) (m1 d1 : Nat) (x1 : Rat) (o1 : Bool) (s2 : Int) (g2 : Bool) (A2 : Option Addr) (n2 c2 : Nat) (B2 : Option Addr) (m2 d2 : Nat) (x2 : Rat) (o2 : Bool) (w : World) (h1 : RatV w K g1 (.slice A1 n1 c1) (.slice B1 m1 d1) x1) (h2 : RatV w K g2 (.slice A2 n2 c2) (.slice B2 m2 d2) x2) (hK : 34 ≤ K) (hK2 : K ≤ 1048576) (hs1 : s1 = 0 ∨ s1 = -1) (hs2 : s2 = 0 ∨ s2 = 1) (hle : dn s1 x1 ≤ up s2 x2) :
    PcW w false s1 g1 A1 n1 c1 B1 m1 d1 1 o1 s2 g2 A2 n2 c2 B2 m2 d2 1 o2 (pf s1 x1 o1 s2 x2 o2) := by
  refine ⟨pf_iv hs1 hs2 hle, fun W i j hW hij => ?_⟩
  rcases hij with h | ⟨rfl, rfl⟩
  · unfold pf
    rw [if_neg (by omega)]
    refine within_gen i j 1 1 s1 g1 A1 n1 c1 B1 m1 d1 x1 s2 g2 A2 n2 c2 B2 m2 d2 x2 o1 o2 _ _ _ _ _ _ W (by omega) (fun W' hb => ?_) (fun W' hb => ?_) (fun W' hb => ?_) (fun W' hb => ?_) (fun W' hb _ => ?_) (fun W' hb _ => ?_)
    · exact against_any K i s2 g2 A2 n2 c2 B2 m2 d2 x2 o2 W' (by omega) ((h2.below hW).below hb) hK hK2
    · exact against_any K j s1 g1 A1 n1 c1 B1 m1 d1 x1 o1 W' (by omega) ((h1.below hW).below hb) hK hK2
    · exact against_any K i s1 g1 A1 n1 c1 B1 m1 d1 x1 o1 W' (by omega) ((h1.below hW).below hb) hK hK2
    · exact against_any K j s2 g2 A2 n2 c2 B2 m2 d2 x2 o2 W' (by omega) ((h2.below hW).below hb) hK hK2
    · refine (rounded10 K g1 A1 n1 c1 B1 m1 d1 s1 x1 o1 (-1) W' ((h1.below hW).below hb) hK2 (.inl rfl)).mono ?_
      rintro e w' ⟨k, rfl, hr, hb'⟩
      exact ⟨by rw [← hr.eq], hb'⟩
    · refine (rounded10 K g2 A2 n2 c2 B2 m2 d2 s2 x2 o2 1 W' ((h2.below hW).below hb) hK2 (.inr rfl)).mono ?_
      rintro e w' ⟨k, rfl, hr, hb'⟩
      exact ⟨by rw [← hr.eq], hb'⟩
  · have hM : M = 9218868437227405312 := rfl
    unfold pf
    rw [if_pos (by omega), pat_max, pat_min]
    exact within_none s1 g1 A1 n1 c1 B1 m1 d1 x1 s2 g2 A2 n2 c2 B2 m2 d2 x2 o1 o2 W
theorem pcw_nothing (s1 : Int) (g1 : Bool) (A1 : Option Addr) (n1 c1 : Nat) (B1 : Option Addr) (m1 d1 : Nat) (x1 : Rat) (o1 : Bool) (s2 : Int) (g2 : Bool) (A2 : Option Addr) (n2 c2 : Nat) (B2 : Option Addr) (m2 d2 : Nat) (x2 : Rat) (o2 : Bool) (N1 N2 : Int) (w : World) : PcW w true s1 g1 A1 n1 c1 B1 m1 d1 N1 o1 s2 g2 A2 n2 c2 B2 m2 d2 N2 o2 (fun _ _ => ((M : Int), -(M : Int))) := by
  refine ⟨fun _ _ _ => Iv.none, fun W i j hW hij => ?_⟩
  rw [pat_max, pat_min]
  exact within_nothing i j N1 N2 s1 g1 A1 n1 c1 B1 m1 d1 x1 s2 g2 A2 n2 c2 B2 m2 d2 x2 o1 o2 W
/-- Of a closed piece. -/
theorem pf_closed {s1 : Int} {x1 : Rat} {s2 : Int} {x2 : Rat} (hs1 : s1 = 0 ∨ s1 = -1) (hs2 : s2 = 0 ∨ s2 = 1) (i j : Int) (h : -(M : Int) ≤ i ∧ i ≤ j ∧ j ≤ M ∧ i < M ∧ -(M : Int) < j) :
    pf s1 x1 (decide (s1 ≠ 0)) s2 x2 (decide (s2 ≠ 0)) i j = ct i j (dn s1 x1) (up s1 x1) (dn s2 x2) (up s2 x2) := by
  unfold pf
  rw [if_neg (by omega)]
  unfold wg ct
  rw [ec_lo_at (by omega) hs1, ec_hi_at (by omega) hs2]
  have e1 := ec_hi (i := i) (s := s2) (x := x2) (by omega) hs2
  have e2 := ec_lo (j := j) (s := s1) (x := x1) (by omega) hs1
  have e3 : ¬ (ec (es i) (ex i) s2 x2 = 0 ∧ decide (s2 ≠ 0) = true) := by
    rintro ⟨a, b⟩
    have b' := of_decide_eq_true b
    exact ec_hi_open (by omega) (by omega) a
  have e4 : ¬ (ec (es j) (ex j) s1 x1 = 0 ∧ decide (s1 ≠ 0) = true) := by
    rintro ⟨a, b⟩
    have b' := of_decide_eq_true b
    exact ec_lo_open (by omega) (by omega) a
  by_cases hc : dn s2 x2 < i ∨ j < up s1 x1
  · rw [if_pos hc, if_pos]
    rcases hc with h1 | h1
    · exact .inl (e1.2 h1)
    · exact .inr (.inr (.inl (e2.2 h1)))
  · rw [if_neg hc, if_neg]
    rintro (h1 | h1 | h1 | h1)
    · exact hc (.inl (e1.1 h1))
    · exact e3 h1
    · exact hc (.inr (e2.1 h1))
    · exact e4 h1

end Go.Proofs.YtmjkmoahkanblaaGreat

namespace Go.Proofs.YtmjkmoahkanblaaGreat
open Go.RowKit Ieee

theorem inf_word {x : Nat} (hx : x < 18446744073709551616) (h : rungOf x = M) : double.write (.infinity (sgn x)) = x := by
  show double.word (sgn x) double.infRung = x
  rw [infRung_eq]
  have h1 := Is.word (sgn x) (r := M) (Nat.le_refl _)
  have h2 := pat_cases (b := double.word (sgn x) M) (by have := h1.lt; omega)
  have h3 := pat_cases hx
  have h4 := h1.idx
  obtain ⟨b, hb⟩ : ∃ b, double.word (sgn x) M = b := ⟨_, rfl⟩
  rw [hb] at h2 h4 ⊢
  rw [M_val] at h h4
  rcases h3 with ⟨a, b1, c, d⟩ | ⟨a, b1, c, d⟩
  · rw [c] at h4
    simp only [Bool.false_eq_true, if_false] at h4
    omega
  · rw [c] at h4
    simp only [if_true] at h4
    omega
theorem inf_pat {x : Nat} (hx : x < 18446744073709551616) (h : rungOf x = M) : pat (idx x) = x := by
  have h3 := pat_cases hx
  rw [M_val] at *
  rcases h3 with ⟨a, b1, c, d⟩ | ⟨a, b1, c, d⟩
  · rw [pat_nn (by omega)]; omega
  · rw [pat_neg (by omega)]; omega
theorem add_inf_left {x y : Nat} (hx : x < 18446744073709551616) (h : rungOf x = M) (hy : rungOf y ≤ M) (hno : rungOf y = M → sgn x = sgn y) : double.add x y = some (pat (idx x)) := by
  rw [inf_pat hx h]
  unfold Format.add
  rw [read_inf h]
  by_cases h2 : rungOf y = M
  · rw [read_inf h2]
    simp only [Datum.sum]
    rw [if_pos (hno h2)]
    simp only [Option.map_some]
    rw [inf_word hx h]
  · obtain ⟨m, k, e, -, -⟩ := read_fin (show fin y from by unfold fin; omega)
    rw [e]
    simp only [Datum.sum, Option.map_some]
    rw [inf_word hx h]
theorem add_inf_right {x y : Nat} (hy : y < 18446744073709551616) (h : rungOf y = M) (hx : rungOf x < M) : double.add x y = some (pat (idx y)) := by
  rw [inf_pat hy h]
  unfold Format.add
  obtain ⟨m, k, e, -, -⟩ := read_fin (show fin x from hx)
  rw [read_inf h, e]
  simp only [Datum.sum, Option.map_some]
  rw [inf_word hy h]

/-- The sum in a direction, infinities too. -/
def ad (d i j : Int) : Int := if i = M ∨ i = -(M : Int) then i else if j = M ∨ j = -(M : Int) then j else rndI d (fl i + fl j)

theorem nud_sum {d : Int} (hd : d = -1 ∨ d = 1) {s e : Nat} {n : Int} {j k : Int} (hs : Fl s (R n)) (he : Fl e (n - R n)) (hn : val j + val k = n) : nud d (idx s) (idx e) = rndI d (fl j + fl k) := by
  rw [fl_add, hn]
  have h0 := idx_natAbs s
  have hf : rungOf s < M := hs.fin
  have e1 : idx e < 0 ↔ n < R n := by
    have h := @val_lt_iff (idx e) 0
    rw [val_zero, he.val] at h
    omega
  have e2 : 0 < idx e ↔ R n < n := by
    have h := @val_lt_iff 0 (idx e)
    rw [val_zero, he.val] at h
    omega
  rcases hd with rfl | rfl
  · rw [near_down hs.val (by omega) (by omega)]
    unfold nud
    by_cases h : n < R n
    · rw [if_pos h, if_pos ⟨rfl, e1.2 h⟩]
    · rw [if_neg h, if_neg (fun h' => h (e1.1 h'.2)), if_neg (by omega)]
  · rw [near_up hs.val (by omega) (by omega)]
    unfold nud
    by_cases h : R n < n
    · rw [if_pos h, if_neg (by omega), if_pos ⟨rfl, e2.2 h⟩]
    · rw [if_neg h, if_neg (by omega), if_neg (fun h' => h (e2.1 h'.2))]
/-- A float that is not great. -/
theorem not_great {x t T : Nat} (h : rungOf x ≤ (t + 1) * 2^52) (hT : T = 52 + t) : (val (idx x)).natAbs ≤ 2^T := by
  rw [val_natAbs, idx_natAbs]
  have h1 : mag (rungOf x) ≤ mag ((t + 1) * 2^52) := mag_le_iff.2 h
  rw [mag_two_pow, ← Nat.pow_add] at h1
  rw [hT]; exact h1
theorem Fl_self {x : Nat} (hx : x < 18446744073709551616) (h : rungOf x < M) : Fl x (val (idx x)) := ⟨hx, h, rfl⟩
theorem great_ord {r : Nat} (h : r ≤ M) : (r ≤ 8660422083433463808 ∧ (FloatKind.f64.format.order r 8660422083433463808 = some .lt ∨ FloatKind.f64.format.order r 8660422083433463808 = some .eq)) ∨ (8660422083433463808 < r ∧ FloatKind.f64.format.order r 8660422083433463808 = some .gt) := by
  have hM : M = 9218868437227405312 := rfl
  have g1 : rungOf 8660422083433463808 = 8660422083433463808 ∧ idx 8660422083433463808 = ((8660422083433463808 : Nat) : Int) := rung_idx (by decide)
  have r1 := rung_idx (b := r) (by omega)
  rcases Nat.lt_trichotomy r 8660422083433463808 with h1 | h1 | h1
  · exact .inl ⟨by omega, .inl (ord_lt (by omega) (by omega) (by omega))⟩
  · exact .inl ⟨by omega, .inr (ord_eq (by omega) (by omega) (by omega))⟩
  · exact .inr ⟨h1, ord_gt (by omega) (by omega) (by omega)⟩

end Go.Proofs.YtmjkmoahkanblaaGreat
