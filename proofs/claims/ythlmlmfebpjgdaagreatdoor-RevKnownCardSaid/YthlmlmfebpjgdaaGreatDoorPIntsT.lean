/-
Walks: package rel, Intersect.
Boxes of two floats; what a call leaves as it was but three blocks.
Walks: package rev, read.
Walks: package vergelaw10, in and out; package rev, mirror.
How two ratios compare: plain.
A ratio rounded down and up to an index: plain law.
-/
import Derived.Test.YthlmlmfebpjgdaaGreatDoorM02
import Derived.Test.YthlmlmfebpjgdaaGreatDoorPBothT
import Derived.Deep.DeepCutAuto
import Derived.Test.YthlmlmfebpjgdaaGreatDoorPGoA
import Derived.Test.YthlmlmfebpjgdaaGreatDoorM01
set_option linter.unusedSimpArgs false
set_option linter.unusedVariables false
set_option maxHeartbeats 12800000

namespace Go.Proofs.YthlmlmfebpjgdaaGreatDoor
open Go.RowKit
attribute [local go_sem] run_store_float run_eqf
theorem run_maxf {i j : Int} (h1 : -(M : Int) ≤ i ∧ i ≤ M) (h2 : -(M : Int) ≤ j ∧ j ≤ M) (W : World) (ts : Array TypeId) (t : TypeId) : (Builtin.max_ ts t #[.float .f64 (pat i), .float .f64 (pat j)]).run Tryz.prog W = .ok (.float .f64 (pat (max i j))) W := by
  have ho := order_pat h1.1 h1.2 h2.1 h2.2
  have e : (Builtin.max_ ts t #[.float .f64 (pat i), .float .f64 (pat j)]) = Builtin.max2 (.float .f64 (pat i)) (.float .f64 (pat j)) := by simp [Builtin.max_]
  rw [e]
  unfold Builtin.max2
  dsimp only
  rw [ho]
  rcases Int.lt_trichotomy i j with h | h | h
  · rw [show compare i j = .lt from Int.compare_eq_lt.2 h, show max i j = j from by omega]; rfl
  · subst h
    rw [show compare i i = .eq from Int.compare_eq_eq.2 rfl, show max i i = i from by omega]
    simp
  · rw [show compare i j = .gt from Int.compare_eq_gt.2 h, show max i j = i from by omega]; rfl
theorem run_minf {i j : Int} (h1 : -(M : Int) ≤ i ∧ i ≤ M) (h2 : -(M : Int) ≤ j ∧ j ≤ M) (W : World) (ts : Array TypeId) (t : TypeId) : (Builtin.min_ ts t #[.float .f64 (pat i), .float .f64 (pat j)]).run Tryz.prog W = .ok (.float .f64 (pat (min i j))) W := by
  have ho := order_pat h1.1 h1.2 h2.1 h2.2
  have e : (Builtin.min_ ts t #[.float .f64 (pat i), .float .f64 (pat j)]) = Builtin.min2 (.float .f64 (pat i)) (.float .f64 (pat j)) := by simp [Builtin.min_]
  rw [e]
  unfold Builtin.min2
  dsimp only
  rw [ho]
  rcases Int.lt_trichotomy i j with h | h | h
  · rw [show compare i j = .lt from Int.compare_eq_lt.2 h, show min i j = i from by omega]; rfl
  · subst h
    rw [show compare i i = .eq from Int.compare_eq_eq.2 rfl, show min i i = i from by omega]
    simp
  · rw [show compare i j = .gt from Int.compare_eq_gt.2 h, show min i j = j from by omega]; rfl
theorem em_idx {i j : Int} (h : Iv i j) : Em (decide (j < i)) (pat i) (pat j) := by
  have hM : M = 9218868437227405312 := rfl
  have o1 := order_pat h.lo.1 h.lo.2 (show -(M : Int) ≤ (M : Int) by omega) (Int.le_refl _)
  have o2 := order_pat h.hi.1 h.hi.2 (Int.le_refl _) (show -(M : Int) ≤ (M : Int) by omega)
  rw [pat_max] at o1
  rw [pat_min] at o2
  unfold Iv at h
  refine ⟨fun e => ?_, fun e => ?_⟩
  · have e := of_decide_eq_true e
    rw [o1, o2]
    exact ⟨by rw [show compare i (M : Int) = .eq from Int.compare_eq_eq.2 (by omega)], by rw [show compare j (-(M : Int)) = .eq from Int.compare_eq_eq.2 (by omega)]⟩
  · have e := of_decide_eq_false e
    rw [o1, show compare i (M : Int) = .lt from Int.compare_eq_lt.2 (by omega)]
def it (i j i' j' : Int) : Int × Int := if j < i ∨ j' < i' ∨ min j j' < max i i' then ((M : Int), -(M : Int)) else (max i i', min j j')
theorem it_iv {i j i' j' : Int} (h : Iv i j) (h' : Iv i' j') : Iv (it i j i' j').1 (it i j i' j').2 := by
  unfold it
  split
  · exact Iv.none
  · unfold Iv at *
    rw [M_val] at *
    dsimp only
    omega
theorem inter_idx (i j i' j' : Int) (w : World) (h : Iv i j) (h' : Iv i' j') :
    Calls Tryz.prog 62 #[.agg #[.float .f64 (pat i), .float .f64 (pat j)], .agg #[.float .f64 (pat i'), .float .f64 (pat j')]] w fun e w' => e = .returned (.agg #[.float .f64 (pat (it i j i' j').1), .float .f64 (pat (it i j i' j').2)]) ∧ Below w.heap.size w w' := by
  have HB := Lib.hid fun W => both_any (pat i) (pat j) (pat i') (pat j') _ _ W (fun W => readf_idx i j W h) (fun W => readf_idx i' j' W h') (em_idx h) (em_idx h')
  have HE := Lib.hid emptyf
  have hmx := fun W ts t => run_maxf h.lo h'.lo W ts t
  have hmn := fun W ts t => run_minf h.hi h'.hi W ts t
  have bz1 : -(M : Int) ≤ max i i' ∧ max i i' ≤ M := by have := h.lo; have := h'.lo; omega
  have bz2 : -(M : Int) ≤ min j j' ∧ min j j' ≤ M := by have := h.hi; have := h'.hi; omega
  have ho := order_pat bz1.1 bz1.2 bz2.1 bz2.2
  have hit : it i j i' j' = if j < i ∨ j' < i' ∨ min j j' < max i i' then ((M : Int), -(M : Int)) else (max i i', min j j') := rfl
  rw [hit]
  obtain ⟨a, ha⟩ : ∃ a, decide (j < i) = a := ⟨_, rfl⟩
  obtain ⟨b, hb⟩ : ∃ a, decide (j' < i') = a := ⟨_, rfl⟩
  obtain ⟨z1, hz1⟩ : ∃ z, max i i' = z := ⟨_, rfl⟩
  obtain ⟨z2, hz2⟩ : ∃ z, min j j' = z := ⟨_, rfl⟩
  rw [ha, hb] at HB
  rw [hz1] at hmx ho
  rw [hz2] at hmn ho
  rw [hz1, hz2]
  obtain ⟨kk, hkk⟩ : ∃ k : Int, (if a = true then (1 : Int) else 0) + (if b = true then 2 else 0) = k := ⟨_, rfl⟩
  rw [hkk] at HB
  obtain ⟨p1, e1⟩ : ∃ p, pat i = p := ⟨_, rfl⟩
  obtain ⟨p2, e2⟩ : ∃ p, pat j = p := ⟨_, rfl⟩
  obtain ⟨q1, e3⟩ : ∃ p, pat i' = p := ⟨_, rfl⟩
  obtain ⟨q2, e4⟩ : ∃ p, pat j' = p := ⟨_, rfl⟩
  obtain ⟨m1, e5⟩ : ∃ p, pat z1 = p := ⟨_, rfl⟩
  obtain ⟨m2, e6⟩ : ∃ p, pat z2 = p := ⟨_, rfl⟩
  rw [e1, e2, e3, e4] at HB
  rw [e1, e3, e5] at hmx
  rw [e2, e4, e6] at hmn
  rw [e5, e6] at ho
  rw [e1, e2, e3, e4]
  have E5 := Lib.hid e5
  have E6 := Lib.hid e6
  have hcase : (kk = 0 ∧ ¬ (z2 < z1) ∧ ¬ (j < i ∨ j' < i' ∨ z2 < z1)) ∨ (kk = 0 ∧ z2 < z1 ∧ (j < i ∨ j' < i' ∨ z2 < z1)) ∨ (kk ≠ 0 ∧ (j < i ∨ j' < i' ∨ z2 < z1)) := by
    rw [← hkk]
    rw [← ha, ← hb]
    by_cases c1 : j < i <;> by_cases c2 : j' < i' <;> by_cases c3 : z2 < z1 <;> simp [c1, c2, c3]
  clear ha hb hkk hz1 hz2 e1 e2 e3 e4 e5 e6 h h' bz1 bz2 hit
  rcases hcase with ⟨rfl, hc, hcc⟩ | ⟨rfl, hc, hcc⟩ | ⟨hk, hcc⟩
  · rw [if_neg hcc]
    dsimp only
    rw [E5.out, E6.out]
    have hord : ∃ o, FloatKind.f64.format.order m1 m2 = some o ∧ o ≠ .gt := ⟨_, ho, fun e => hc (Int.compare_eq_gt.1 e)⟩
    obtain ⟨o, ho2, hne⟩ := hord
    clear ho hc hcc
    have hgt : (some o == some Ordering.gt) = false := by cases o <;> simp at hne ⊢
    obtain ⟨LB0, LG0_0, LG1_0, LR⟩ := bx3 w #[.float .f64 p1, .float .f64 p2] 28 #[.float .f64 q1, .float .f64 q2] 28 #[.float .f64 0, .float .f64 0] 28
    have LR0 := Lib.hid (HasBlk.of (n := 2) LR.out rfl rfl)
    clear LR
    go_enter Tryz.func62, Tryz.ntmps62
    go_wp2_with fail
    refine (HB.out _).mono ?_
    rintro e w1 ⟨rfl, hb1⟩
    have LB1 := stB LB0 hb1 LB0.out.size
    have LR1 := stR LR0 hb1
    have LG0_1 := stG LG0_0 hb1
    have LG1_1 := stG LG1_0 hb1
    clear LB0 LR0 LG0_0 LG1_0
    clear hb1
    obtain ⟨q0_0, q0_1⟩ := LG0_1.out.c2
    obtain ⟨q1_0, q1_1⟩ := LG1_1.out.c2
    have hf00 := LG0_1.out.frozen 0
    have hf01 := LG0_1.out.frozen 1
    have hf10 := LG1_1.out.frozen 0
    have hf11 := LG1_1.out.frozen 1
    go_upto_region 2 with fail
    clear q0_0 q0_1 q1_0 q1_1 hf00 hf01 hf10 hf11
    have LB2 := Lib.hid (below_sets (w0 := w) (show w.heap.size ≤ w.heap.size by omega) [.float .f64 p1, .float .f64 p2] 0 w1 LB1.out)
    have LR2 := Lib.hid (LR1.out.other (r := w.heap.size) (by omega) 0 [.float .f64 p1, .float .f64 p2])
    have LG0_2 := Lib.hid (show Blk (sets w1 w.heap.size 0 [.float .f64 p1, .float .f64 p2]) w.heap.size 28 #[.float .f64 p1, .float .f64 p2] from by have hbs := Blk.sets [.float .f64 p1, .float .f64 p2] 0 w1 _ LG0_1.out; simpa [laid] using hbs)
    have LG1_2 := Lib.hid (LG1_1.out.other (r := w.heap.size) (by omega) 0 [.float .f64 p1, .float .f64 p2])
    clear LB1 LR1 LG0_1 LG1_1
    obtain ⟨V1, hV1⟩ : ∃ X, (sets w1 w.heap.size 0 [.float .f64 p1, .float .f64 p2]) = X := ⟨_, rfl⟩
    rw [hV1] at LB2 LR2 LG0_2 LG1_2
    rw [show ((w1.setCell ⟨w.heap.size, 0, none⟩ (.float .f64 p1)).setCell ⟨w.heap.size, 1, none⟩ (.float .f64 p2)) = V1 from hV1]
    clear hV1
    have LB3 := Lib.hid (below_sets (w0 := w) (show w.heap.size ≤ (w.heap.size + 1) by omega) [.float .f64 q1, .float .f64 q2] 0 V1 LB2.out)
    have LR3 := Lib.hid (LR2.out.other (r := (w.heap.size + 1)) (by omega) 0 [.float .f64 q1, .float .f64 q2])
    have LG0_3 := Lib.hid (LG0_2.out.other (r := (w.heap.size + 1)) (by omega) 0 [.float .f64 q1, .float .f64 q2])
    have LG1_3 := Lib.hid (show Blk (sets V1 (w.heap.size + 1) 0 [.float .f64 q1, .float .f64 q2]) (w.heap.size + 1) 28 #[.float .f64 q1, .float .f64 q2] from by have hbs := Blk.sets [.float .f64 q1, .float .f64 q2] 0 V1 _ LG1_2.out; simpa [laid] using hbs)
    clear LB2 LR2 LG0_2 LG1_2
    obtain ⟨V2, hV2⟩ : ∃ X, (sets V1 (w.heap.size + 1) 0 [.float .f64 q1, .float .f64 q2]) = X := ⟨_, rfl⟩
    rw [hV2] at LB3 LR3 LG0_3 LG1_3
    rw [show ((V1.setCell ⟨(w.heap.size + 1), 0, none⟩ (.float .f64 q1)).setCell ⟨(w.heap.size + 1), 1, none⟩ (.float .f64 q2)) = V2 from hV2]
    clear hV2
    obtain ⟨q0_0, q0_1⟩ := LG0_3.out.c2
    obtain ⟨q1_0, q1_1⟩ := LG1_3.out.c2
    go_upto_region 3 with fail
    clear q0_0 q0_1 q1_0 q1_1
    have hlt4 := LR3.out.lt
    have LB4 := Lib.hid (LB3.out.alloc LB3.out.size (.cells #[.float .f64 m1, .float .f64 m2] 28))
    have LR4 := Lib.hid (LR3.out.alloc (.cells #[.float .f64 m1, .float .f64 m2] 28))
    have LG0_4 := Lib.hid (LG0_3.out.alloc (.cells #[.float .f64 m1, .float .f64 m2] 28))
    have LG1_4 := Lib.hid (LG1_3.out.alloc (.cells #[.float .f64 m1, .float .f64 m2] 28))
    have LG2_4 := Lib.hid (Blk.new V2 28 #[.float .f64 m1, .float .f64 m2])
    clear LB3 LR3 LG0_3 LG1_3
    obtain ⟨V3, hV3⟩ : ∃ X, (V2.alloc (.cells #[.float .f64 m1, .float .f64 m2] 28)) = X := ⟨_, rfl⟩
    rw [hV3] at LB4 LR4 LG0_4 LG1_4 LG2_4 ⊢
    clear hV3
    obtain ⟨q2_0, q2_1⟩ := LG2_4.out.c2
    clear hmx hmn
    obtain ⟨ha0, hf0, ha1, hf1⟩ := LR4.out.sf2
    obtain ⟨hk0, hk1⟩ := LR4.out.sc2 (.float .f64 m1) (.float .f64 m2)
    have F := Lib.hid (below_sets (w0 := w) (r := (w.heap.size + 2)) (by omega) [.float .f64 m1, .float .f64 m2] 0 _ LB4.out)
    simp [sets] at hk0 hk1
    go_wp2
    refine bodyPost_ret (v := .agg #[.float .f64 m1, .float .f64 m2]) (by simp [results, Tryz.results62, go_sem, hk0, hk1]) rfl ?_
    exact ⟨rfl, F.out⟩
  · rw [if_pos hcc]
    dsimp only
    rw [pat_max, pat_min]
    rw [show compare z1 z2 = .gt from Int.compare_eq_gt.2 hc] at ho
    clear hc hcc
    obtain ⟨LB0, LG0_0, LG1_0, LR⟩ := bx3 w #[.float .f64 p1, .float .f64 p2] 28 #[.float .f64 q1, .float .f64 q2] 28 #[.float .f64 0, .float .f64 0] 28
    have LR0 := Lib.hid (HasBlk.of (n := 2) LR.out rfl rfl)
    clear LR
    go_enter Tryz.func62, Tryz.ntmps62
    go_wp2_with fail
    refine (HB.out _).mono ?_
    rintro e w1 ⟨rfl, hb1⟩
    have LB1 := stB LB0 hb1 LB0.out.size
    have LR1 := stR LR0 hb1
    have LG0_1 := stG LG0_0 hb1
    have LG1_1 := stG LG1_0 hb1
    clear LB0 LR0 LG0_0 LG1_0
    clear hb1
    obtain ⟨q0_0, q0_1⟩ := LG0_1.out.c2
    obtain ⟨q1_0, q1_1⟩ := LG1_1.out.c2
    have hf00 := LG0_1.out.frozen 0
    have hf01 := LG0_1.out.frozen 1
    have hf10 := LG1_1.out.frozen 0
    have hf11 := LG1_1.out.frozen 1
    go_upto_region 2 with fail
    clear q0_0 q0_1 q1_0 q1_1 hf00 hf01 hf10 hf11
    have LB2 := Lib.hid (below_sets (w0 := w) (show w.heap.size ≤ w.heap.size by omega) [.float .f64 p1, .float .f64 p2] 0 w1 LB1.out)
    have LR2 := Lib.hid (LR1.out.other (r := w.heap.size) (by omega) 0 [.float .f64 p1, .float .f64 p2])
    have LG0_2 := Lib.hid (show Blk (sets w1 w.heap.size 0 [.float .f64 p1, .float .f64 p2]) w.heap.size 28 #[.float .f64 p1, .float .f64 p2] from by have hbs := Blk.sets [.float .f64 p1, .float .f64 p2] 0 w1 _ LG0_1.out; simpa [laid] using hbs)
    have LG1_2 := Lib.hid (LG1_1.out.other (r := w.heap.size) (by omega) 0 [.float .f64 p1, .float .f64 p2])
    clear LB1 LR1 LG0_1 LG1_1
    obtain ⟨V1, hV1⟩ : ∃ X, (sets w1 w.heap.size 0 [.float .f64 p1, .float .f64 p2]) = X := ⟨_, rfl⟩
    rw [hV1] at LB2 LR2 LG0_2 LG1_2
    rw [show ((w1.setCell ⟨w.heap.size, 0, none⟩ (.float .f64 p1)).setCell ⟨w.heap.size, 1, none⟩ (.float .f64 p2)) = V1 from hV1]
    clear hV1
    have LB3 := Lib.hid (below_sets (w0 := w) (show w.heap.size ≤ (w.heap.size + 1) by omega) [.float .f64 q1, .float .f64 q2] 0 V1 LB2.out)
    have LR3 := Lib.hid (LR2.out.other (r := (w.heap.size + 1)) (by omega) 0 [.float .f64 q1, .float .f64 q2])
    have LG0_3 := Lib.hid (LG0_2.out.other (r := (w.heap.size + 1)) (by omega) 0 [.float .f64 q1, .float .f64 q2])
    have LG1_3 := Lib.hid (show Blk (sets V1 (w.heap.size + 1) 0 [.float .f64 q1, .float .f64 q2]) (w.heap.size + 1) 28 #[.float .f64 q1, .float .f64 q2] from by have hbs := Blk.sets [.float .f64 q1, .float .f64 q2] 0 V1 _ LG1_2.out; simpa [laid] using hbs)
    clear LB2 LR2 LG0_2 LG1_2
    obtain ⟨V2, hV2⟩ : ∃ X, (sets V1 (w.heap.size + 1) 0 [.float .f64 q1, .float .f64 q2]) = X := ⟨_, rfl⟩
    rw [hV2] at LB3 LR3 LG0_3 LG1_3
    rw [show ((V1.setCell ⟨(w.heap.size + 1), 0, none⟩ (.float .f64 q1)).setCell ⟨(w.heap.size + 1), 1, none⟩ (.float .f64 q2)) = V2 from hV2]
    clear hV2
    obtain ⟨q0_0, q0_1⟩ := LG0_3.out.c2
    obtain ⟨q1_0, q1_1⟩ := LG1_3.out.c2
    go_upto_region 3 with fail
    clear q0_0 q0_1 q1_0 q1_1
    have hlt4 := LR3.out.lt
    have LB4 := Lib.hid (LB3.out.alloc LB3.out.size (.cells #[.float .f64 m1, .float .f64 m2] 28))
    have LR4 := Lib.hid (LR3.out.alloc (.cells #[.float .f64 m1, .float .f64 m2] 28))
    have LG0_4 := Lib.hid (LG0_3.out.alloc (.cells #[.float .f64 m1, .float .f64 m2] 28))
    have LG1_4 := Lib.hid (LG1_3.out.alloc (.cells #[.float .f64 m1, .float .f64 m2] 28))
    have LG2_4 := Lib.hid (Blk.new V2 28 #[.float .f64 m1, .float .f64 m2])
    clear LB3 LR3 LG0_3 LG1_3
    obtain ⟨V3, hV3⟩ : ∃ X, (V2.alloc (.cells #[.float .f64 m1, .float .f64 m2] 28)) = X := ⟨_, rfl⟩
    rw [hV3] at LB4 LR4 LG0_4 LG1_4 LG2_4 ⊢
    clear hV3
    obtain ⟨q2_0, q2_1⟩ := LG2_4.out.c2
    go_wp2_with fail
    refine (HE.out _).mono ?_
    rintro e w4 ⟨rfl, hb4⟩
    have LB5 := stB LB4 hb4 LB4.out.size
    have LR5 := stR LR4 hb4
    have LG0_5 := stG LG0_4 hb4
    have LG1_5 := stG LG1_4 hb4
    have LG2_5 := stG LG2_4 hb4
    clear LB4 LR4 LG0_4 LG1_4 LG2_4
    clear hmx hmn hb4 q2_0 q2_1
    obtain ⟨ha0, hf0, ha1, hf1⟩ := LR5.out.sf2
    obtain ⟨hk0, hk1⟩ := LR5.out.sc2 (.float .f64 9218868437227405312) (.float .f64 18442240474082181120)
    have F := Lib.hid (below_sets (w0 := w) (r := (w.heap.size + 2)) (by omega) [.float .f64 9218868437227405312, .float .f64 18442240474082181120] 0 _ LB5.out)
    simp [sets] at hk0 hk1
    go_wp2
    refine bodyPost_ret (v := .agg #[.float .f64 9218868437227405312, .float .f64 18442240474082181120]) (by simp [results, Tryz.results62, go_sem, hk0, hk1]) rfl ?_
    exact ⟨rfl, F.out⟩
  · rw [if_pos hcc]
    dsimp only
    rw [pat_max, pat_min]
    have hkq : (kk == 0) = false := by simp; exact hk
    clear hcc
    obtain ⟨LB0, LG0_0, LG1_0, LR⟩ := bx3 w #[.float .f64 p1, .float .f64 p2] 28 #[.float .f64 q1, .float .f64 q2] 28 #[.float .f64 0, .float .f64 0] 28
    have LR0 := Lib.hid (HasBlk.of (n := 2) LR.out rfl rfl)
    clear LR
    go_enter Tryz.func62, Tryz.ntmps62
    go_wp2_with fail
    refine (HB.out _).mono ?_
    rintro e w1 ⟨rfl, hb1⟩
    have LB1 := stB LB0 hb1 LB0.out.size
    have LR1 := stR LR0 hb1
    have LG0_1 := stG LG0_0 hb1
    have LG1_1 := stG LG1_0 hb1
    clear LB0 LR0 LG0_0 LG1_0
    clear hb1
    obtain ⟨q0_0, q0_1⟩ := LG0_1.out.c2
    obtain ⟨q1_0, q1_1⟩ := LG1_1.out.c2
    have hf00 := LG0_1.out.frozen 0
    have hf01 := LG0_1.out.frozen 1
    have hf10 := LG1_1.out.frozen 0
    have hf11 := LG1_1.out.frozen 1
    go_upto_region 2 with fail
    clear q0_0 q0_1 q1_0 q1_1 hf00 hf01 hf10 hf11
    have LB2 := Lib.hid (below_sets (w0 := w) (show w.heap.size ≤ w.heap.size by omega) [.float .f64 p1, .float .f64 p2] 0 w1 LB1.out)
    have LR2 := Lib.hid (LR1.out.other (r := w.heap.size) (by omega) 0 [.float .f64 p1, .float .f64 p2])
    have LG0_2 := Lib.hid (show Blk (sets w1 w.heap.size 0 [.float .f64 p1, .float .f64 p2]) w.heap.size 28 #[.float .f64 p1, .float .f64 p2] from by have hbs := Blk.sets [.float .f64 p1, .float .f64 p2] 0 w1 _ LG0_1.out; simpa [laid] using hbs)
    have LG1_2 := Lib.hid (LG1_1.out.other (r := w.heap.size) (by omega) 0 [.float .f64 p1, .float .f64 p2])
    clear LB1 LR1 LG0_1 LG1_1
    obtain ⟨V1, hV1⟩ : ∃ X, (sets w1 w.heap.size 0 [.float .f64 p1, .float .f64 p2]) = X := ⟨_, rfl⟩
    rw [hV1] at LB2 LR2 LG0_2 LG1_2
    rw [show ((w1.setCell ⟨w.heap.size, 0, none⟩ (.float .f64 p1)).setCell ⟨w.heap.size, 1, none⟩ (.float .f64 p2)) = V1 from hV1]
    clear hV1
    have LB3 := Lib.hid (below_sets (w0 := w) (show w.heap.size ≤ (w.heap.size + 1) by omega) [.float .f64 q1, .float .f64 q2] 0 V1 LB2.out)
    have LR3 := Lib.hid (LR2.out.other (r := (w.heap.size + 1)) (by omega) 0 [.float .f64 q1, .float .f64 q2])
    have LG0_3 := Lib.hid (LG0_2.out.other (r := (w.heap.size + 1)) (by omega) 0 [.float .f64 q1, .float .f64 q2])
    have LG1_3 := Lib.hid (show Blk (sets V1 (w.heap.size + 1) 0 [.float .f64 q1, .float .f64 q2]) (w.heap.size + 1) 28 #[.float .f64 q1, .float .f64 q2] from by have hbs := Blk.sets [.float .f64 q1, .float .f64 q2] 0 V1 _ LG1_2.out; simpa [laid] using hbs)
    clear LB2 LR2 LG0_2 LG1_2
    obtain ⟨V2, hV2⟩ : ∃ X, (sets V1 (w.heap.size + 1) 0 [.float .f64 q1, .float .f64 q2]) = X := ⟨_, rfl⟩
    rw [hV2] at LB3 LR3 LG0_3 LG1_3
    rw [show ((V1.setCell ⟨(w.heap.size + 1), 0, none⟩ (.float .f64 q1)).setCell ⟨(w.heap.size + 1), 1, none⟩ (.float .f64 q2)) = V2 from hV2]
    clear hV2
    obtain ⟨q0_0, q0_1⟩ := LG0_3.out.c2
    obtain ⟨q1_0, q1_1⟩ := LG1_3.out.c2
    go_upto_region 3 with fail
    clear q0_0 q0_1 q1_0 q1_1
    have hlt4 := LR3.out.lt
    have LB4 := Lib.hid (LB3.out.alloc LB3.out.size (.cells #[.float .f64 m1, .float .f64 m2] 28))
    have LR4 := Lib.hid (LR3.out.alloc (.cells #[.float .f64 m1, .float .f64 m2] 28))
    have LG0_4 := Lib.hid (LG0_3.out.alloc (.cells #[.float .f64 m1, .float .f64 m2] 28))
    have LG1_4 := Lib.hid (LG1_3.out.alloc (.cells #[.float .f64 m1, .float .f64 m2] 28))
    have LG2_4 := Lib.hid (Blk.new V2 28 #[.float .f64 m1, .float .f64 m2])
    clear LB3 LR3 LG0_3 LG1_3
    obtain ⟨V3, hV3⟩ : ∃ X, (V2.alloc (.cells #[.float .f64 m1, .float .f64 m2] 28)) = X := ⟨_, rfl⟩
    rw [hV3] at LB4 LR4 LG0_4 LG1_4 LG2_4 ⊢
    clear hV3
    obtain ⟨q2_0, q2_1⟩ := LG2_4.out.c2
    go_wp2_with fail
    refine (HE.out _).mono ?_
    rintro e w4 ⟨rfl, hb4⟩
    have LB5 := stB LB4 hb4 LB4.out.size
    have LR5 := stR LR4 hb4
    have LG0_5 := stG LG0_4 hb4
    have LG1_5 := stG LG1_4 hb4
    have LG2_5 := stG LG2_4 hb4
    clear LB4 LR4 LG0_4 LG1_4 LG2_4
    clear hmx hmn hb4 q2_0 q2_1
    obtain ⟨ha0, hf0, ha1, hf1⟩ := LR5.out.sf2
    obtain ⟨hk0, hk1⟩ := LR5.out.sc2 (.float .f64 9218868437227405312) (.float .f64 18442240474082181120)
    have F := Lib.hid (below_sets (w0 := w) (r := (w.heap.size + 2)) (by omega) [.float .f64 9218868437227405312, .float .f64 18442240474082181120] 0 _ LB5.out)
    simp [sets] at hk0 hk1
    go_wp2
    refine bodyPost_ret (v := .agg #[.float .f64 9218868437227405312, .float .f64 18442240474082181120]) (by simp [results, Tryz.results62, go_sem, hk0, hk1]) rfl ?_
    exact ⟨rfl, F.out⟩
end Go.Proofs.YthlmlmfebpjgdaaGreatDoor

namespace Go.Proofs.YthlmlmfebpjgdaaGreatDoor
open Go.RowKit
def Bx (w : World) (g p q : Nat) : Prop := Blk w g 28 #[.float .f64 p, .float .f64 q]
theorem Bx.keep {w w' : World} {g p q : Nat} (h : Bx w g p q) (hb : Below w.heap.size w w') : Bx w' g p q := Blk.keep h hb
theorem Bx.set {w : World} {g p q : Nat} (h : Bx w g p q) (a b : Nat) : Bx ((w.setCell ⟨g, 0, none⟩ (.float .f64 a)).setCell ⟨g, 1, none⟩ (.float .f64 b)) g a b := by
  have h1 := Blk.sets [.float .f64 a, .float .f64 b] 0 _ _ h
  unfold Bx
  simpa [laid, sets] using h1
theorem Bx.far {w : World} {g p q r : Nat} (h : Bx w g p q) (hr : g ≠ r) (a b : Value) : Bx ((w.setCell ⟨r, 0, none⟩ a).setCell ⟨r, 1, none⟩ b) g p q := Blk.other h hr 0 [a, b]
structure Kp (g0 g1 g2 : Nat) (w w' : World) : Prop where
  os : w'.os = w.os
  tape : w'.tape = w.tape
  output : w'.output = w.output
  size : w.heap.size ≤ w'.heap.size
  block : ∀ k, k < w.heap.size → k ≠ g0 → k ≠ g1 → k ≠ g2 → w'.heap[k]? = w.heap[k]?
theorem Kp.refl (g0 g1 g2 : Nat) (w : World) : Kp g0 g1 g2 w w := ⟨rfl, rfl, rfl, Nat.le_refl _, fun _ _ _ _ _ => rfl⟩
theorem Kp.below {g0 g1 g2 : Nat} {w w1 w2 : World} (h : Kp g0 g1 g2 w w1) (hb : Below w1.heap.size w1 w2) : Kp g0 g1 g2 w w2 :=
  ⟨hb.os.trans h.os, hb.tape.trans h.tape, hb.output.trans h.output, Nat.le_trans h.size hb.size, fun k hk a b c => (hb.block k (Nat.lt_of_lt_of_le hk h.size)).trans (h.block k hk a b c)⟩
theorem Kp.set {g0 g1 g2 r : Nat} {w w1 : World} (h : Kp g0 g1 g2 w w1) (hr : r = g0 ∨ r = g1 ∨ r = g2) (a b : Value) : Kp g0 g1 g2 w ((w1.setCell ⟨r, 0, none⟩ a).setCell ⟨r, 1, none⟩ b) :=
  ⟨h.os, h.tape, h.output, by have := size_sets (r := r) [a, b] 0 w1; have := h.size; show w.heap.size ≤ (sets w1 r 0 [a, b]).heap.size; omega,
   fun k hk x y z => (heap_sets (r := r) (k := k) (by rintro rfl; rcases hr with e | e | e <;> contradiction) [a, b] 0 w1).trans (h.block k hk x y z)⟩
theorem Kp.cell {g0 g1 g2 : Nat} {w w1 : World} (h : Kp g0 g1 g2 w w1) {ad : Addr} {v : Value} (hc : w.cell? ad = some v) (h0 : ad.block ≠ g0) (h1 : ad.block ≠ g1) (h2 : ad.block ≠ g2) : w1.cell? ad = some v := by
  have hlt : ad.block < w.heap.size := by
    unfold World.cell? at hc
    split at hc
    · rename_i e
      exact (Array.getElem?_eq_some_iff.1 e).1
    · cases hc
  rw [World.cell?_of_block (w := w)]
  · exact hc
  · exact h.block _ hlt h0 h1 h2
theorem Kp.toBl {g0 g1 g2 B : Nat} {w0 w w' : World} (h : Kp g0 g1 g2 w w') (hb : Below B w0 w) (hB : B ≤ w.heap.size) (h0 : B ≤ g0) (h1 : B ≤ g1) (h2 : B ≤ g2) : Below B w0 w' :=
  ⟨h.os.trans hb.os, h.tape.trans hb.tape, h.output.trans hb.output, Nat.le_trans hb.size h.size, fun k hk => (h.block k (by omega) (by omega) (by omega) (by omega)).trans (hb.block k hk)⟩
theorem Kp.hasBk {g0 g1 g2 r n : Nat} {t : TypeId} {w w' : World} (h : Kp g0 g1 g2 w w') (hr : HasBlk w r t n) (h0 : r ≠ g0) (h1 : r ≠ g1) (h2 : r ≠ g2) : HasBlk w' r t n := by
  obtain ⟨cs, a, b⟩ := hr
  exact ⟨cs, (h.block r a.lt h0 h1 h2).trans a, b⟩
theorem Iv.negg {i j : Int} (h : Iv i j) : Iv (-j) (-i) := by
  unfold Iv at *
  rw [M_val] at *
  omega
end Go.Proofs.YthlmlmfebpjgdaaGreatDoor

namespace Go.Proofs.YthlmlmfebpjgdaaGreatDoor
open Go.RowKit
attribute [local go_sem] run_store_float run_eqf
theorem read_three (x0 y0 x1 y1 x2 y2 p0 q0 p1 q1 p2 q2 g0 g1 g2 gl cap : Nat) (a0 a1 a2 : Bool) (w : World) (n01 : g0 ≠ g1) (n02 : g0 ≠ g2) (n12 : g1 ≠ g2) (l0 : gl ≠ g0) (l1 : gl ≠ g1) (l2 : gl ≠ g2)
    (hc0 : w.cell? ⟨gl, 0, none⟩ = some (.pointer (some ⟨g0, 0, none⟩))) (hc1 : w.cell? ⟨gl, 1, none⟩ = some (.pointer (some ⟨g1, 0, none⟩))) (hc2 : w.cell? ⟨gl, 2, none⟩ = some (.pointer (some ⟨g2, 0, none⟩)))
    (b0 : Bx w g0 x0 y0) (b1 : Bx w g1 x1 y1) (b2 : Bx w g2 x2 y2)
    (h0 : ∀ W, Calls Tryz.prog 102 #[.agg #[.float .f64 x0, .float .f64 y0]] W fun e w' => e = .returned (.agg #[.float .f64 p0, .float .f64 q0]) ∧ Below W.heap.size W w')
    (h1 : ∀ W, Calls Tryz.prog 102 #[.agg #[.float .f64 x1, .float .f64 y1]] W fun e w' => e = .returned (.agg #[.float .f64 p1, .float .f64 q1]) ∧ Below W.heap.size W w')
    (h2 : ∀ W, Calls Tryz.prog 102 #[.agg #[.float .f64 x2, .float .f64 y2]] W fun e w' => e = .returned (.agg #[.float .f64 p2, .float .f64 q2]) ∧ Below W.heap.size W w')
    (e0 : Em a0 p0 q0) (e1 : Em a1 p1 q1) (e2 : Em a2 p2 q2) :
    Calls Tryz.prog 75 #[.slice (some ⟨gl, 0, none⟩) 3 cap] w fun e w' => e = .returned (.bool (a0 || a1 || a2)) ∧ Bx w' g0 p0 q0 ∧ Bx w' g1 p1 q1 ∧ Bx w' g2 p2 q2 ∧ Kp g0 g1 g2 w w' := by
  have H0 := Lib.hid h0
  have H1 := Lib.hid h1
  have H2 := Lib.hid h2
  have E0 := Lib.hid e0
  have E1 := Lib.hid e1
  have E2 := Lib.hid e2
  have HE := Lib.hid emptyf
  have C0 := Lib.hid hc0
  have C1 := Lib.hid hc1
  have C2 := Lib.hid hc2
  have B0 := Lib.hid b0
  have B1 := Lib.hid b1
  have B2 := Lib.hid b2
  obtain ⟨nf, hnf⟩ : ∃ f : Nat → Bool, f = fun k => (decide (0 < k) && a0) || (decide (1 < k) && a1) || (decide (2 < k) && a2) := ⟨_, rfl⟩
  have N0 : nf 0 = false := by rw [hnf]; rfl
  have N1 : nf 1 = a0 := by rw [hnf]; cases a0 <;> cases a1 <;> cases a2 <;> rfl
  have N2 : nf 2 = (a0 || a1) := by rw [hnf]; cases a0 <;> cases a1 <;> cases a2 <;> rfl
  have N3 : nf 3 = (a0 || a1 || a2) := by rw [hnf]; cases a0 <;> cases a1 <;> cases a2 <;> rfl
  have X0 : nf 1 = (nf 0 || a0) := by rw [N0, N1]; rfl
  have X1 : nf 2 = (nf 1 || a1) := by rw [N1, N2]
  have X2 : nf 3 = (nf 2 || a2) := by rw [N2, N3]
  have HX0 := Lib.hid X0
  have HX1 := Lib.hid X1
  have HX2 := Lib.hid X2
  rw [← N3]
  have NN0 := Lib.hid N0
  have NN1 := Lib.hid N1
  have NN2 := Lib.hid N2
  have NN3 := Lib.hid N3
  clear h0 h1 h2 e0 e1 e2 hc0 hc1 hc2 b0 b1 b2 hnf N0 N1 N2 N3 X0 X1 X2
  go_enter Tryz.func75, Tryz.ntmps75
  go_wp2_with fail
  go_loopw [3, 5, 8] (fun nv _ iv wr => ∃ k : Nat, iv = .int .i64 (k : Int) ∧ nv = .bool (nf k) ∧ Kp g0 g1 g2 w wr ∧
    ((k = 0 ∧ Bx wr g0 x0 y0 ∧ Bx wr g1 x1 y1 ∧ Bx wr g2 x2 y2) ∨ (k = 1 ∧ Bx wr g0 p0 q0 ∧ Bx wr g1 x1 y1 ∧ Bx wr g2 x2 y2) ∨ (k = 2 ∧ Bx wr g0 p0 q0 ∧ Bx wr g1 p1 q1 ∧ Bx wr g2 x2 y2) ∨ (k = 3 ∧ Bx wr g0 p0 q0 ∧ Bx wr g1 p1 q1 ∧ Bx wr g2 p2 q2))) (fun _ _ iv _ => 3 - (intOf iv).toNat)
  case atStart => exact ⟨0, rfl, by rw [NN0.out], Kp.refl _ _ _ _, .inl ⟨rfl, B0.out, B1.out, B2.out⟩⟩
  case round =>
    obtain ⟨k, rfl, rfl, hkp, ⟨rfl, c0, c1, c2⟩ | ⟨rfl, c0, c1, c2⟩ | ⟨rfl, c0, c1, c2⟩ | ⟨rfl, c0, c1, c2⟩⟩ := hrel
    · have KP := Lib.hid hkp
      have D0 := Lib.hid c0
      have D1 := Lib.hid c1
      have D2 := Lib.hid c2
      have r0 := hkp.cell C0.out l0 l1 l2
      have s0 : _ = some (.float .f64 x0 : Value) := Blk.cell c0 0
      have s1 : _ = some (.float .f64 y0 : Value) := Blk.cell c0 1
      clear hkp c0 c1 c2
      obtain ⟨nn, hnn⟩ : ∃ b, nf 0 = b := ⟨_, rfl⟩
      have hx := HX0.out
      rw [hnn] at hx ⊢
      have HXX := Lib.hid hx
      clear hnn hx
      go_wp2_with fail
      refine (H0.out _).mono ?_
      rintro e w2 ⟨rfl, hb⟩
      have KP2 := KP.out.below hb
      have d0 := D0.out.keep hb
      have d1 := D1.out.keep hb
      have d2 := D2.out.keep hb
      have s0 : _ = some (.float .f64 x0 : Value) := Blk.cell d0 0
      have s1 : _ = some (.float .f64 y0 : Value) := Blk.cell d0 1
      have f0 := Blk.frozen d0 0
      have f1 := Blk.frozen d0 1
      have DD0 := Lib.hid d0
      have DD1 := Lib.hid d1
      have DD2 := Lib.hid d2
      have KP3 := Lib.hid KP2
      clear r0 hb d0 d1 d2 KP2 D0 D1 D2 KP
      go_upto_region 6 with fail
      have d0 := DD0.out.set p0 q0
      have d1 := DD1.out.far (r := g0) (by first | exact n01 | exact n02 | exact n12 | exact n01.symm | exact n02.symm | exact n12.symm) (.float .f64 p0) (.float .f64 q0)
      have d2 := DD2.out.far (r := g0) (by first | exact n01 | exact n02 | exact n12 | exact n01.symm | exact n02.symm | exact n12.symm) (.float .f64 p0) (.float .f64 q0)
      have d3 := KP3.out.set (r := g0) (by simp) (.float .f64 p0) (.float .f64 q0)
      clear s0 s1 f0 f1 DD0 DD1 DD2 KP3
      obtain ⟨V, hV⟩ : ∃ X, ((w2.setCell ⟨g0, 0, none⟩ (.float .f64 p0)).setCell ⟨g0, 1, none⟩ (.float .f64 q0)) = X := ⟨_, rfl⟩
      rw [hV] at d0 d1 d2 d3 ⊢
      clear hV
      cases nn
      · cases a0
        · skip
          have o1 := E0.out.2 rfl
          refine wp_region_held_drew (S := fun W' => Bx W' g0 p0 q0 ∧ Bx W' g1 x1 y1 ∧ Bx W' g2 x2 y2 ∧ Kp g0 g1 g2 w W') (by kernel_rfl) (by exact ⟨d0, d1, d2, d3.below (Below.refl _ _).drew⟩) (fun hHeld => ?_)
          refine tk 0 ?_
          try simp only [Act.put, lay]
          refine tk 1 ?_
          try simp only [Act.put, lay]
          refine tk 2 ?_
          try simp only [Act.put, lay]
          refine tk 3 ?_
          try simp only [Act.put, lay]
          refine tk 4 ?_ (hv := by intro W2 hSw; have qa : _ = some (.float .f64 p0 : Value) := Blk.cell hSw.1 0; have qb : _ = some (.float .f64 q0 : Value) := Blk.cell hSw.1 1; go_simp; (try with_reducible rfl))
          try simp only [Act.put, lay]
          refine rdy 5 (fun KK hKK => ?_)
          go_simp
          refine (HE.out _).mono ?_
          rintro e we ⟨rfl, hbe⟩
          go_wp2_with fail
          refine hKK.out _ _ (⟨hHeld.1.keep hbe, hHeld.2.1.keep hbe, hHeld.2.2.1.keep hbe, hHeld.2.2.2.below hbe⟩) (fun _ => ?_)
          clear hKK KK hHeld; rename_i hHeld
          try simp only [Act.put, lay]
          refine tk 6 ?_
          try simp only [Act.put, lay]
          refine tk 7 ?_
          try simp only [Act.put, lay]
          refine tk 8 ?_
          try simp only [Act.put, lay]
          refine wpAnyH_done (by kernel_rfl) ?_ _
          clear hbe o1
          clear d0 d1 d2 d3
          have HF := Lib.hid hHeld
          clear hHeld
          go_wp2
          go_roundw
          case rel => exact ⟨1, by go_num, by rw [HXX.out]; rfl, HF.out.2.2.2, .inr (.inl ⟨rfl, HF.out.1, HF.out.2.1, HF.out.2.2.1⟩)⟩
          case measure => simp [intOf]
        · skip
          obtain ⟨o1, o2⟩ := E0.out.1 rfl
          refine wp_region_held_drew (S := fun W' => Bx W' g0 p0 q0 ∧ Bx W' g1 x1 y1 ∧ Bx W' g2 x2 y2 ∧ Kp g0 g1 g2 w W') (by kernel_rfl) (by exact ⟨d0, d1, d2, d3.below (Below.refl _ _).drew⟩) (fun hHeld => ?_)
          refine tk 0 ?_
          try simp only [Act.put, lay]
          refine tk 1 ?_
          try simp only [Act.put, lay]
          refine tk 2 ?_
          try simp only [Act.put, lay]
          refine tk 3 ?_
          try simp only [Act.put, lay]
          refine tk 4 ?_ (hv := by intro W2 hSw; have qa : _ = some (.float .f64 p0 : Value) := Blk.cell hSw.1 0; have qb : _ = some (.float .f64 q0 : Value) := Blk.cell hSw.1 1; go_simp; (try with_reducible rfl))
          try simp only [Act.put, lay]
          refine rdy 5 (fun KK hKK => ?_)
          go_simp
          refine (HE.out _).mono ?_
          rintro e we ⟨rfl, hbe⟩
          go_wp2_with fail
          refine hKK.out _ _ (⟨hHeld.1.keep hbe, hHeld.2.1.keep hbe, hHeld.2.2.1.keep hbe, hHeld.2.2.2.below hbe⟩) (fun _ => ?_)
          clear hKK KK hHeld; rename_i hHeld
          try simp only [Act.put, lay]
          refine tk 6 ?_
          try simp only [Act.put, lay]
          refine tk 7 ?_
          try simp only [Act.put, lay]
          refine tk 8 ?_
          try simp only [Act.put, lay]
          refine wpAnyH_done (by kernel_rfl) ?_ _
          clear hbe o1 o2
          clear d0 d1 d2 d3
          have HF := Lib.hid hHeld
          clear hHeld
          go_wp2
          go_roundw
          case rel => exact ⟨1, by go_num, by rw [HXX.out]; rfl, HF.out.2.2.2, .inr (.inl ⟨rfl, HF.out.1, HF.out.2.1, HF.out.2.2.1⟩)⟩
          case measure => simp [intOf]
      · skip
        refine wp_region_held_drew (S := fun W' => Bx W' g0 p0 q0 ∧ Bx W' g1 x1 y1 ∧ Bx W' g2 x2 y2 ∧ Kp g0 g1 g2 w W') (by kernel_rfl) (by exact ⟨d0, d1, d2, d3.below (Below.refl _ _).drew⟩) (fun hHeld => ?_)
        refine tk 0 ?_
        try simp only [Act.put, lay]
        refine tk 1 ?_
        try simp only [Act.put, lay]
        refine tkn 2 ?_
        try simp only [Act.put, lay]
        refine tkn 3 ?_
        try simp only [Act.put, lay]
        refine tkn 4 ?_
        try simp only [Act.put, lay]
        refine tkn 5 ?_
        try simp only [Act.put, lay]
        refine tkn 6 ?_
        try simp only [Act.put, lay]
        refine tk 7 ?_
        try simp only [Act.put, lay]
        refine tk 8 ?_
        try simp only [Act.put, lay]
        refine wpAnyH_done (by kernel_rfl) ?_ _
        clear d0 d1 d2 d3
        have HF := Lib.hid hHeld
        clear hHeld
        go_wp2
        go_roundw
        case rel => exact ⟨1, by go_num, by rw [HXX.out]; rfl, HF.out.2.2.2, .inr (.inl ⟨rfl, HF.out.1, HF.out.2.1, HF.out.2.2.1⟩)⟩
        case measure => simp [intOf]
    · have KP := Lib.hid hkp
      have D0 := Lib.hid c0
      have D1 := Lib.hid c1
      have D2 := Lib.hid c2
      have r0 := hkp.cell C1.out l0 l1 l2
      have s0 : _ = some (.float .f64 x1 : Value) := Blk.cell c1 0
      have s1 : _ = some (.float .f64 y1 : Value) := Blk.cell c1 1
      clear hkp c0 c1 c2
      obtain ⟨nn, hnn⟩ : ∃ b, nf 1 = b := ⟨_, rfl⟩
      have hx := HX1.out
      rw [hnn] at hx ⊢
      have HXX := Lib.hid hx
      clear hnn hx
      go_wp2_with fail
      refine (H1.out _).mono ?_
      rintro e w2 ⟨rfl, hb⟩
      have KP2 := KP.out.below hb
      have d0 := D0.out.keep hb
      have d1 := D1.out.keep hb
      have d2 := D2.out.keep hb
      have s0 : _ = some (.float .f64 x1 : Value) := Blk.cell d1 0
      have s1 : _ = some (.float .f64 y1 : Value) := Blk.cell d1 1
      have f0 := Blk.frozen d1 0
      have f1 := Blk.frozen d1 1
      have DD0 := Lib.hid d0
      have DD1 := Lib.hid d1
      have DD2 := Lib.hid d2
      have KP3 := Lib.hid KP2
      clear r0 hb d0 d1 d2 KP2 D0 D1 D2 KP
      go_upto_region 6 with fail
      have d0 := DD0.out.far (r := g1) (by first | exact n01 | exact n02 | exact n12 | exact n01.symm | exact n02.symm | exact n12.symm) (.float .f64 p1) (.float .f64 q1)
      have d1 := DD1.out.set p1 q1
      have d2 := DD2.out.far (r := g1) (by first | exact n01 | exact n02 | exact n12 | exact n01.symm | exact n02.symm | exact n12.symm) (.float .f64 p1) (.float .f64 q1)
      have d3 := KP3.out.set (r := g1) (by simp) (.float .f64 p1) (.float .f64 q1)
      clear s0 s1 f0 f1 DD0 DD1 DD2 KP3
      obtain ⟨V, hV⟩ : ∃ X, ((w2.setCell ⟨g1, 0, none⟩ (.float .f64 p1)).setCell ⟨g1, 1, none⟩ (.float .f64 q1)) = X := ⟨_, rfl⟩
      rw [hV] at d0 d1 d2 d3 ⊢
      clear hV
      cases nn
      · cases a1
        · skip
          have o1 := E1.out.2 rfl
          refine wp_region_held_drew (S := fun W' => Bx W' g0 p0 q0 ∧ Bx W' g1 p1 q1 ∧ Bx W' g2 x2 y2 ∧ Kp g0 g1 g2 w W') (by kernel_rfl) (by exact ⟨d0, d1, d2, d3.below (Below.refl _ _).drew⟩) (fun hHeld => ?_)
          refine tk 0 ?_
          try simp only [Act.put, lay]
          refine tk 1 ?_
          try simp only [Act.put, lay]
          refine tk 2 ?_
          try simp only [Act.put, lay]
          refine tk 3 ?_
          try simp only [Act.put, lay]
          refine tk 4 ?_ (hv := by intro W2 hSw; have qa : _ = some (.float .f64 p1 : Value) := Blk.cell hSw.2.1 0; have qb : _ = some (.float .f64 q1 : Value) := Blk.cell hSw.2.1 1; go_simp; (try with_reducible rfl))
          try simp only [Act.put, lay]
          refine rdy 5 (fun KK hKK => ?_)
          go_simp
          refine (HE.out _).mono ?_
          rintro e we ⟨rfl, hbe⟩
          go_wp2_with fail
          refine hKK.out _ _ (⟨hHeld.1.keep hbe, hHeld.2.1.keep hbe, hHeld.2.2.1.keep hbe, hHeld.2.2.2.below hbe⟩) (fun _ => ?_)
          clear hKK KK hHeld; rename_i hHeld
          try simp only [Act.put, lay]
          refine tk 6 ?_
          try simp only [Act.put, lay]
          refine tk 7 ?_
          try simp only [Act.put, lay]
          refine tk 8 ?_
          try simp only [Act.put, lay]
          refine wpAnyH_done (by kernel_rfl) ?_ _
          clear hbe o1
          clear d0 d1 d2 d3
          have HF := Lib.hid hHeld
          clear hHeld
          go_wp2
          go_roundw
          case rel => exact ⟨2, by go_num, by rw [HXX.out]; rfl, HF.out.2.2.2, .inr (.inr (.inl ⟨rfl, HF.out.1, HF.out.2.1, HF.out.2.2.1⟩))⟩
          case measure => simp [intOf]
        · skip
          obtain ⟨o1, o2⟩ := E1.out.1 rfl
          refine wp_region_held_drew (S := fun W' => Bx W' g0 p0 q0 ∧ Bx W' g1 p1 q1 ∧ Bx W' g2 x2 y2 ∧ Kp g0 g1 g2 w W') (by kernel_rfl) (by exact ⟨d0, d1, d2, d3.below (Below.refl _ _).drew⟩) (fun hHeld => ?_)
          refine tk 0 ?_
          try simp only [Act.put, lay]
          refine tk 1 ?_
          try simp only [Act.put, lay]
          refine tk 2 ?_
          try simp only [Act.put, lay]
          refine tk 3 ?_
          try simp only [Act.put, lay]
          refine tk 4 ?_ (hv := by intro W2 hSw; have qa : _ = some (.float .f64 p1 : Value) := Blk.cell hSw.2.1 0; have qb : _ = some (.float .f64 q1 : Value) := Blk.cell hSw.2.1 1; go_simp; (try with_reducible rfl))
          try simp only [Act.put, lay]
          refine rdy 5 (fun KK hKK => ?_)
          go_simp
          refine (HE.out _).mono ?_
          rintro e we ⟨rfl, hbe⟩
          go_wp2_with fail
          refine hKK.out _ _ (⟨hHeld.1.keep hbe, hHeld.2.1.keep hbe, hHeld.2.2.1.keep hbe, hHeld.2.2.2.below hbe⟩) (fun _ => ?_)
          clear hKK KK hHeld; rename_i hHeld
          try simp only [Act.put, lay]
          refine tk 6 ?_
          try simp only [Act.put, lay]
          refine tk 7 ?_
          try simp only [Act.put, lay]
          refine tk 8 ?_
          try simp only [Act.put, lay]
          refine wpAnyH_done (by kernel_rfl) ?_ _
          clear hbe o1 o2
          clear d0 d1 d2 d3
          have HF := Lib.hid hHeld
          clear hHeld
          go_wp2
          go_roundw
          case rel => exact ⟨2, by go_num, by rw [HXX.out]; rfl, HF.out.2.2.2, .inr (.inr (.inl ⟨rfl, HF.out.1, HF.out.2.1, HF.out.2.2.1⟩))⟩
          case measure => simp [intOf]
      · skip
        refine wp_region_held_drew (S := fun W' => Bx W' g0 p0 q0 ∧ Bx W' g1 p1 q1 ∧ Bx W' g2 x2 y2 ∧ Kp g0 g1 g2 w W') (by kernel_rfl) (by exact ⟨d0, d1, d2, d3.below (Below.refl _ _).drew⟩) (fun hHeld => ?_)
        refine tk 0 ?_
        try simp only [Act.put, lay]
        refine tk 1 ?_
        try simp only [Act.put, lay]
        refine tkn 2 ?_
        try simp only [Act.put, lay]
        refine tkn 3 ?_
        try simp only [Act.put, lay]
        refine tkn 4 ?_
        try simp only [Act.put, lay]
        refine tkn 5 ?_
        try simp only [Act.put, lay]
        refine tkn 6 ?_
        try simp only [Act.put, lay]
        refine tk 7 ?_
        try simp only [Act.put, lay]
        refine tk 8 ?_
        try simp only [Act.put, lay]
        refine wpAnyH_done (by kernel_rfl) ?_ _
        clear d0 d1 d2 d3
        have HF := Lib.hid hHeld
        clear hHeld
        go_wp2
        go_roundw
        case rel => exact ⟨2, by go_num, by rw [HXX.out]; rfl, HF.out.2.2.2, .inr (.inr (.inl ⟨rfl, HF.out.1, HF.out.2.1, HF.out.2.2.1⟩))⟩
        case measure => simp [intOf]
    · have KP := Lib.hid hkp
      have D0 := Lib.hid c0
      have D1 := Lib.hid c1
      have D2 := Lib.hid c2
      have r0 := hkp.cell C2.out l0 l1 l2
      have s0 : _ = some (.float .f64 x2 : Value) := Blk.cell c2 0
      have s1 : _ = some (.float .f64 y2 : Value) := Blk.cell c2 1
      clear hkp c0 c1 c2
      obtain ⟨nn, hnn⟩ : ∃ b, nf 2 = b := ⟨_, rfl⟩
      have hx := HX2.out
      rw [hnn] at hx ⊢
      have HXX := Lib.hid hx
      clear hnn hx
      go_wp2_with fail
      refine (H2.out _).mono ?_
      rintro e w2 ⟨rfl, hb⟩
      have KP2 := KP.out.below hb
      have d0 := D0.out.keep hb
      have d1 := D1.out.keep hb
      have d2 := D2.out.keep hb
      have s0 : _ = some (.float .f64 x2 : Value) := Blk.cell d2 0
      have s1 : _ = some (.float .f64 y2 : Value) := Blk.cell d2 1
      have f0 := Blk.frozen d2 0
      have f1 := Blk.frozen d2 1
      have DD0 := Lib.hid d0
      have DD1 := Lib.hid d1
      have DD2 := Lib.hid d2
      have KP3 := Lib.hid KP2
      clear r0 hb d0 d1 d2 KP2 D0 D1 D2 KP
      go_upto_region 6 with fail
      have d0 := DD0.out.far (r := g2) (by first | exact n01 | exact n02 | exact n12 | exact n01.symm | exact n02.symm | exact n12.symm) (.float .f64 p2) (.float .f64 q2)
      have d1 := DD1.out.far (r := g2) (by first | exact n01 | exact n02 | exact n12 | exact n01.symm | exact n02.symm | exact n12.symm) (.float .f64 p2) (.float .f64 q2)
      have d2 := DD2.out.set p2 q2
      have d3 := KP3.out.set (r := g2) (by simp) (.float .f64 p2) (.float .f64 q2)
      clear s0 s1 f0 f1 DD0 DD1 DD2 KP3
      obtain ⟨V, hV⟩ : ∃ X, ((w2.setCell ⟨g2, 0, none⟩ (.float .f64 p2)).setCell ⟨g2, 1, none⟩ (.float .f64 q2)) = X := ⟨_, rfl⟩
      rw [hV] at d0 d1 d2 d3 ⊢
      clear hV
      cases nn
      · cases a2
        · skip
          have o1 := E2.out.2 rfl
          refine wp_region_held_drew (S := fun W' => Bx W' g0 p0 q0 ∧ Bx W' g1 p1 q1 ∧ Bx W' g2 p2 q2 ∧ Kp g0 g1 g2 w W') (by kernel_rfl) (by exact ⟨d0, d1, d2, d3.below (Below.refl _ _).drew⟩) (fun hHeld => ?_)
          refine tk 0 ?_
          try simp only [Act.put, lay]
          refine tk 1 ?_
          try simp only [Act.put, lay]
          refine tk 2 ?_
          try simp only [Act.put, lay]
          refine tk 3 ?_
          try simp only [Act.put, lay]
          refine tk 4 ?_ (hv := by intro W2 hSw; have qa : _ = some (.float .f64 p2 : Value) := Blk.cell hSw.2.2.1 0; have qb : _ = some (.float .f64 q2 : Value) := Blk.cell hSw.2.2.1 1; go_simp; (try with_reducible rfl))
          try simp only [Act.put, lay]
          refine rdy 5 (fun KK hKK => ?_)
          go_simp
          refine (HE.out _).mono ?_
          rintro e we ⟨rfl, hbe⟩
          go_wp2_with fail
          refine hKK.out _ _ (⟨hHeld.1.keep hbe, hHeld.2.1.keep hbe, hHeld.2.2.1.keep hbe, hHeld.2.2.2.below hbe⟩) (fun _ => ?_)
          clear hKK KK hHeld; rename_i hHeld
          try simp only [Act.put, lay]
          refine tk 6 ?_
          try simp only [Act.put, lay]
          refine tk 7 ?_
          try simp only [Act.put, lay]
          refine tk 8 ?_
          try simp only [Act.put, lay]
          refine wpAnyH_done (by kernel_rfl) ?_ _
          clear hbe o1
          clear d0 d1 d2 d3
          have HF := Lib.hid hHeld
          clear hHeld
          go_wp2
          go_roundw
          case rel => exact ⟨3, by go_num, by rw [HXX.out]; rfl, HF.out.2.2.2, .inr (.inr (.inr (⟨rfl, HF.out.1, HF.out.2.1, HF.out.2.2.1⟩)))⟩
          case measure => simp [intOf]
        · skip
          obtain ⟨o1, o2⟩ := E2.out.1 rfl
          refine wp_region_held_drew (S := fun W' => Bx W' g0 p0 q0 ∧ Bx W' g1 p1 q1 ∧ Bx W' g2 p2 q2 ∧ Kp g0 g1 g2 w W') (by kernel_rfl) (by exact ⟨d0, d1, d2, d3.below (Below.refl _ _).drew⟩) (fun hHeld => ?_)
          refine tk 0 ?_
          try simp only [Act.put, lay]
          refine tk 1 ?_
          try simp only [Act.put, lay]
          refine tk 2 ?_
          try simp only [Act.put, lay]
          refine tk 3 ?_
          try simp only [Act.put, lay]
          refine tk 4 ?_ (hv := by intro W2 hSw; have qa : _ = some (.float .f64 p2 : Value) := Blk.cell hSw.2.2.1 0; have qb : _ = some (.float .f64 q2 : Value) := Blk.cell hSw.2.2.1 1; go_simp; (try with_reducible rfl))
          try simp only [Act.put, lay]
          refine rdy 5 (fun KK hKK => ?_)
          go_simp
          refine (HE.out _).mono ?_
          rintro e we ⟨rfl, hbe⟩
          go_wp2_with fail
          refine hKK.out _ _ (⟨hHeld.1.keep hbe, hHeld.2.1.keep hbe, hHeld.2.2.1.keep hbe, hHeld.2.2.2.below hbe⟩) (fun _ => ?_)
          clear hKK KK hHeld; rename_i hHeld
          try simp only [Act.put, lay]
          refine tk 6 ?_
          try simp only [Act.put, lay]
          refine tk 7 ?_
          try simp only [Act.put, lay]
          refine tk 8 ?_
          try simp only [Act.put, lay]
          refine wpAnyH_done (by kernel_rfl) ?_ _
          clear hbe o1 o2
          clear d0 d1 d2 d3
          have HF := Lib.hid hHeld
          clear hHeld
          go_wp2
          go_roundw
          case rel => exact ⟨3, by go_num, by rw [HXX.out]; rfl, HF.out.2.2.2, .inr (.inr (.inr (⟨rfl, HF.out.1, HF.out.2.1, HF.out.2.2.1⟩)))⟩
          case measure => simp [intOf]
      · skip
        refine wp_region_held_drew (S := fun W' => Bx W' g0 p0 q0 ∧ Bx W' g1 p1 q1 ∧ Bx W' g2 p2 q2 ∧ Kp g0 g1 g2 w W') (by kernel_rfl) (by exact ⟨d0, d1, d2, d3.below (Below.refl _ _).drew⟩) (fun hHeld => ?_)
        refine tk 0 ?_
        try simp only [Act.put, lay]
        refine tk 1 ?_
        try simp only [Act.put, lay]
        refine tkn 2 ?_
        try simp only [Act.put, lay]
        refine tkn 3 ?_
        try simp only [Act.put, lay]
        refine tkn 4 ?_
        try simp only [Act.put, lay]
        refine tkn 5 ?_
        try simp only [Act.put, lay]
        refine tkn 6 ?_
        try simp only [Act.put, lay]
        refine tk 7 ?_
        try simp only [Act.put, lay]
        refine tk 8 ?_
        try simp only [Act.put, lay]
        refine wpAnyH_done (by kernel_rfl) ?_ _
        clear d0 d1 d2 d3
        have HF := Lib.hid hHeld
        clear hHeld
        go_wp2
        go_roundw
        case rel => exact ⟨3, by go_num, by rw [HXX.out]; rfl, HF.out.2.2.2, .inr (.inr (.inr (⟨rfl, HF.out.1, HF.out.2.1, HF.out.2.2.1⟩)))⟩
        case measure => simp [intOf]
    · have r := NN3.out
      go_wp2
      go_ret
      exact ⟨rfl, c0, c1, c2, hkp⟩
end Go.Proofs.YthlmlmfebpjgdaaGreatDoor

namespace Go.Proofs.YthlmlmfebpjgdaaGreatDoor
open Go.RowKit
attribute [local go_sem] run_store_float run_frombits run_bitsof
theorem mirrorf (x y : Nat) (w : World) (hx : x < 18446744073709551616) (hy : y < 18446744073709551616) : Calls Tryz.prog 85 #[.agg #[.float .f64 x, .float .f64 y]] w fun e w' => e = .returned (.agg #[.float .f64 (pat (-(rd x y).2)), .float .f64 (pat (-(rd x y).1))]) ∧ Below w.heap.size w w' := by
  have HN := Lib.hid fun W => negf x y W hx hy
  obtain ⟨p, hp⟩ : ∃ p, pat (-(rd x y).2) = p := ⟨_, rfl⟩
  obtain ⟨q, hq⟩ : ∃ p, pat (-(rd x y).1) = p := ⟨_, rfl⟩
  rw [hp, hq] at HN
  rw [hp, hq]
  clear hp hq
  obtain ⟨LB0, LG0_0, LR⟩ := bx2 w #[.float .f64 x, .float .f64 y] 28 #[.float .f64 0, .float .f64 0] 28
  have LR0 := Lib.hid (HasBlk.of (n := 2) LR.out rfl rfl)
  clear LR
  go_enter Tryz.func85, Tryz.ntmps85
  go_wp2_with fail
  refine (HN.out _).mono ?_
  rintro e w1 ⟨rfl, hb1⟩
  have LB1 := stB LB0 hb1 LB0.out.size
  have LR1 := stR LR0 hb1
  have LG0_1 := stG LG0_0 hb1
  clear LB0 LR0 LG0_0
  clear hb1
  obtain ⟨ha0, hf0, ha1, hf1⟩ := LR1.out.sf2
  obtain ⟨hk0, hk1⟩ := LR1.out.sc2 (.float .f64 p) (.float .f64 q)
  have F := Lib.hid (below_sets (w0 := w) (r := (w.heap.size + 1)) (by omega) [.float .f64 p, .float .f64 q] 0 _ LB1.out)
  simp [sets] at hk0 hk1
  go_wp2
  refine bodyPost_ret (v := .agg #[.float .f64 p, .float .f64 q]) (by simp [results, Tryz.results85, go_sem, hk0, hk1]) rfl ?_
  exact ⟨rfl, F.out⟩
end Go.Proofs.YthlmlmfebpjgdaaGreatDoor

namespace Go.Proofs.YthlmlmfebpjgdaaGreatDoor
open Go.RowKit
def rc (x y : Rat) : Int := if x < y then -1 else if y < x then 1 else 0
theorem div_lt {a b c d : Rat} (hc : 0 < c) (hd : 0 < d) : a / c < b / d ↔ a * d < b * c := by
  have h1 : 0 < c * d := Rat.mul_pos hc hd
  have e1 : a / c * (c * d) = a * d := by
    rw [← Rat.mul_assoc, Rat.div_mul_cancel (by grind)]
  have e2 : b / d * (c * d) = b * c := by
    rw [Rat.mul_comm c d, ← Rat.mul_assoc, Rat.div_mul_cancel (by grind)]
  rw [← e1, ← e2]
  exact (Rat.mul_lt_mul_right h1).symm
theorem rv_lt_false {p q p' q' : Nat} (hq : 0 < q) (hq' : 0 < q') : rv false p q < rv false p' q' ↔ p * q' < p' * q := by
  unfold rv
  simp only [Bool.false_eq_true, if_false]
  rw [div_lt (cast_pos hq) (cast_pos hq'), ← Rat.natCast_mul, ← Rat.natCast_mul, Rat.natCast_lt_natCast]
end Go.Proofs.YthlmlmfebpjgdaaGreatDoor

namespace Go.Proofs.YthlmlmfebpjgdaaGreatDoor
open Go.RowKit
def Sc (n m : Nat) (f : Int) : Prop := (0 ≤ f → m * 2^f.toNat ≤ n ∧ n < m * 2^(f.toNat + 1)) ∧ (f < 0 → m ≤ n * 2^(-f).toNat ∧ n * 2^(-f).toNat < 2 * m)
theorem blen_bounds {n : Nat} (h : 0 < n) : ∃ L, blen n = L + 1 ∧ 2^L ≤ n ∧ n < 2^(L + 1) := by
  have h1 := pow_blen_le h
  have h2 := lt_pow_blen n
  have h3 : blen n ≠ 0 := by rw [Ne, blen_eq_zero]; omega
  refine ⟨blen n - 1, by omega, ?_, ?_⟩
  · exact h1
  · rwa [show blen n - 1 + 1 = blen n from by omega]
theorem scale_keep {n m : Nat} {f : Int} (hn : 0 < n) (hm : 0 < m) (hf : f = (blen n : Int) - blen m) (h1 : 0 ≤ f → m * 2^f.toNat ≤ n) (h2 : f < 0 → m ≤ n * 2^(-f).toNat) : Sc n m f := by
  obtain ⟨L, e1, a1, a2⟩ := blen_bounds hn
  obtain ⟨R, e2, b1, b2⟩ := blen_bounds hm
  refine ⟨fun h => ⟨h1 h, ?_⟩, fun h => ⟨h2 h, ?_⟩⟩
  · obtain ⟨k, rfl⟩ : ∃ k : Nat, f = k := ⟨f.toNat, by omega⟩
    rw [Int.toNat_natCast]
    have : L = R + k := by omega
    subst this
    calc n < 2^(R + k + 1) := a2
      _ = 2^R * 2^(k + 1) := by rw [← Nat.pow_add]; congr 1
      _ ≤ m * 2^(k + 1) := Nat.mul_le_mul_right _ b1
  · obtain ⟨k, hk⟩ : ∃ k : Nat, -f = k := ⟨(-f).toNat, by omega⟩
    rw [hk, Int.toNat_natCast]
    have : R = L + k := by omega
    subst this
    calc n * 2^k < 2^(L + 1) * 2^k := Nat.mul_lt_mul_of_pos_right a2 (Nat.two_pow_pos k)
      _ = 2 * 2^(L + k) := by rw [← Nat.pow_add, show L + 1 + k = (L + k) + 1 from by omega, Nat.pow_succ, Nat.mul_comm]
      _ ≤ 2 * m := Nat.mul_le_mul_left _ b1
theorem scale_down {n m : Nat} {f : Int} (hn : 0 < n) (hm : 0 < m) (hf : f = (blen n : Int) - blen m) (h1 : 0 ≤ f → n < m * 2^f.toNat) (h2 : f < 0 → n * 2^(-f).toNat < m) : Sc n m (f - 1) := by
  obtain ⟨L, e1, a1, a2⟩ := blen_bounds hn
  obtain ⟨R, e2, b1, b2⟩ := blen_bounds hm
  rcases Int.lt_trichotomy f 0 with h | h | h
  · refine ⟨fun h' => by omega, fun _ => ?_⟩
    have h2 := h2 h
    obtain ⟨k, hk⟩ : ∃ k : Nat, -f = k := ⟨(-f).toNat, by omega⟩
    rw [hk, Int.toNat_natCast] at h2
    rw [show -(f - 1) = ((k + 1 : Nat) : Int) from by omega, Int.toNat_natCast]
    have : R = L + k := by omega
    subst this
    refine ⟨?_, by rw [Nat.pow_succ, ← Nat.mul_assoc]; omega⟩
    refine Nat.le_of_lt ?_
    calc m < 2^(L + k + 1) := b2
      _ = 2^L * 2^(k + 1) := by rw [← Nat.pow_add]; congr 1
      _ ≤ n * 2^(k + 1) := Nat.mul_le_mul_right _ a1
  · subst h
    refine ⟨fun h' => by omega, fun _ => ?_⟩
    have h1 := h1 (by omega)
    simp at h1 ⊢
    have : R = L := by omega
    subst this
    rw [Nat.pow_succ] at b2
    omega
  · refine ⟨fun _ => ?_, fun h' => by omega⟩
    have h1 := h1 (by omega)
    obtain ⟨k, hk⟩ : ∃ k : Nat, f = ((k + 1 : Nat) : Int) := ⟨(f - 1).toNat, by omega⟩
    rw [hk, Int.toNat_natCast] at h1
    rw [show f - 1 = (k : Int) from by omega, Int.toNat_natCast]
    refine ⟨?_, h1⟩
    have : L = R + (k + 1) := by omega
    subst this
    refine Nat.le_of_lt ?_
    calc m * 2^k < 2^(R + 1) * 2^k := Nat.mul_lt_mul_of_pos_right b2 (Nat.two_pow_pos k)
      _ = 2^(R + (k + 1)) := by rw [← Nat.pow_add]; congr 1; omega
      _ ≤ n := a1
def lastBit (f : Int) : Int := if f - 52 < -1074 then -1074 else f - 52
def upN (n : Nat) (e : Int) : Nat := n * 2^(-e).toNat
def upM (m : Nat) (e : Int) : Nat := m * 2^e.toNat
theorem w_lt {n m : Nat} {f : Int} (hm : 0 < m) (h : Sc n m f) : upN n (lastBit f) / upM m (lastBit f) < 2^53 := by
  have hM : 0 < upM m (lastBit f) := Nat.mul_pos hm (Nat.two_pow_pos _)
  rw [Nat.div_lt_iff_lt_mul hM]
  have he : f - 52 ≤ lastBit f := by unfold lastBit; split <;> omega
  obtain ⟨e, hee⟩ : ∃ e, lastBit f = e := ⟨_, rfl⟩
  rw [hee] at he ⊢
  unfold upN upM
  rcases Int.lt_or_le f 0 with hf | hf
  · have h2 := (h.2 hf).2
    obtain ⟨k, hk⟩ : ∃ k : Nat, -f = k := ⟨(-f).toNat, by omega⟩
    rw [hk, Int.toNat_natCast] at h2
    rcases Int.lt_or_le e 0 with h0 | h0
    · rw [show e.toNat = 0 from by omega, Nat.pow_zero, Nat.mul_one]
      calc n * 2^(-e).toNat ≤ n * 2^(k + 52) := Nat.mul_le_mul_left _ (Nat.pow_le_pow_right (by omega) (by omega))
        _ = n * 2^k * 2^52 := by rw [Nat.pow_add, Nat.mul_assoc]
        _ < 2 * m * 2^52 := Nat.mul_lt_mul_of_pos_right h2 (Nat.two_pow_pos 52)
        _ = 2^53 * m := by omega
    · rw [show (-e).toNat = 0 from by omega, Nat.pow_zero, Nat.mul_one]
      have h3 : n ≤ n * 2^k := Nat.le_mul_of_pos_right _ (Nat.two_pow_pos k)
      have h4 : m ≤ m * 2^e.toNat := Nat.le_mul_of_pos_right _ (Nat.two_pow_pos _)
      have : 2 * m ≤ 2^53 * (m * 2^e.toNat) := Nat.mul_le_mul (by omega) h4
      omega
  · have h2 := (h.1 hf).2
    obtain ⟨k, rfl⟩ : ∃ k : Nat, f = k := ⟨f.toNat, by omega⟩
    rw [Int.toNat_natCast] at h2
    rcases Int.lt_or_le e 0 with h0 | h0
    · rw [show e.toNat = 0 from by omega, Nat.pow_zero, Nat.mul_one]
      calc n * 2^(-e).toNat < m * 2^(k + 1) * 2^(-e).toNat := Nat.mul_lt_mul_of_pos_right h2 (Nat.two_pow_pos _)
        _ = m * 2^(k + 1 + (-e).toNat) := by rw [Nat.mul_assoc, ← Nat.pow_add]
        _ ≤ m * 2^53 := Nat.mul_le_mul_left _ (Nat.pow_le_pow_right (by omega) (by omega))
        _ = 2^53 * m := Nat.mul_comm _ _
    · rw [show (-e).toNat = 0 from by omega, Nat.pow_zero, Nat.mul_one]
      calc n < m * 2^(k + 1) := h2
        _ ≤ m * 2^(53 + e.toNat) := Nat.mul_le_mul_left _ (Nat.pow_le_pow_right (by omega) (by omega))
        _ = 2^53 * (m * 2^e.toNat) := by rw [Nat.pow_add]; ac_rfl
theorem w_ge {n m : Nat} {f : Int} (hm : 0 < m) (h : Sc n m f) (hb : -1074 < lastBit f) : 2^52 ≤ upN n (lastBit f) / upM m (lastBit f) := by
  have hM : 0 < upM m (lastBit f) := Nat.mul_pos hm (Nat.two_pow_pos _)
  rw [Nat.le_div_iff_mul_le hM]
  have he : lastBit f = f - 52 := by unfold lastBit at *; split at * <;> omega
  rw [he]
  unfold upN upM
  rcases Int.lt_or_le f 0 with hf | hf
  · have h2 := (h.2 hf).1
    obtain ⟨k, hk⟩ : ∃ k : Nat, -f = k := ⟨(-f).toNat, by omega⟩
    rw [hk, Int.toNat_natCast] at h2
    rw [show (f - 52).toNat = 0 from by omega, Nat.pow_zero, Nat.mul_one, show -(f - 52) = ((k + 52 : Nat) : Int) from by omega, Int.toNat_natCast, Nat.pow_add]
    calc 2^52 * m ≤ 2^52 * (n * 2^k) := Nat.mul_le_mul_left _ h2
      _ = n * (2^k * 2^52) := by ac_rfl
  · have h2 := (h.1 hf).1
    obtain ⟨k, rfl⟩ : ∃ k : Nat, f = k := ⟨f.toNat, by omega⟩
    rw [Int.toNat_natCast] at h2
    rcases Int.lt_or_le (k : Int) 52 with h0 | h0
    · rw [show ((k : Int) - 52).toNat = 0 from by omega, Nat.pow_zero, Nat.mul_one]
      have : 52 = k + (-((k : Int) - 52)).toNat := by omega
      calc 2^52 * m = 2^(k + (-((k : Int) - 52)).toNat) * m := by rw [← this]
        _ = m * 2^k * 2^(-((k : Int) - 52)).toNat := by rw [Nat.pow_add]; ac_rfl
        _ ≤ n * 2^(-((k : Int) - 52)).toNat := Nat.mul_le_mul_right _ h2
    · rw [show (-((k : Int) - 52)).toNat = 0 from by omega, Nat.pow_zero, Nat.mul_one]
      have : k = 52 + ((k : Int) - 52).toNat := by omega
      calc 2^52 * (m * 2^((k : Int) - 52).toNat) = m * 2^(52 + ((k : Int) - 52).toNat) := by rw [Nat.pow_add]; ac_rfl
        _ = m * 2^k := by rw [← this]
        _ ≤ n := h2
theorem units {n m U : Nat} {e : Int} (hm : 0 < m) (he : -(U : Int) ≤ e) :
    (upN n e / upM m e) * 2^(e + U).toNat * m ≤ n * 2^U ∧ n * 2^U < (upN n e / upM m e + 1) * 2^(e + U).toNat * m ∧
      (upN n e % upM m e = 0 → n * 2^U = (upN n e / upM m e) * 2^(e + U).toNat * m) ∧ (upN n e % upM m e ≠ 0 → (upN n e / upM m e) * 2^(e + U).toNat * m < n * 2^U) := by
  have hM : 0 < upM m e := Nat.mul_pos hm (Nat.two_pow_pos _)
  have h1 := Nat.div_add_mod (upN n e) (upM m e)
  have h2 := Nat.mod_lt (upN n e) hM
  obtain ⟨c, hc, hN, hP⟩ : ∃ c, 0 < c ∧ n * 2^U = upN n e * c ∧ 2^(e + U).toNat * m = upM m e * c := by
    rcases Int.lt_or_le e 0 with h0 | h0
    · refine ⟨2^(e + U).toNat, Nat.two_pow_pos _, ?_, ?_⟩
      · unfold upN
        rw [Nat.mul_assoc, ← Nat.pow_add]
        congr 2; omega
      · unfold upM
        rw [show e.toNat = 0 from by omega, Nat.pow_zero, Nat.mul_one, Nat.mul_comm]
    · refine ⟨2^U, Nat.two_pow_pos _, ?_, ?_⟩
      · unfold upN
        rw [show (-e).toNat = 0 from by omega, Nat.pow_zero, Nat.mul_one]
      · unfold upM
        rw [show (e + U).toNat = e.toNat + U from by omega, Nat.pow_add]; ac_rfl
  obtain ⟨D, hD⟩ : ∃ D, upM m e = D := ⟨_, rfl⟩
  obtain ⟨q, hq⟩ : ∃ q, upN n e / D = q := ⟨_, rfl⟩
  obtain ⟨r, hr⟩ : ∃ r, upN n e % D = r := ⟨_, rfl⟩
  rw [hD] at h1 h2 hP ⊢
  rw [hq, hr] at h1
  rw [hr] at h2
  rw [hq, hr, hN, Nat.mul_assoc, Nat.mul_assoc, hP, ← h1]
  have e1 : q * (D * c) = D * q * c := by ac_rfl
  have e2 : (q + 1) * (D * c) = (D * q + D) * c := by rw [Nat.add_mul, Nat.one_mul, e1, Nat.add_mul]
  rw [e1, e2]
  refine ⟨Nat.mul_le_mul_right _ (by omega), Nat.mul_lt_mul_of_pos_right (by omega) hc, fun h => by rw [h, Nat.add_zero], fun h => Nat.mul_lt_mul_of_pos_right (by omega) hc⟩
end Go.Proofs.YthlmlmfebpjgdaaGreatDoor
