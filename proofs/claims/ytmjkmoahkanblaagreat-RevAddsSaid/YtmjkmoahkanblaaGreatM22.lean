/-
Walks: package vergeref10, Within, whatever the bounds are: by how the ends lie to them.
-/
import Derived.Test.YtmjkmoahkanblaaGreatM13
set_option linter.unusedSimpArgs false
set_option linter.unusedVariables false

namespace Go.Proofs.YtmjkmoahkanblaaGreat
open Go.RowKit

/-- What an interval and a piece have in common, by how the ends lie to the bounds. -/
def wg (i j c1 c2 c3 c4 a b : Int) (o1 o2 : Bool) : Int × Int := if 0 < c1 ∨ (c1 = 0 ∧ o2 = true) ∨ c2 < 0 ∨ (c2 = 0 ∧ o1 = true) then ((M : Int), -(M : Int)) else (if c3 < 0 then a else i, if 0 < c4 then b else j)

set_option maxHeartbeats 3200000 in
theorem within_nothing (i j : Int) (N1 N2 : Int) (s1 : Int) (g1 : Bool) (A1 : Option Addr) (n1 c1 : Nat) (B1 : Option Addr) (m1 d1 : Nat) (x1 : Rat) (s2 : Int) (g2 : Bool) (A2 : Option Addr) (n2 c2 : Nat) (B2 : Option Addr) (m2 d2 : Nat) (x2 : Rat) (o1 o2 : Bool) (w : World) :
    Calls Tryz.prog 88 #[.agg #[.int .u64 (pat i : Int), .int .u64 (pat j : Int)], .agg #[.bool true, .int .i64 s1, .bool g1, .slice A1 n1 c1, .slice B1 m1 d1, .int .i64 N1, .bool o1, .int .i64 s2, .bool g2, .slice A2 n2 c2, .slice B2 m2 d2, .int .i64 N2, .bool o2]] w fun e w' => e = .returned (.agg #[.int .u64 9218868437227405312, .int .u64 18442240474082181120]) ∧ Below w.heap.size w w' := by
  have HE := Lib.hid empty6
  obtain ⟨p, hpp⟩ : ∃ p, pat i = p := ⟨_, rfl⟩
  obtain ⟨q, hqq⟩ : ∃ q, pat j = q := ⟨_, rfl⟩
  rw [hpp, hqq]
  clear hpp hqq
  have LB0 := Lib.hid (show Below w.heap.size w (((w.alloc (.cells #[.int .u64 (p : Int), .int .u64 (q : Int)] 24)).alloc (.cells #[.bool true, .int .i64 s1, .bool g1, .slice A1 n1 c1, .slice B1 m1 d1, .int .i64 N1, .bool o1, .int .i64 s2, .bool g2, .slice A2 n2 c2, .slice B2 m2 d2, .int .i64 N2, .bool o2] 64)).alloc (.cells #[.int .u64 0, .int .u64 0] 24)) from (((below_alloc w _).alloc (by simp <;> omega) _).alloc (by simp <;> omega) _))
  have LG0_0 := Lib.hid ((((Blk.at (W := w) (g := w.heap.size) (by simp <;> omega) 24 #[.int .u64 (p : Int), .int .u64 (q : Int)]).alloc (.cells #[.bool true, .int .i64 s1, .bool g1, .slice A1 n1 c1, .slice B1 m1 d1, .int .i64 N1, .bool o1, .int .i64 s2, .bool g2, .slice A2 n2 c2, .slice B2 m2 d2, .int .i64 N2, .bool o2] 64)).alloc (.cells #[.int .u64 0, .int .u64 0] 24)))
  have LG1_0 := Lib.hid (((Blk.at (W := (w.alloc (.cells #[.int .u64 (p : Int), .int .u64 (q : Int)] 24))) (g := (w.heap.size + 1)) (by simp <;> omega) 64 #[.bool true, .int .i64 s1, .bool g1, .slice A1 n1 c1, .slice B1 m1 d1, .int .i64 N1, .bool o1, .int .i64 s2, .bool g2, .slice A2 n2 c2, .slice B2 m2 d2, .int .i64 N2, .bool o2]).alloc (.cells #[.int .u64 0, .int .u64 0] 24)))
  have LR0 := Lib.hid (HasBlk.of (n := 2) (Blk.at (W := ((w.alloc (.cells #[.int .u64 (p : Int), .int .u64 (q : Int)] 24)).alloc (.cells #[.bool true, .int .i64 s1, .bool g1, .slice A1 n1 c1, .slice B1 m1 d1, .int .i64 N1, .bool o1, .int .i64 s2, .bool g2, .slice A2 n2 c2, .slice B2 m2 d2, .int .i64 N2, .bool o2] 64))) (g := (w.heap.size + 2)) (by simp <;> omega) 24 #[.int .u64 0, .int .u64 0]) rfl rfl)
  go_enter Tryz.func88, Tryz.ntmps88
  go_wp2_with fail
  refine wp_region_held_drew (S := fun W' => Blk W' w.heap.size 24 #[.int .u64 (p : Int), .int .u64 (q : Int)] ∧ Blk W' (w.heap.size + 1) 64 #[.bool true, .int .i64 s1, .bool g1, .slice A1 n1 c1, .slice B1 m1 d1, .int .i64 N1, .bool o1, .int .i64 s2, .bool g2, .slice A2 n2 c2, .slice B2 m2 d2, .int .i64 N2, .bool o2] ∧ HasBlk W' (w.heap.size + 2) 24 2 ∧ Below w.heap.size w W') (by kernel_rfl) (by exact ⟨LG0_0.out.drew, LG1_0.out.drew, LR0.out.drew, LB0.out.drew⟩) (fun hHeld => ?_)
  refine wpAnyH_take (i := 0) (v := ?_) rfl (by kernel_rfl) (by kernel_rfl) (by kernel_rfl) (fun _ _ _ h => h) (Or.inl ⟨by rfl, ?_⟩) (by assumption) ?_
  rotate_left
  · (intro W2 hSw; go_simp; (try with_reducible rfl))
  try simp only [Act.put, List.getElem_toArray, List.getElem_cons_succ, List.getElem_cons_zero, List.setIfInBounds_toArray, List.set_cons_zero, List.set_cons_succ]
  refine wpAnyH_take (i := 1) (v := ?_) rfl (by kernel_rfl) (by kernel_rfl) (by kernel_rfl) (fun _ _ _ h => h) (Or.inl ⟨by rfl, ?_⟩) (by assumption) ?_
  rotate_left
  · (intro W2 hSw; (try dsimp only at hSw); have q0 : _ = some (.bool true : Value) := hSw.2.1.cell 0; have q1 : _ = some (.int .i64 s1 : Value) := hSw.2.1.cell 1; have q2 : _ = some (.bool g1 : Value) := hSw.2.1.cell 2; have q3 : _ = some (.slice A1 n1 c1 : Value) := hSw.2.1.cell 3; have q4 : _ = some (.slice B1 m1 d1 : Value) := hSw.2.1.cell 4; have q5 : _ = some (.int .i64 N1 : Value) := hSw.2.1.cell 5; have q6 : _ = some (.bool o1 : Value) := hSw.2.1.cell 6; have q7 : _ = some (.int .i64 s2 : Value) := hSw.2.1.cell 7; have q8 : _ = some (.bool g2 : Value) := hSw.2.1.cell 8; have q9 : _ = some (.slice A2 n2 c2 : Value) := hSw.2.1.cell 9; have q10 : _ = some (.slice B2 m2 d2 : Value) := hSw.2.1.cell 10; have q11 : _ = some (.int .i64 N2 : Value) := hSw.2.1.cell 11; have q12 : _ = some (.bool o2 : Value) := hSw.2.1.cell 12; go_simp; (try with_reducible rfl))
  try simp only [Act.put, List.getElem_toArray, List.getElem_cons_succ, List.getElem_cons_zero, List.setIfInBounds_toArray, List.set_cons_zero, List.set_cons_succ]
  refine wpAnyH_take (i := 2) (v := ?_) rfl (by kernel_rfl) (by kernel_rfl) (by kernel_rfl) (fun _ _ _ h => h) (Or.inl ⟨by rfl, ?_⟩) (by assumption) ?_
  rotate_left
  · (intro W2 hSw; go_simp; (try with_reducible rfl))
  try simp only [Act.put, List.getElem_toArray, List.getElem_cons_succ, List.getElem_cons_zero, List.setIfInBounds_toArray, List.set_cons_zero, List.set_cons_succ]
  refine wpAnyH_take (i := 3) (v := undef) rfl (by kernel_rfl) (by kernel_rfl) (by kernel_rfl) (fun _ _ _ h => h) (Or.inr ⟨by rfl, rfl⟩) (by assumption) ?_
  try simp only [Act.put, List.getElem_toArray, List.getElem_cons_succ, List.getElem_cons_zero, List.setIfInBounds_toArray, List.set_cons_zero, List.set_cons_succ]
  refine wpAnyH_take (i := 4) (v := undef) rfl (by kernel_rfl) (by kernel_rfl) (by kernel_rfl) (fun _ _ _ h => h) (Or.inr ⟨by rfl, rfl⟩) (by assumption) ?_
  try simp only [Act.put, List.getElem_toArray, List.getElem_cons_succ, List.getElem_cons_zero, List.setIfInBounds_toArray, List.set_cons_zero, List.set_cons_succ]
  refine wpAnyH_take (i := 5) (v := undef) rfl (by kernel_rfl) (by kernel_rfl) (by kernel_rfl) (fun _ _ _ h => h) (Or.inr ⟨by rfl, rfl⟩) (by assumption) ?_
  try simp only [Act.put, List.getElem_toArray, List.getElem_cons_succ, List.getElem_cons_zero, List.setIfInBounds_toArray, List.set_cons_zero, List.set_cons_succ]
  refine wpAnyH_take (i := 6) (v := ?_) rfl (by kernel_rfl) (by kernel_rfl) (by kernel_rfl) (fun _ _ _ h => h) (Or.inl ⟨by rfl, ?_⟩) (by assumption) ?_
  rotate_left
  · (intro W2 hSw; go_simp; (try with_reducible rfl))
  try simp only [Act.put, List.getElem_toArray, List.getElem_cons_succ, List.getElem_cons_zero, List.setIfInBounds_toArray, List.set_cons_zero, List.set_cons_succ]
  refine wpAnyH_done (by kernel_rfl) ?_ _
  have LB1 := Lib.hid hHeld.2.2.2
  have LR1 := Lib.hid hHeld.2.2.1
  have LG0_1 := Lib.hid hHeld.1
  have LG1_1 := Lib.hid hHeld.2.1
  clear hHeld LB0 LR0 LG0_0 LG1_0
  go_wp2_with fail
  refine (HE.out _).mono ?_
  rintro e w2 ⟨rfl, hb2⟩
  have LB2 := Lib.hid (LB1.out.trans (hb2.mono LB1.out.size))
  have LR2 := Lib.hid (LR1.out.keep hb2)
  have LG0_2 := Lib.hid (LG0_1.out.keep hb2)
  have LG1_2 := Lib.hid (LG1_1.out.keep hb2)
  clear LB1 LR1 LG0_1 LG1_1
  clear hb2
  have ha0 := LR2.out.someCell 0 (by decide)
  have hf0 := LR2.out.frozen 0
  have ha1 := LR2.out.someCell 1 (by decide)
  have hf1 := LR2.out.frozen 1
  have hk0 := LR2.out.setCell [.int .u64 9218868437227405312, .int .u64 18442240474082181120] rfl 0 (by decide)
  have hk1 := LR2.out.setCell [.int .u64 9218868437227405312, .int .u64 18442240474082181120] rfl 1 (by decide)
  have F := Lib.hid (below_sets (w0 := w) (r := (w.heap.size + 2)) (by omega) [.int .u64 9218868437227405312, .int .u64 18442240474082181120] 0 _ LB2.out)
  simp [sets] at hk0 hk1
  go_wp2
  refine bodyPost_ret (v := .agg #[.int .u64 9218868437227405312, .int .u64 18442240474082181120]) (by simp [results, Tryz.results88, go_sem, hk0, hk1]) rfl ?_
  exact ⟨rfl, F.out⟩

set_option maxHeartbeats 6400000 in
theorem within_gen (i j : Int) (N1 N2 : Int) (s1 : Int) (g1 : Bool) (A1 : Option Addr) (n1 c1 : Nat) (B1 : Option Addr) (m1 d1 : Nat) (x1 : Rat) (s2 : Int) (g2 : Bool) (A2 : Option Addr) (n2 c2 : Nat) (B2 : Option Addr) (m2 d2 : Nat) (x2 : Rat) (o1 o2 : Bool) (c1' c2' c3' c4' a b : Int) (w : World) (hi : -(M : Int) ≤ i ∧ i < M)
    (t1 : ∀ W, Below w.heap.size w W → Calls Tryz.prog 157 #[.int .u64 (pat i : Int), .agg #[.int .i64 s2, .bool g2, .slice A2 n2 c2, .slice B2 m2 d2, .int .i64 N2, .bool o2]] W (Ag W c1'))
    (t2 : ∀ W, Below w.heap.size w W → Calls Tryz.prog 157 #[.int .u64 (pat j : Int), .agg #[.int .i64 s1, .bool g1, .slice A1 n1 c1, .slice B1 m1 d1, .int .i64 N1, .bool o1]] W (Ag W c2'))
    (t3 : ∀ W, Below w.heap.size w W → Calls Tryz.prog 157 #[.int .u64 (pat i : Int), .agg #[.int .i64 s1, .bool g1, .slice A1 n1 c1, .slice B1 m1 d1, .int .i64 N1, .bool o1]] W (Ag W c3'))
    (t4 : ∀ W, Below w.heap.size w W → Calls Tryz.prog 157 #[.int .u64 (pat j : Int), .agg #[.int .i64 s2, .bool g2, .slice A2 n2 c2, .slice B2 m2 d2, .int .i64 N2, .bool o2]] W (Ag W c4'))
    (t5 : ∀ W, Below w.heap.size w W → c3' < 0 → Calls Tryz.prog 158 #[.int .i64 (-1), .agg #[.int .i64 s1, .bool g1, .slice A1 n1 c1, .slice B1 m1 d1, .int .i64 N1, .bool o1]] W fun e w' => e = .returned (.int .u64 (pat a : Int)) ∧ Below W.heap.size W w')
    (t6 : ∀ W, Below w.heap.size w W → 0 < c4' → Calls Tryz.prog 158 #[.int .i64 1, .agg #[.int .i64 s2, .bool g2, .slice A2 n2 c2, .slice B2 m2 d2, .int .i64 N2, .bool o2]] W fun e w' => e = .returned (.int .u64 (pat b : Int)) ∧ Below W.heap.size W w') :
    Calls Tryz.prog 88 #[.agg #[.int .u64 (pat i : Int), .int .u64 (pat j : Int)], .agg #[.bool false, .int .i64 s1, .bool g1, .slice A1 n1 c1, .slice B1 m1 d1, .int .i64 N1, .bool o1, .int .i64 s2, .bool g2, .slice A2 n2 c2, .slice B2 m2 d2, .int .i64 N2, .bool o2]] w fun e w' => e = .returned (.agg #[.int .u64 (pat (wg i j c1' c2' c3' c4' a b o1 o2).1 : Int), .int .u64 (pat (wg i j c1' c2' c3' c4' a b o1 o2).2 : Int)]) ∧ Below w.heap.size w w' := by
  have HE := Lib.hid empty6
  have T1 := Lib.hid t1
  have T2 := Lib.hid t2
  have T3 := Lib.hid t3
  have T4 := Lib.hid t4
  have T5 := Lib.hid t5
  have T6 := Lib.hid t6
  have hp := pat_ne_max (i := i) (by omega) (by omega)
  have HW : wg i j c1' c2' c3' c4' a b o1 o2 = if 0 < c1' ∨ (c1' = 0 ∧ o2 = true) ∨ c2' < 0 ∨ (c2' = 0 ∧ o1 = true) then ((M : Int), -(M : Int)) else (if c3' < 0 then a else i, if 0 < c4' then b else j) := rfl
  obtain ⟨r, hr⟩ : ∃ r : Value, (.agg #[.int .u64 (pat (wg i j c1' c2' c3' c4' a b o1 o2).1 : Int), .int .u64 (pat (wg i j c1' c2' c3' c4' a b o1 o2).2 : Int)] : Value) = r := ⟨_, rfl⟩
  rw [hr]
  rw [HW] at hr
  obtain ⟨p, hpp⟩ : ∃ p, pat i = p := ⟨_, rfl⟩
  obtain ⟨q, hqq⟩ : ∃ q, pat j = q := ⟨_, rfl⟩
  obtain ⟨k, hkk⟩ : ∃ p, pat a = p := ⟨_, rfl⟩
  obtain ⟨l, hll⟩ : ∃ q, pat b = q := ⟨_, rfl⟩
  rw [hpp] at T1 T3 hp ⊢
  rw [hqq] at T2 T4 ⊢
  rw [hkk] at T5
  rw [hll] at T6
  have HR := Lib.hid hr
  have HPP := Lib.hid hpp
  have HQQ := Lib.hid hqq
  have HKK := Lib.hid hkk
  have HLL := Lib.hid hll
  clear hr hpp hqq hkk hll t1 t2 t3 t4 t5 t6 HW hi
  have LB0 := Lib.hid (show Below w.heap.size w (((w.alloc (.cells #[.int .u64 (p : Int), .int .u64 (q : Int)] 24)).alloc (.cells #[.bool false, .int .i64 s1, .bool g1, .slice A1 n1 c1, .slice B1 m1 d1, .int .i64 N1, .bool o1, .int .i64 s2, .bool g2, .slice A2 n2 c2, .slice B2 m2 d2, .int .i64 N2, .bool o2] 64)).alloc (.cells #[.int .u64 0, .int .u64 0] 24)) from (((below_alloc w _).alloc (by simp <;> omega) _).alloc (by simp <;> omega) _))
  have LG0_0 := Lib.hid ((((Blk.at (W := w) (g := w.heap.size) (by simp <;> omega) 24 #[.int .u64 (p : Int), .int .u64 (q : Int)]).alloc (.cells #[.bool false, .int .i64 s1, .bool g1, .slice A1 n1 c1, .slice B1 m1 d1, .int .i64 N1, .bool o1, .int .i64 s2, .bool g2, .slice A2 n2 c2, .slice B2 m2 d2, .int .i64 N2, .bool o2] 64)).alloc (.cells #[.int .u64 0, .int .u64 0] 24)))
  have LG1_0 := Lib.hid (((Blk.at (W := (w.alloc (.cells #[.int .u64 (p : Int), .int .u64 (q : Int)] 24))) (g := (w.heap.size + 1)) (by simp <;> omega) 64 #[.bool false, .int .i64 s1, .bool g1, .slice A1 n1 c1, .slice B1 m1 d1, .int .i64 N1, .bool o1, .int .i64 s2, .bool g2, .slice A2 n2 c2, .slice B2 m2 d2, .int .i64 N2, .bool o2]).alloc (.cells #[.int .u64 0, .int .u64 0] 24)))
  have LR0 := Lib.hid (HasBlk.of (n := 2) (Blk.at (W := ((w.alloc (.cells #[.int .u64 (p : Int), .int .u64 (q : Int)] 24)).alloc (.cells #[.bool false, .int .i64 s1, .bool g1, .slice A1 n1 c1, .slice B1 m1 d1, .int .i64 N1, .bool o1, .int .i64 s2, .bool g2, .slice A2 n2 c2, .slice B2 m2 d2, .int .i64 N2, .bool o2] 64))) (g := (w.heap.size + 2)) (by simp <;> omega) 24 #[.int .u64 0, .int .u64 0]) rfl rfl)
  go_enter Tryz.func88, Tryz.ntmps88
  go_wp2_with fail
  refine wp_region_held_drew (S := fun W' => Blk W' w.heap.size 24 #[.int .u64 (p : Int), .int .u64 (q : Int)] ∧ Blk W' (w.heap.size + 1) 64 #[.bool false, .int .i64 s1, .bool g1, .slice A1 n1 c1, .slice B1 m1 d1, .int .i64 N1, .bool o1, .int .i64 s2, .bool g2, .slice A2 n2 c2, .slice B2 m2 d2, .int .i64 N2, .bool o2] ∧ HasBlk W' (w.heap.size + 2) 24 2 ∧ Below w.heap.size w W') (by kernel_rfl) (by exact ⟨LG0_0.out.drew, LG1_0.out.drew, LR0.out.drew, LB0.out.drew⟩) (fun hHeld => ?_)
  refine wpAnyH_take (i := 0) (v := ?_) rfl (by kernel_rfl) (by kernel_rfl) (by kernel_rfl) (fun _ _ _ h => h) (Or.inl ⟨by rfl, ?_⟩) (by assumption) ?_
  rotate_left
  · (intro W2 hSw; go_simp; (try with_reducible rfl))
  try simp only [Act.put, List.getElem_toArray, List.getElem_cons_succ, List.getElem_cons_zero, List.setIfInBounds_toArray, List.set_cons_zero, List.set_cons_succ]
  refine wpAnyH_take (i := 1) (v := ?_) rfl (by kernel_rfl) (by kernel_rfl) (by kernel_rfl) (fun _ _ _ h => h) (Or.inl ⟨by rfl, ?_⟩) (by assumption) ?_
  rotate_left
  · (intro W2 hSw; (try dsimp only at hSw); have q0 : _ = some (.bool false : Value) := hSw.2.1.cell 0; have q1 : _ = some (.int .i64 s1 : Value) := hSw.2.1.cell 1; have q2 : _ = some (.bool g1 : Value) := hSw.2.1.cell 2; have q3 : _ = some (.slice A1 n1 c1 : Value) := hSw.2.1.cell 3; have q4 : _ = some (.slice B1 m1 d1 : Value) := hSw.2.1.cell 4; have q5 : _ = some (.int .i64 N1 : Value) := hSw.2.1.cell 5; have q6 : _ = some (.bool o1 : Value) := hSw.2.1.cell 6; have q7 : _ = some (.int .i64 s2 : Value) := hSw.2.1.cell 7; have q8 : _ = some (.bool g2 : Value) := hSw.2.1.cell 8; have q9 : _ = some (.slice A2 n2 c2 : Value) := hSw.2.1.cell 9; have q10 : _ = some (.slice B2 m2 d2 : Value) := hSw.2.1.cell 10; have q11 : _ = some (.int .i64 N2 : Value) := hSw.2.1.cell 11; have q12 : _ = some (.bool o2 : Value) := hSw.2.1.cell 12; go_simp; (try with_reducible rfl))
  try simp only [Act.put, List.getElem_toArray, List.getElem_cons_succ, List.getElem_cons_zero, List.setIfInBounds_toArray, List.set_cons_zero, List.set_cons_succ]
  refine wpAnyH_take (i := 2) (v := ?_) rfl (by kernel_rfl) (by kernel_rfl) (by kernel_rfl) (fun _ _ _ h => h) (Or.inl ⟨by rfl, ?_⟩) (by assumption) ?_
  rotate_left
  · (intro W2 hSw; go_simp; (try with_reducible rfl))
  try simp only [Act.put, List.getElem_toArray, List.getElem_cons_succ, List.getElem_cons_zero, List.setIfInBounds_toArray, List.set_cons_zero, List.set_cons_succ]
  refine wpAnyH_take (i := 3) (v := ?_) rfl (by kernel_rfl) (by kernel_rfl) (by kernel_rfl) (fun _ _ _ h => h) (Or.inl ⟨by rfl, ?_⟩) (by assumption) ?_
  rotate_left
  · (intro W2 hSw; (try dsimp only at hSw); have q0 : _ = some (.int .u64 (p : Int) : Value) := hSw.1.cell 0; have q1 : _ = some (.int .u64 (q : Int) : Value) := hSw.1.cell 1; go_simp; (try with_reducible rfl))
  try simp only [Act.put, List.getElem_toArray, List.getElem_cons_succ, List.getElem_cons_zero, List.setIfInBounds_toArray, List.set_cons_zero, List.set_cons_succ]
  refine wpAnyH_ready (rs := [4]) (by kernel_rfl) (by simp) ?_
  refine AllReadyH.cons rfl (fun KK hKK => ?_) AllReadyH.nil
  go_simp
  refine (HE.out _).mono ?_
  rintro e w1 ⟨rfl, hb1⟩
  go_wp2_with fail
  refine hKK.out _ _ (⟨hHeld.1.keep hb1, hHeld.2.1.keep hb1, hHeld.2.2.1.keep hb1, hHeld.2.2.2.trans (hb1.mono hHeld.2.2.2.size)⟩) (fun _ => ?_)
  clear hKK KK hHeld; rename_i hHeld
  try simp only [Act.put, List.getElem_toArray, List.getElem_cons_succ, List.getElem_cons_zero, List.setIfInBounds_toArray, List.set_cons_zero, List.set_cons_succ]
  refine wpAnyH_take (i := 5) (v := ?_) rfl (by kernel_rfl) (by kernel_rfl) (by kernel_rfl) (fun _ _ _ h => h) (Or.inl ⟨by rfl, ?_⟩) (by assumption) ?_
  rotate_left
  · (intro W2 hSw; go_simp; (try with_reducible rfl))
  try simp only [Act.put, List.getElem_toArray, List.getElem_cons_succ, List.getElem_cons_zero, List.setIfInBounds_toArray, List.set_cons_zero, List.set_cons_succ]
  refine wpAnyH_take (i := 6) (v := ?_) rfl (by kernel_rfl) (by kernel_rfl) (by kernel_rfl) (fun _ _ _ h => h) (Or.inl ⟨by rfl, ?_⟩) (by assumption) ?_
  rotate_left
  · (intro W2 hSw; go_simp; (try with_reducible rfl))
  try simp only [Act.put, List.getElem_toArray, List.getElem_cons_succ, List.getElem_cons_zero, List.setIfInBounds_toArray, List.set_cons_zero, List.set_cons_succ]
  refine wpAnyH_done (by kernel_rfl) ?_ _
  have LB1 := Lib.hid hHeld.2.2.2
  have LR1 := Lib.hid hHeld.2.2.1
  have LG0_1 := Lib.hid hHeld.1
  have LG1_1 := Lib.hid hHeld.2.1
  clear hHeld hb1 LB0 LR0 LG0_0 LG1_0
  have q0_0 : _ = some (.int .u64 (p : Int) : Value) := LG0_1.out.cell 0
  have q0_1 : _ = some (.int .u64 (q : Int) : Value) := LG0_1.out.cell 1
  have q1_0 : _ = some (.bool false : Value) := LG1_1.out.cell 0
  have q1_1 : _ = some (.int .i64 s1 : Value) := LG1_1.out.cell 1
  have q1_2 : _ = some (.bool g1 : Value) := LG1_1.out.cell 2
  have q1_3 : _ = some (.slice A1 n1 c1 : Value) := LG1_1.out.cell 3
  have q1_4 : _ = some (.slice B1 m1 d1 : Value) := LG1_1.out.cell 4
  have q1_5 : _ = some (.int .i64 N1 : Value) := LG1_1.out.cell 5
  have q1_6 : _ = some (.bool o1 : Value) := LG1_1.out.cell 6
  have q1_7 : _ = some (.int .i64 s2 : Value) := LG1_1.out.cell 7
  have q1_8 : _ = some (.bool g2 : Value) := LG1_1.out.cell 8
  have q1_9 : _ = some (.slice A2 n2 c2 : Value) := LG1_1.out.cell 9
  have q1_10 : _ = some (.slice B2 m2 d2 : Value) := LG1_1.out.cell 10
  have q1_11 : _ = some (.int .i64 N2 : Value) := LG1_1.out.cell 11
  have q1_12 : _ = some (.bool o2 : Value) := LG1_1.out.cell 12
  go_wp2_with fail
  refine (T1.out _ LB1.out).mono ?_
  rintro e w2 ⟨r1, rfl, hs1, hb2⟩
  have LB2 := Lib.hid (LB1.out.trans (hb2.mono LB1.out.size))
  have LR2 := Lib.hid (LR1.out.keep hb2)
  have LG0_2 := Lib.hid (LG0_1.out.keep hb2)
  have LG1_2 := Lib.hid (LG1_1.out.keep hb2)
  clear LB1 LR1 LG0_1 LG1_1
  have S1 := Lib.hid hs1
  clear hs1 hb2 q0_0 q0_1 q1_0 q1_1 q1_2 q1_3 q1_4 q1_5 q1_6 q1_7 q1_8 q1_9 q1_10 q1_11 q1_12
  have q0_0 : _ = some (.int .u64 (p : Int) : Value) := LG0_2.out.cell 0
  have q0_1 : _ = some (.int .u64 (q : Int) : Value) := LG0_2.out.cell 1
  have q1_0 : _ = some (.bool false : Value) := LG1_2.out.cell 0
  have q1_1 : _ = some (.int .i64 s1 : Value) := LG1_2.out.cell 1
  have q1_2 : _ = some (.bool g1 : Value) := LG1_2.out.cell 2
  have q1_3 : _ = some (.slice A1 n1 c1 : Value) := LG1_2.out.cell 3
  have q1_4 : _ = some (.slice B1 m1 d1 : Value) := LG1_2.out.cell 4
  have q1_5 : _ = some (.int .i64 N1 : Value) := LG1_2.out.cell 5
  have q1_6 : _ = some (.bool o1 : Value) := LG1_2.out.cell 6
  have q1_7 : _ = some (.int .i64 s2 : Value) := LG1_2.out.cell 7
  have q1_8 : _ = some (.bool g2 : Value) := LG1_2.out.cell 8
  have q1_9 : _ = some (.slice A2 n2 c2 : Value) := LG1_2.out.cell 9
  have q1_10 : _ = some (.slice B2 m2 d2 : Value) := LG1_2.out.cell 10
  have q1_11 : _ = some (.int .i64 N2 : Value) := LG1_2.out.cell 11
  have q1_12 : _ = some (.bool o2 : Value) := LG1_2.out.cell 12
  go_wp2_with fail
  refine (T2.out _ LB2.out).mono ?_
  rintro e w3 ⟨r2, rfl, hs2, hb3⟩
  have LB3 := Lib.hid (LB2.out.trans (hb3.mono LB2.out.size))
  have LR3 := Lib.hid (LR2.out.keep hb3)
  have LG0_3 := Lib.hid (LG0_2.out.keep hb3)
  have LG1_3 := Lib.hid (LG1_2.out.keep hb3)
  clear LB2 LR2 LG0_2 LG1_2
  have S2 := Lib.hid hs2
  clear hs2 hb3 q0_0 q0_1 q1_0 q1_1 q1_2 q1_3 q1_4 q1_5 q1_6 q1_7 q1_8 q1_9 q1_10 q1_11 q1_12
  have q1_6 : _ = some (.bool o1 : Value) := LG1_3.out.cell 6
  have q1_12 : _ = some (.bool o2 : Value) := LG1_3.out.cell 12
  obtain ⟨CC, hCC⟩ : ∃ x, decide (0 < c1' ∨ (c1' = 0 ∧ o2 = true) ∨ c2' < 0 ∨ (c2' = 0 ∧ o1 = true)) = x := ⟨_, rfl⟩
  go_upto_region 5 with fail
  go_cut [49] (fun s49 wx => s49 = .bool CC ∧ wx = w3)
  case first =>
    have hs1 := S1.out
    have hs2 := S2.out
    unfold SameSign at hs1 hs2
    rcases Int.lt_trichotomy 0 r1 with h | h | h
    · have hc : CC = true := by rw [← hCC]; simp <;> omega
      subst hc
      have h3 : decide (0 < r1) = true := by simp; exact h
      clear hs1 hs2 hCC h
      go_wp2_with fail
      go_meet
      exact ⟨rfl, rfl⟩
    · subst h
      cases o2
      · rcases Int.lt_trichotomy r2 0 with g | g | g
        · have hc : CC = true := by rw [← hCC]; simp <;> omega
          subst hc
          have h5 : decide (r2 < 0) = true := by simp; exact g
          clear hs1 hs2 hCC  g
          go_wp2_with fail
          go_meet
          exact ⟨rfl, rfl⟩
        · subst g
          cases o1
          · have hc : CC = false := by rw [← hCC]; simp <;> omega
            subst hc
            clear hs1 hs2 hCC 
            go_wp2_with fail
            go_meet
            exact ⟨rfl, rfl⟩
          · have hc : CC = true := by rw [← hCC]; simp <;> omega
            subst hc
            clear hs1 hs2 hCC 
            go_wp2_with fail
            go_meet
            exact ⟨rfl, rfl⟩
        · have hc : CC = false := by rw [← hCC]; simp <;> omega
          subst hc
          have h5 : decide (r2 < 0) = false := by simp; omega
          have h6 : (r2 == 0) = false := by simp; omega
          clear hs1 hs2 hCC  g
          go_wp2_with fail
          go_meet
          exact ⟨rfl, rfl⟩
      · have hc : CC = true := by rw [← hCC]; simp <;> omega
        subst hc
        clear hs1 hs2 hCC 
        go_wp2_with fail
        go_meet
        exact ⟨rfl, rfl⟩
    · have h3 : decide (0 < r1) = false := by simp; omega
      have h4 : (r1 == 0) = false := by simp; omega
      rcases Int.lt_trichotomy r2 0 with g | g | g
      · have hc : CC = true := by rw [← hCC]; simp <;> omega
        subst hc
        have h5 : decide (r2 < 0) = true := by simp; exact g
        clear hs1 hs2 hCC h g
        go_wp2_with fail
        go_meet
        exact ⟨rfl, rfl⟩
      · subst g
        cases o1
        · have hc : CC = false := by rw [← hCC]; simp <;> omega
          subst hc
          clear hs1 hs2 hCC h
          go_wp2_with fail
          go_meet
          exact ⟨rfl, rfl⟩
        · have hc : CC = true := by rw [← hCC]; simp <;> omega
          subst hc
          clear hs1 hs2 hCC h
          go_wp2_with fail
          go_meet
          exact ⟨rfl, rfl⟩
      · have hc : CC = false := by rw [← hCC]; simp <;> omega
        subst hc
        have h5 : decide (r2 < 0) = false := by simp; omega
        have h6 : (r2 == 0) = false := by simp; omega
        clear hs1 hs2 hCC h g
        go_wp2_with fail
        go_meet
        exact ⟨rfl, rfl⟩
  case rest =>
  obtain ⟨rfl, rfl⟩ := hcut
  clear T1 T2 S1 S2
  have hr := HR.out
  clear q1_6 q1_12
  cases CC
  · have hcc := of_decide_eq_false hCC
    rw [if_neg hcc] at hr
    dsimp only at hr
    have HR := Lib.hid hr
    clear hr hCC hcc
    have q0_0 : _ = some (.int .u64 (p : Int) : Value) := LG0_3.out.cell 0
    have q0_1 : _ = some (.int .u64 (q : Int) : Value) := LG0_3.out.cell 1
    go_upto_region 8 with fail
    clear q0_0 q0_1
    have hlt4 := LR3.out.lt
    have LB4 := Lib.hid (LB3.out.alloc LB3.out.size (.cells #[.int .u64 (p : Int), .int .u64 (q : Int)] 24))
    have LR4 := Lib.hid (LR3.out.alloc (.cells #[.int .u64 (p : Int), .int .u64 (q : Int)] 24))
    have LG0_4 := Lib.hid (LG0_3.out.alloc (.cells #[.int .u64 (p : Int), .int .u64 (q : Int)] 24))
    have LG1_4 := Lib.hid (LG1_3.out.alloc (.cells #[.int .u64 (p : Int), .int .u64 (q : Int)] 24))
    have LG2_4 := Lib.hid (Blk.new wc 24 #[.int .u64 (p : Int), .int .u64 (q : Int)])
    clear LB3 LR3 LG0_3 LG1_3
    obtain ⟨V4, hV4⟩ : ∃ X, (wc.alloc (.cells #[.int .u64 (p : Int), .int .u64 (q : Int)] 24)) = X := ⟨_, rfl⟩
    rw [hV4] at LB4 LR4 LG0_4 LG1_4 LG2_4 ⊢
    clear hV4
    have q0_0 : _ = some (.int .u64 (p : Int) : Value) := LG0_4.out.cell 0
    have q0_1 : _ = some (.int .u64 (q : Int) : Value) := LG0_4.out.cell 1
    have q1_0 : _ = some (.bool false : Value) := LG1_4.out.cell 0
    have q1_1 : _ = some (.int .i64 s1 : Value) := LG1_4.out.cell 1
    have q1_2 : _ = some (.bool g1 : Value) := LG1_4.out.cell 2
    have q1_3 : _ = some (.slice A1 n1 c1 : Value) := LG1_4.out.cell 3
    have q1_4 : _ = some (.slice B1 m1 d1 : Value) := LG1_4.out.cell 4
    have q1_5 : _ = some (.int .i64 N1 : Value) := LG1_4.out.cell 5
    have q1_6 : _ = some (.bool o1 : Value) := LG1_4.out.cell 6
    have q1_7 : _ = some (.int .i64 s2 : Value) := LG1_4.out.cell 7
    have q1_8 : _ = some (.bool g2 : Value) := LG1_4.out.cell 8
    have q1_9 : _ = some (.slice A2 n2 c2 : Value) := LG1_4.out.cell 9
    have q1_10 : _ = some (.slice B2 m2 d2 : Value) := LG1_4.out.cell 10
    have q1_11 : _ = some (.int .i64 N2 : Value) := LG1_4.out.cell 11
    have q1_12 : _ = some (.bool o2 : Value) := LG1_4.out.cell 12
    go_wp2_with fail
    refine (T3.out _ LB4.out).mono ?_
    rintro e w5 ⟨r3, rfl, hs3, hb5⟩
    have LB5 := Lib.hid (LB4.out.trans (hb5.mono LB4.out.size))
    have LR5 := Lib.hid (LR4.out.keep hb5)
    have LG0_5 := Lib.hid (LG0_4.out.keep hb5)
    have LG1_5 := Lib.hid (LG1_4.out.keep hb5)
    have LG2_5 := Lib.hid (LG2_4.out.keep hb5)
    clear LB4 LR4 LG0_4 LG1_4 LG2_4
    unfold SameSign at hs3
    clear hb5 q0_0 q0_1 q1_0 q1_1 q1_2 q1_3 q1_4 q1_5 q1_6 q1_7 q1_8 q1_9 q1_10 q1_11 q1_12
    by_cases hlo : c3' < 0
    · have hq3 : r3 < 0 := by omega
      have MX : (if c3' < 0 then a else i) = a := by rw [if_pos hlo]
      clear hs3
      have q1_0 : _ = some (.bool false : Value) := LG1_5.out.cell 0
      have q1_1 : _ = some (.int .i64 s1 : Value) := LG1_5.out.cell 1
      have q1_2 : _ = some (.bool g1 : Value) := LG1_5.out.cell 2
      have q1_3 : _ = some (.slice A1 n1 c1 : Value) := LG1_5.out.cell 3
      have q1_4 : _ = some (.slice B1 m1 d1 : Value) := LG1_5.out.cell 4
      have q1_5 : _ = some (.int .i64 N1 : Value) := LG1_5.out.cell 5
      have q1_6 : _ = some (.bool o1 : Value) := LG1_5.out.cell 6
      have q1_7 : _ = some (.int .i64 s2 : Value) := LG1_5.out.cell 7
      have q1_8 : _ = some (.bool g2 : Value) := LG1_5.out.cell 8
      have q1_9 : _ = some (.slice A2 n2 c2 : Value) := LG1_5.out.cell 9
      have q1_10 : _ = some (.slice B2 m2 d2 : Value) := LG1_5.out.cell 10
      have q1_11 : _ = some (.int .i64 N2 : Value) := LG1_5.out.cell 11
      have q1_12 : _ = some (.bool o2 : Value) := LG1_5.out.cell 12
      go_wp2_with fail
      refine (T5.out _ LB5.out hlo).mono ?_
      rintro e w6 ⟨rfl, hb6⟩
      have LB6 := Lib.hid (LB5.out.trans (hb6.mono LB5.out.size))
      have LR6 := Lib.hid (LR5.out.keep hb6)
      have LG0_6 := Lib.hid (LG0_5.out.keep hb6)
      have LG1_6 := Lib.hid (LG1_5.out.keep hb6)
      have LG2_6 := Lib.hid (LG2_5.out.keep hb6)
      clear LB5 LR5 LG0_5 LG1_5 LG2_5
      clear hb6 hlo q1_0 q1_1 q1_2 q1_3 q1_4 q1_5 q1_6 q1_7 q1_8 q1_9 q1_10 q1_11 q1_12
      have q2_0 : _ = some (.int .u64 (p : Int) : Value) := LG2_6.out.cell 0
      have hf1 := LG2_6.out.frozen 0
      go_upto_region 10 with fail
      clear q2_0 hf1
      have hlo2 := LR6.out.lt
      have LB7 := Lib.hid (LB6.out.setCell (p := ⟨wc.heap.size, 0, none⟩) (show w.heap.size ≤ wc.heap.size by omega) (.int .u64 (k : Int)))
      have LR7 := Lib.hid (show HasBlk (w6.setCell ⟨wc.heap.size, 0, none⟩ (.int .u64 (k : Int))) (w.heap.size + 2) 24 2 from LR6.out.other (by omega) 0 [.int .u64 (k : Int)])
      have LG0_7 := Lib.hid (show Blk (w6.setCell ⟨wc.heap.size, 0, none⟩ (.int .u64 (k : Int))) w.heap.size 24 #[.int .u64 (p : Int), .int .u64 (q : Int)] from LG0_6.out.other (by omega) 0 [.int .u64 (k : Int)])
      have LG1_7 := Lib.hid (show Blk (w6.setCell ⟨wc.heap.size, 0, none⟩ (.int .u64 (k : Int))) (w.heap.size + 1) 64 #[.bool false, .int .i64 s1, .bool g1, .slice A1 n1 c1, .slice B1 m1 d1, .int .i64 N1, .bool o1, .int .i64 s2, .bool g2, .slice A2 n2 c2, .slice B2 m2 d2, .int .i64 N2, .bool o2] from LG1_6.out.other (by omega) 0 [.int .u64 (k : Int)])
      have LG2_7 := Lib.hid (LG2_6.out.set 0 (.int .u64 (k : Int)))
      clear LB6 LR6 LG0_6 LG1_6 LG2_6
      obtain ⟨V6, hV6⟩ : ∃ X, w6.setCell ⟨wc.heap.size, 0, none⟩ (.int .u64 (k : Int)) = X := ⟨_, rfl⟩
      rw [hV6] at LB7 LR7 LG0_7 LG1_7 LG2_7 ⊢
      clear hV6
      have q0_0 : _ = some (.int .u64 (p : Int) : Value) := LG0_7.out.cell 0
      have q0_1 : _ = some (.int .u64 (q : Int) : Value) := LG0_7.out.cell 1
      have q1_0 : _ = some (.bool false : Value) := LG1_7.out.cell 0
      have q1_1 : _ = some (.int .i64 s1 : Value) := LG1_7.out.cell 1
      have q1_2 : _ = some (.bool g1 : Value) := LG1_7.out.cell 2
      have q1_3 : _ = some (.slice A1 n1 c1 : Value) := LG1_7.out.cell 3
      have q1_4 : _ = some (.slice B1 m1 d1 : Value) := LG1_7.out.cell 4
      have q1_5 : _ = some (.int .i64 N1 : Value) := LG1_7.out.cell 5
      have q1_6 : _ = some (.bool o1 : Value) := LG1_7.out.cell 6
      have q1_7 : _ = some (.int .i64 s2 : Value) := LG1_7.out.cell 7
      have q1_8 : _ = some (.bool g2 : Value) := LG1_7.out.cell 8
      have q1_9 : _ = some (.slice A2 n2 c2 : Value) := LG1_7.out.cell 9
      have q1_10 : _ = some (.slice B2 m2 d2 : Value) := LG1_7.out.cell 10
      have q1_11 : _ = some (.int .i64 N2 : Value) := LG1_7.out.cell 11
      have q1_12 : _ = some (.bool o2 : Value) := LG1_7.out.cell 12
      go_wp2_with fail
      refine (T4.out _ LB7.out).mono ?_
      rintro e w7 ⟨r4, rfl, hs4, hb7⟩
      have LB8 := Lib.hid (LB7.out.trans (hb7.mono LB7.out.size))
      have LR8 := Lib.hid (LR7.out.keep hb7)
      have LG0_8 := Lib.hid (LG0_7.out.keep hb7)
      have LG1_8 := Lib.hid (LG1_7.out.keep hb7)
      have LG2_8 := Lib.hid (LG2_7.out.keep hb7)
      clear LB7 LR7 LG0_7 LG1_7 LG2_7
      unfold SameSign at hs4
      clear hb7 q0_0 q0_1 q1_0 q1_1 q1_2 q1_3 q1_4 q1_5 q1_6 q1_7 q1_8 q1_9 q1_10 q1_11 q1_12
      by_cases hhi : 0 < c4'
      · have hq4 : 0 < r4 := by omega
        have MN : (if 0 < c4' then b else j) = b := by rw [if_pos hhi]
        clear hs4
        have q1_0 : _ = some (.bool false : Value) := LG1_8.out.cell 0
        have q1_1 : _ = some (.int .i64 s1 : Value) := LG1_8.out.cell 1
        have q1_2 : _ = some (.bool g1 : Value) := LG1_8.out.cell 2
        have q1_3 : _ = some (.slice A1 n1 c1 : Value) := LG1_8.out.cell 3
        have q1_4 : _ = some (.slice B1 m1 d1 : Value) := LG1_8.out.cell 4
        have q1_5 : _ = some (.int .i64 N1 : Value) := LG1_8.out.cell 5
        have q1_6 : _ = some (.bool o1 : Value) := LG1_8.out.cell 6
        have q1_7 : _ = some (.int .i64 s2 : Value) := LG1_8.out.cell 7
        have q1_8 : _ = some (.bool g2 : Value) := LG1_8.out.cell 8
        have q1_9 : _ = some (.slice A2 n2 c2 : Value) := LG1_8.out.cell 9
        have q1_10 : _ = some (.slice B2 m2 d2 : Value) := LG1_8.out.cell 10
        have q1_11 : _ = some (.int .i64 N2 : Value) := LG1_8.out.cell 11
        have q1_12 : _ = some (.bool o2 : Value) := LG1_8.out.cell 12
        go_wp2_with fail
        refine (T6.out _ LB8.out hhi).mono ?_
        rintro e w8 ⟨rfl, hb8⟩
        have LB9 := Lib.hid (LB8.out.trans (hb8.mono LB8.out.size))
        have LR9 := Lib.hid (LR8.out.keep hb8)
        have LG0_9 := Lib.hid (LG0_8.out.keep hb8)
        have LG1_9 := Lib.hid (LG1_8.out.keep hb8)
        have LG2_9 := Lib.hid (LG2_8.out.keep hb8)
        clear LB8 LR8 LG0_8 LG1_8 LG2_8
        clear hb8 hhi q1_0 q1_1 q1_2 q1_3 q1_4 q1_5 q1_6 q1_7 q1_8 q1_9 q1_10 q1_11 q1_12
        have q2_1 : _ = some (.int .u64 (q : Int) : Value) := LG2_9.out.cell 1
        have hf1 := LG2_9.out.frozen 1
        go_upto_region 12 with fail
        clear q2_1 hf1
        have LB10 := Lib.hid (LB9.out.setCell (p := ⟨wc.heap.size, 1, none⟩) (show w.heap.size ≤ wc.heap.size by omega) (.int .u64 (l : Int)))
        have LR10 := Lib.hid (show HasBlk (w8.setCell ⟨wc.heap.size, 1, none⟩ (.int .u64 (l : Int))) (w.heap.size + 2) 24 2 from LR9.out.other (by omega) 1 [.int .u64 (l : Int)])
        have LG0_10 := Lib.hid (show Blk (w8.setCell ⟨wc.heap.size, 1, none⟩ (.int .u64 (l : Int))) w.heap.size 24 #[.int .u64 (p : Int), .int .u64 (q : Int)] from LG0_9.out.other (by omega) 1 [.int .u64 (l : Int)])
        have LG1_10 := Lib.hid (show Blk (w8.setCell ⟨wc.heap.size, 1, none⟩ (.int .u64 (l : Int))) (w.heap.size + 1) 64 #[.bool false, .int .i64 s1, .bool g1, .slice A1 n1 c1, .slice B1 m1 d1, .int .i64 N1, .bool o1, .int .i64 s2, .bool g2, .slice A2 n2 c2, .slice B2 m2 d2, .int .i64 N2, .bool o2] from LG1_9.out.other (by omega) 1 [.int .u64 (l : Int)])
        have LG2_10 := Lib.hid (LG2_9.out.set 1 (.int .u64 (l : Int)))
        clear LB9 LR9 LG0_9 LG1_9 LG2_9
        obtain ⟨V8, hV8⟩ : ∃ X, w8.setCell ⟨wc.heap.size, 1, none⟩ (.int .u64 (l : Int)) = X := ⟨_, rfl⟩
        rw [hV8] at LB10 LR10 LG0_10 LG1_10 LG2_10 ⊢
        clear hV8
        have q2_0 : _ = some (.int .u64 (k : Int) : Value) := LG2_10.out.cell 0
        have q2_1 : _ = some (.int .u64 (l : Int) : Value) := LG2_10.out.cell 1
        have HRV : r = .agg #[.int .u64 (k : Int), .int .u64 (l : Int)] := by rw [← HR.out, MX, MN, HKK.out, HLL.out]
        have ha0 := LR10.out.someCell 0 (by decide)
        have hf0 := LR10.out.frozen 0
        have ha1 := LR10.out.someCell 1 (by decide)
        have hf1 := LR10.out.frozen 1
        have hk0 := LR10.out.setCell [.int .u64 (k : Int), .int .u64 (l : Int)] rfl 0 (by decide)
        have hk1 := LR10.out.setCell [.int .u64 (k : Int), .int .u64 (l : Int)] rfl 1 (by decide)
        have F := Lib.hid (below_sets (w0 := w) (r := (w.heap.size + 2)) (by omega) [.int .u64 (k : Int), .int .u64 (l : Int)] 0 _ LB10.out)
        simp [sets] at hk0 hk1
        have HV := Lib.hid HRV
        clear HRV T3 T4 T5 T6 HE MX MN
        go_wp2
        refine bodyPost_ret (v := .agg #[.int .u64 (k : Int), .int .u64 (l : Int)]) (by simp [results, Tryz.results88, go_sem, hk0, hk1]) rfl ?_
        exact ⟨by rw [HV.out], F.out⟩
      · have hq4 : ¬ 0 < r4 := by omega
        have MN : (if 0 < c4' then b else j) = j := by rw [if_neg hhi]
        clear hs4
        clear hhi
        have q2_0 : _ = some (.int .u64 (k : Int) : Value) := LG2_8.out.cell 0
        have q2_1 : _ = some (.int .u64 (q : Int) : Value) := LG2_8.out.cell 1
        have HRV : r = .agg #[.int .u64 (k : Int), .int .u64 (q : Int)] := by rw [← HR.out, MX, MN, HKK.out, HQQ.out]
        have ha0 := LR8.out.someCell 0 (by decide)
        have hf0 := LR8.out.frozen 0
        have ha1 := LR8.out.someCell 1 (by decide)
        have hf1 := LR8.out.frozen 1
        have hk0 := LR8.out.setCell [.int .u64 (k : Int), .int .u64 (q : Int)] rfl 0 (by decide)
        have hk1 := LR8.out.setCell [.int .u64 (k : Int), .int .u64 (q : Int)] rfl 1 (by decide)
        have F := Lib.hid (below_sets (w0 := w) (r := (w.heap.size + 2)) (by omega) [.int .u64 (k : Int), .int .u64 (q : Int)] 0 _ LB8.out)
        simp [sets] at hk0 hk1
        have HV := Lib.hid HRV
        clear HRV T3 T4 T5 T6 HE MX MN
        go_wp2
        refine bodyPost_ret (v := .agg #[.int .u64 (k : Int), .int .u64 (q : Int)]) (by simp [results, Tryz.results88, go_sem, hk0, hk1]) rfl ?_
        exact ⟨by rw [HV.out], F.out⟩
    · have hq3 : ¬ r3 < 0 := by omega
      have MX : (if c3' < 0 then a else i) = i := by rw [if_neg hlo]
      clear hs3
      clear hlo
      have q0_0 : _ = some (.int .u64 (p : Int) : Value) := LG0_5.out.cell 0
      have q0_1 : _ = some (.int .u64 (q : Int) : Value) := LG0_5.out.cell 1
      have q1_0 : _ = some (.bool false : Value) := LG1_5.out.cell 0
      have q1_1 : _ = some (.int .i64 s1 : Value) := LG1_5.out.cell 1
      have q1_2 : _ = some (.bool g1 : Value) := LG1_5.out.cell 2
      have q1_3 : _ = some (.slice A1 n1 c1 : Value) := LG1_5.out.cell 3
      have q1_4 : _ = some (.slice B1 m1 d1 : Value) := LG1_5.out.cell 4
      have q1_5 : _ = some (.int .i64 N1 : Value) := LG1_5.out.cell 5
      have q1_6 : _ = some (.bool o1 : Value) := LG1_5.out.cell 6
      have q1_7 : _ = some (.int .i64 s2 : Value) := LG1_5.out.cell 7
      have q1_8 : _ = some (.bool g2 : Value) := LG1_5.out.cell 8
      have q1_9 : _ = some (.slice A2 n2 c2 : Value) := LG1_5.out.cell 9
      have q1_10 : _ = some (.slice B2 m2 d2 : Value) := LG1_5.out.cell 10
      have q1_11 : _ = some (.int .i64 N2 : Value) := LG1_5.out.cell 11
      have q1_12 : _ = some (.bool o2 : Value) := LG1_5.out.cell 12
      go_wp2_with fail
      refine (T4.out _ LB5.out).mono ?_
      rintro e w7 ⟨r4, rfl, hs4, hb7⟩
      have LB6 := Lib.hid (LB5.out.trans (hb7.mono LB5.out.size))
      have LR6 := Lib.hid (LR5.out.keep hb7)
      have LG0_6 := Lib.hid (LG0_5.out.keep hb7)
      have LG1_6 := Lib.hid (LG1_5.out.keep hb7)
      have LG2_6 := Lib.hid (LG2_5.out.keep hb7)
      clear LB5 LR5 LG0_5 LG1_5 LG2_5
      unfold SameSign at hs4
      clear hb7 q0_0 q0_1 q1_0 q1_1 q1_2 q1_3 q1_4 q1_5 q1_6 q1_7 q1_8 q1_9 q1_10 q1_11 q1_12
      by_cases hhi : 0 < c4'
      · have hq4 : 0 < r4 := by omega
        have MN : (if 0 < c4' then b else j) = b := by rw [if_pos hhi]
        clear hs4
        have q1_0 : _ = some (.bool false : Value) := LG1_6.out.cell 0
        have q1_1 : _ = some (.int .i64 s1 : Value) := LG1_6.out.cell 1
        have q1_2 : _ = some (.bool g1 : Value) := LG1_6.out.cell 2
        have q1_3 : _ = some (.slice A1 n1 c1 : Value) := LG1_6.out.cell 3
        have q1_4 : _ = some (.slice B1 m1 d1 : Value) := LG1_6.out.cell 4
        have q1_5 : _ = some (.int .i64 N1 : Value) := LG1_6.out.cell 5
        have q1_6 : _ = some (.bool o1 : Value) := LG1_6.out.cell 6
        have q1_7 : _ = some (.int .i64 s2 : Value) := LG1_6.out.cell 7
        have q1_8 : _ = some (.bool g2 : Value) := LG1_6.out.cell 8
        have q1_9 : _ = some (.slice A2 n2 c2 : Value) := LG1_6.out.cell 9
        have q1_10 : _ = some (.slice B2 m2 d2 : Value) := LG1_6.out.cell 10
        have q1_11 : _ = some (.int .i64 N2 : Value) := LG1_6.out.cell 11
        have q1_12 : _ = some (.bool o2 : Value) := LG1_6.out.cell 12
        go_wp2_with fail
        refine (T6.out _ LB6.out hhi).mono ?_
        rintro e w8 ⟨rfl, hb8⟩
        have LB7 := Lib.hid (LB6.out.trans (hb8.mono LB6.out.size))
        have LR7 := Lib.hid (LR6.out.keep hb8)
        have LG0_7 := Lib.hid (LG0_6.out.keep hb8)
        have LG1_7 := Lib.hid (LG1_6.out.keep hb8)
        have LG2_7 := Lib.hid (LG2_6.out.keep hb8)
        clear LB6 LR6 LG0_6 LG1_6 LG2_6
        clear hb8 hhi q1_0 q1_1 q1_2 q1_3 q1_4 q1_5 q1_6 q1_7 q1_8 q1_9 q1_10 q1_11 q1_12
        have q2_1 : _ = some (.int .u64 (q : Int) : Value) := LG2_7.out.cell 1
        have hf1 := LG2_7.out.frozen 1
        go_upto_region 12 with fail
        clear q2_1 hf1
        have LB8 := Lib.hid (LB7.out.setCell (p := ⟨wc.heap.size, 1, none⟩) (show w.heap.size ≤ wc.heap.size by omega) (.int .u64 (l : Int)))
        have LR8 := Lib.hid (show HasBlk (w8.setCell ⟨wc.heap.size, 1, none⟩ (.int .u64 (l : Int))) (w.heap.size + 2) 24 2 from LR7.out.other (by omega) 1 [.int .u64 (l : Int)])
        have LG0_8 := Lib.hid (show Blk (w8.setCell ⟨wc.heap.size, 1, none⟩ (.int .u64 (l : Int))) w.heap.size 24 #[.int .u64 (p : Int), .int .u64 (q : Int)] from LG0_7.out.other (by omega) 1 [.int .u64 (l : Int)])
        have LG1_8 := Lib.hid (show Blk (w8.setCell ⟨wc.heap.size, 1, none⟩ (.int .u64 (l : Int))) (w.heap.size + 1) 64 #[.bool false, .int .i64 s1, .bool g1, .slice A1 n1 c1, .slice B1 m1 d1, .int .i64 N1, .bool o1, .int .i64 s2, .bool g2, .slice A2 n2 c2, .slice B2 m2 d2, .int .i64 N2, .bool o2] from LG1_7.out.other (by omega) 1 [.int .u64 (l : Int)])
        have LG2_8 := Lib.hid (LG2_7.out.set 1 (.int .u64 (l : Int)))
        clear LB7 LR7 LG0_7 LG1_7 LG2_7
        obtain ⟨V8, hV8⟩ : ∃ X, w8.setCell ⟨wc.heap.size, 1, none⟩ (.int .u64 (l : Int)) = X := ⟨_, rfl⟩
        rw [hV8] at LB8 LR8 LG0_8 LG1_8 LG2_8 ⊢
        clear hV8
        have q2_0 : _ = some (.int .u64 (p : Int) : Value) := LG2_8.out.cell 0
        have q2_1 : _ = some (.int .u64 (l : Int) : Value) := LG2_8.out.cell 1
        have HRV : r = .agg #[.int .u64 (p : Int), .int .u64 (l : Int)] := by rw [← HR.out, MX, MN, HPP.out, HLL.out]
        have ha0 := LR8.out.someCell 0 (by decide)
        have hf0 := LR8.out.frozen 0
        have ha1 := LR8.out.someCell 1 (by decide)
        have hf1 := LR8.out.frozen 1
        have hk0 := LR8.out.setCell [.int .u64 (p : Int), .int .u64 (l : Int)] rfl 0 (by decide)
        have hk1 := LR8.out.setCell [.int .u64 (p : Int), .int .u64 (l : Int)] rfl 1 (by decide)
        have F := Lib.hid (below_sets (w0 := w) (r := (w.heap.size + 2)) (by omega) [.int .u64 (p : Int), .int .u64 (l : Int)] 0 _ LB8.out)
        simp [sets] at hk0 hk1
        have HV := Lib.hid HRV
        clear HRV T3 T4 T5 T6 HE MX MN
        go_wp2
        refine bodyPost_ret (v := .agg #[.int .u64 (p : Int), .int .u64 (l : Int)]) (by simp [results, Tryz.results88, go_sem, hk0, hk1]) rfl ?_
        exact ⟨by rw [HV.out], F.out⟩
      · have hq4 : ¬ 0 < r4 := by omega
        have MN : (if 0 < c4' then b else j) = j := by rw [if_neg hhi]
        clear hs4
        clear hhi
        have q2_0 : _ = some (.int .u64 (p : Int) : Value) := LG2_6.out.cell 0
        have q2_1 : _ = some (.int .u64 (q : Int) : Value) := LG2_6.out.cell 1
        have HRV : r = .agg #[.int .u64 (p : Int), .int .u64 (q : Int)] := by rw [← HR.out, MX, MN, HPP.out, HQQ.out]
        have ha0 := LR6.out.someCell 0 (by decide)
        have hf0 := LR6.out.frozen 0
        have ha1 := LR6.out.someCell 1 (by decide)
        have hf1 := LR6.out.frozen 1
        have hk0 := LR6.out.setCell [.int .u64 (p : Int), .int .u64 (q : Int)] rfl 0 (by decide)
        have hk1 := LR6.out.setCell [.int .u64 (p : Int), .int .u64 (q : Int)] rfl 1 (by decide)
        have F := Lib.hid (below_sets (w0 := w) (r := (w.heap.size + 2)) (by omega) [.int .u64 (p : Int), .int .u64 (q : Int)] 0 _ LB6.out)
        simp [sets] at hk0 hk1
        have HV := Lib.hid HRV
        clear HRV T3 T4 T5 T6 HE MX MN
        go_wp2
        refine bodyPost_ret (v := .agg #[.int .u64 (p : Int), .int .u64 (q : Int)]) (by simp [results, Tryz.results88, go_sem, hk0, hk1]) rfl ?_
        exact ⟨by rw [HV.out], F.out⟩
  · have hcc := of_decide_eq_true hCC
    rw [if_pos hcc] at hr
    simp only [pat_max, pat_min] at hr
    have HR := Lib.hid hr
    clear hr hCC hcc
    go_wp2_with fail
    refine (HE.out _).mono ?_
    rintro e w4 ⟨rfl, hb4⟩
    have LB4 := Lib.hid (LB3.out.trans (hb4.mono LB3.out.size))
    have LR4 := Lib.hid (LR3.out.keep hb4)
    have LG0_4 := Lib.hid (LG0_3.out.keep hb4)
    have LG1_4 := Lib.hid (LG1_3.out.keep hb4)
    clear LB3 LR3 LG0_3 LG1_3
    have ha0 := LR4.out.someCell 0 (by decide)
    have hf0 := LR4.out.frozen 0
    have ha1 := LR4.out.someCell 1 (by decide)
    have hf1 := LR4.out.frozen 1
    have hk0 := LR4.out.setCell [.int .u64 9218868437227405312, .int .u64 18442240474082181120] rfl 0 (by decide)
    have hk1 := LR4.out.setCell [.int .u64 9218868437227405312, .int .u64 18442240474082181120] rfl 1 (by decide)
    have F := Lib.hid (below_sets (w0 := w) (r := (w.heap.size + 2)) (by omega) [.int .u64 9218868437227405312, .int .u64 18442240474082181120] 0 _ LB4.out)
    simp [sets] at hk0 hk1
    clear hb4 T3 T4 T5 T6
    go_wp2
    refine bodyPost_ret (v := .agg #[.int .u64 9218868437227405312, .int .u64 18442240474082181120]) (by simp [results, Tryz.results88, go_sem, hk0, hk1]) rfl ?_
    exact ⟨by rw [← HR.out]; rfl, F.out⟩

end Go.Proofs.YtmjkmoahkanblaaGreat
