/-
Walks: package rev, read.
Walks: package vergelaw10, in and out; package rev, mirror.
-/
import Derived.Test.YtmjkmoahkanblaaGreatPIntsT
import Derived.Deep.DeepCutAuto
import Derived.Test.YtmjkmoahkanblaaGreatPGoA
set_option linter.unusedSimpArgs false
set_option linter.unusedVariables false

namespace Go.Proofs.YtmjkmoahkanblaaGreat
open Go.RowKit
attribute [local go_sem] run_store_float run_eqf

/-- A box of two floats. -/
def Bx (w : World) (g p q : Nat) : Prop := Blk w g 29 #[.float .f64 p, .float .f64 q]
theorem Bx.keep {w w' : World} {g p q : Nat} (h : Bx w g p q) (hb : Below w.heap.size w w') : Bx w' g p q := Blk.keep h hb
theorem Bx.set {w : World} {g p q : Nat} (h : Bx w g p q) (a b : Nat) : Bx ((w.setCell ⟨g, 0, none⟩ (.float .f64 a)).setCell ⟨g, 1, none⟩ (.float .f64 b)) g a b := by
  have h1 := Blk.sets [.float .f64 a, .float .f64 b] 0 _ _ h
  unfold Bx
  simpa [laid, sets] using h1
theorem Bx.far {w : World} {g p q r : Nat} (h : Bx w g p q) (hr : g ≠ r) (a b : Value) : Bx ((w.setCell ⟨r, 0, none⟩ a).setCell ⟨r, 1, none⟩ b) g p q := Blk.other h hr 0 [a, b]
/-- All is as it was but three blocks. -/
structure Kp (g0 g1 g2 : Nat) (w w' : World) : Prop where
  os : w'.os = w.os
  tape : w'.tape = w.tape
  output : w'.output = w.output
  size : w.heap.size ≤ w'.heap.size
  block : ∀ k, k < w.heap.size → k ≠ g0 → k ≠ g1 → k ≠ g2 → w'.heap[k]? = w.heap[k]?
theorem Kp.refl (g0 g1 g2 : Nat) (w : World) : Kp g0 g1 g2 w w := ⟨rfl, rfl, rfl, Nat.le_refl _, fun _ _ _ _ _ => rfl⟩
theorem Kp.below {g0 g1 g2 : Nat} {w w1 w2 : World} (h : Kp g0 g1 g2 w w1) (hb : Below w1.heap.size w1 w2) : Kp g0 g1 g2 w w2 :=
  ⟨hb.os.trans h.os, hb.tape.trans h.tape, hb.output.trans h.output, Nat.le_trans h.size hb.size, fun k hk a b c => (hb.block k (Nat.lt_of_lt_of_le hk h.size)).trans (h.block k hk a b c)⟩
theorem Kp.set {g0 g1 g2 r : Nat} {w w1 : World} (h : Kp g0 g1 g2 w w1) (hr : r = g0 ∨ r = g1 ∨ r = g2) (a b : Value) : Kp g0 g1 g2 w ((w1.setCell ⟨r, 0, none⟩ a).setCell ⟨r, 1, none⟩ b) :=
  ⟨h.os, h.tape, h.output, by have := size_sets (r := r) [a, b] 0 w1; have := h.size; show w.heap.size ≤ (sets w1 r 0 [a, b]).heap.size; omega,
   fun k hk x y z => (heap_sets (r := r) (k := k) (by rintro rfl; rcases hr with e | e | e <;> contradiction) [a, b] 0 w1).trans (h.block k hk x y z)⟩
theorem Kp.cell {g0 g1 g2 : Nat} {w w1 : World} (h : Kp g0 g1 g2 w w1) {ad : Addr} {v : Value} (hc : w.cell? ad = some v) (h0 : ad.block ≠ g0) (h1 : ad.block ≠ g1) (h2 : ad.block ≠ g2) : w1.cell? ad = some v := by
  have hlt : ad.block < w.heap.size := by
    unfold World.cell? at hc
    split at hc
    · rename_i e
      exact (Array.getElem?_eq_some_iff.1 e).1
    · cases hc
  rw [World.cell?_of_block (w := w)]
  · exact hc
  · exact h.block _ hlt h0 h1 h2

set_option maxHeartbeats 12800000 in
theorem read_three (x0 y0 x1 y1 x2 y2 p0 q0 p1 q1 p2 q2 g0 g1 g2 gl cap : Nat) (a0 a1 a2 : Bool) (w : World) (n01 : g0 ≠ g1) (n02 : g0 ≠ g2) (n12 : g1 ≠ g2) (l0 : gl ≠ g0) (l1 : gl ≠ g1) (l2 : gl ≠ g2)
    (hc0 : w.cell? ⟨gl, 0, none⟩ = some (.pointer (some ⟨g0, 0, none⟩))) (hc1 : w.cell? ⟨gl, 1, none⟩ = some (.pointer (some ⟨g1, 0, none⟩))) (hc2 : w.cell? ⟨gl, 2, none⟩ = some (.pointer (some ⟨g2, 0, none⟩)))
    (b0 : Bx w g0 x0 y0) (b1 : Bx w g1 x1 y1) (b2 : Bx w g2 x2 y2)
    (h0 : ∀ W, Calls Tryz.prog 119 #[.agg #[.float .f64 x0, .float .f64 y0]] W fun e w' => e = .returned (.agg #[.float .f64 p0, .float .f64 q0]) ∧ Below W.heap.size W w')
    (h1 : ∀ W, Calls Tryz.prog 119 #[.agg #[.float .f64 x1, .float .f64 y1]] W fun e w' => e = .returned (.agg #[.float .f64 p1, .float .f64 q1]) ∧ Below W.heap.size W w')
    (h2 : ∀ W, Calls Tryz.prog 119 #[.agg #[.float .f64 x2, .float .f64 y2]] W fun e w' => e = .returned (.agg #[.float .f64 p2, .float .f64 q2]) ∧ Below W.heap.size W w')
    (e0 : Em a0 p0 q0) (e1 : Em a1 p1 q1) (e2 : Em a2 p2 q2) :
    Calls Tryz.prog 50 #[.slice (some ⟨gl, 0, none⟩) 3 cap] w fun e w' => e = .returned (.bool (a0 || a1 || a2)) ∧ Bx w' g0 p0 q0 ∧ Bx w' g1 p1 q1 ∧ Bx w' g2 p2 q2 ∧ Kp g0 g1 g2 w w' := by
  have H0 := Lib.hid h0
  have H1 := Lib.hid h1
  have H2 := Lib.hid h2
  have E0 := Lib.hid e0
  have E1 := Lib.hid e1
  have E2 := Lib.hid e2
  have HE := Lib.hid emptyf
  have C0 := Lib.hid hc0
  have C1 := Lib.hid hc1
  have C2 := Lib.hid hc2
  have B0 := Lib.hid b0
  have B1 := Lib.hid b1
  have B2 := Lib.hid b2
  obtain ⟨nf, hnf⟩ : ∃ f : Nat → Bool, f = fun k => (decide (0 < k) && a0) || (decide (1 < k) && a1) || (decide (2 < k) && a2) := ⟨_, rfl⟩
  have N0 : nf 0 = false := by rw [hnf]; rfl
  have N1 : nf 1 = a0 := by rw [hnf]; cases a0 <;> cases a1 <;> cases a2 <;> rfl
  have N2 : nf 2 = (a0 || a1) := by rw [hnf]; cases a0 <;> cases a1 <;> cases a2 <;> rfl
  have N3 : nf 3 = (a0 || a1 || a2) := by rw [hnf]; cases a0 <;> cases a1 <;> cases a2 <;> rfl
  have X0 : nf 1 = (nf 0 || a0) := by rw [N0, N1]; rfl
  have X1 : nf 2 = (nf 1 || a1) := by rw [N1, N2]
  have X2 : nf 3 = (nf 2 || a2) := by rw [N2, N3]
  have HX0 := Lib.hid X0
  have HX1 := Lib.hid X1
  have HX2 := Lib.hid X2
  rw [← N3]
  have NN0 := Lib.hid N0
  have NN1 := Lib.hid N1
  have NN2 := Lib.hid N2
  have NN3 := Lib.hid N3
  clear h0 h1 h2 e0 e1 e2 hc0 hc1 hc2 b0 b1 b2 hnf N0 N1 N2 N3 X0 X1 X2
  go_enter Tryz.func50, Tryz.ntmps50
  go_wp2_with fail
  go_loopw [3, 5, 8] (fun nv _ iv wr => ∃ k : Nat, iv = .int .i64 (k : Int) ∧ nv = .bool (nf k) ∧ Kp g0 g1 g2 w wr ∧
    ((k = 0 ∧ Bx wr g0 x0 y0 ∧ Bx wr g1 x1 y1 ∧ Bx wr g2 x2 y2) ∨ (k = 1 ∧ Bx wr g0 p0 q0 ∧ Bx wr g1 x1 y1 ∧ Bx wr g2 x2 y2) ∨ (k = 2 ∧ Bx wr g0 p0 q0 ∧ Bx wr g1 p1 q1 ∧ Bx wr g2 x2 y2) ∨ (k = 3 ∧ Bx wr g0 p0 q0 ∧ Bx wr g1 p1 q1 ∧ Bx wr g2 p2 q2))) (fun _ _ iv _ => 3 - (intOf iv).toNat)
  case atStart => exact ⟨0, rfl, by rw [NN0.out], Kp.refl _ _ _ _, .inl ⟨rfl, B0.out, B1.out, B2.out⟩⟩
  case round =>
    obtain ⟨k, rfl, rfl, hkp, ⟨rfl, c0, c1, c2⟩ | ⟨rfl, c0, c1, c2⟩ | ⟨rfl, c0, c1, c2⟩ | ⟨rfl, c0, c1, c2⟩⟩ := hrel
    · have KP := Lib.hid hkp
      have D0 := Lib.hid c0
      have D1 := Lib.hid c1
      have D2 := Lib.hid c2
      have r0 := hkp.cell C0.out l0 l1 l2
      have s0 : _ = some (.float .f64 x0 : Value) := Blk.cell c0 0
      have s1 : _ = some (.float .f64 y0 : Value) := Blk.cell c0 1
      clear hkp c0 c1 c2
      obtain ⟨nn, hnn⟩ : ∃ b, nf 0 = b := ⟨_, rfl⟩
      have hx := HX0.out
      rw [hnn] at hx ⊢
      have HXX := Lib.hid hx
      clear hnn hx
      go_wp2_with fail
      refine (H0.out _).mono ?_
      rintro e w2 ⟨rfl, hb⟩
      have KP2 := KP.out.below hb
      have d0 := D0.out.keep hb
      have d1 := D1.out.keep hb
      have d2 := D2.out.keep hb
      have s0 : _ = some (.float .f64 x0 : Value) := Blk.cell d0 0
      have s1 : _ = some (.float .f64 y0 : Value) := Blk.cell d0 1
      have f0 := Blk.frozen d0 0
      have f1 := Blk.frozen d0 1
      have DD0 := Lib.hid d0
      have DD1 := Lib.hid d1
      have DD2 := Lib.hid d2
      have KP3 := Lib.hid KP2
      clear r0 hb d0 d1 d2 KP2 D0 D1 D2 KP
      go_upto_region 6 with fail
      have d0 := DD0.out.set p0 q0
      have d1 := DD1.out.far (r := g0) (by first | exact n01 | exact n02 | exact n12 | exact n01.symm | exact n02.symm | exact n12.symm) (.float .f64 p0) (.float .f64 q0)
      have d2 := DD2.out.far (r := g0) (by first | exact n01 | exact n02 | exact n12 | exact n01.symm | exact n02.symm | exact n12.symm) (.float .f64 p0) (.float .f64 q0)
      have d3 := KP3.out.set (r := g0) (by simp) (.float .f64 p0) (.float .f64 q0)
      clear s0 s1 f0 f1 DD0 DD1 DD2 KP3
      obtain ⟨V, hV⟩ : ∃ X, ((w2.setCell ⟨g0, 0, none⟩ (.float .f64 p0)).setCell ⟨g0, 1, none⟩ (.float .f64 q0)) = X := ⟨_, rfl⟩
      rw [hV] at d0 d1 d2 d3 ⊢
      clear hV
      cases nn
      · cases a0
        · skip
          have o1 := E0.out.2 rfl
          refine wp_region_held_drew (S := fun W' => Bx W' g0 p0 q0 ∧ Bx W' g1 x1 y1 ∧ Bx W' g2 x2 y2 ∧ Kp g0 g1 g2 w W') (by kernel_rfl) (by exact ⟨d0, d1, d2, d3.below (Below.refl _ _).drew⟩) (fun hHeld => ?_)
          refine wpAnyH_take (i := 0) (v := ?_) rfl (by kernel_rfl) (by kernel_rfl) (by kernel_rfl) (fun _ _ _ h => h) (Or.inl ⟨by rfl, ?_⟩) (by assumption) ?_
          rotate_left
          · (intro W2 hSw; go_simp; (try with_reducible rfl))
          try simp only [Act.put, List.getElem_toArray, List.getElem_cons_succ, List.getElem_cons_zero, List.setIfInBounds_toArray, List.set_cons_zero, List.set_cons_succ]
          refine wpAnyH_take (i := 1) (v := ?_) rfl (by kernel_rfl) (by kernel_rfl) (by kernel_rfl) (fun _ _ _ h => h) (Or.inl ⟨by rfl, ?_⟩) (by assumption) ?_
          rotate_left
          · (intro W2 hSw; go_simp; (try with_reducible rfl))
          try simp only [Act.put, List.getElem_toArray, List.getElem_cons_succ, List.getElem_cons_zero, List.setIfInBounds_toArray, List.set_cons_zero, List.set_cons_succ]
          refine wpAnyH_take (i := 2) (v := ?_) rfl (by kernel_rfl) (by kernel_rfl) (by kernel_rfl) (fun _ _ _ h => h) (Or.inl ⟨by rfl, ?_⟩) (by assumption) ?_
          rotate_left
          · (intro W2 hSw; go_simp; (try with_reducible rfl))
          try simp only [Act.put, List.getElem_toArray, List.getElem_cons_succ, List.getElem_cons_zero, List.setIfInBounds_toArray, List.set_cons_zero, List.set_cons_succ]
          refine wpAnyH_take (i := 3) (v := ?_) rfl (by kernel_rfl) (by kernel_rfl) (by kernel_rfl) (fun _ _ _ h => h) (Or.inl ⟨by rfl, ?_⟩) (by assumption) ?_
          rotate_left
          · (intro W2 hSw; go_simp; (try with_reducible rfl))
          try simp only [Act.put, List.getElem_toArray, List.getElem_cons_succ, List.getElem_cons_zero, List.setIfInBounds_toArray, List.set_cons_zero, List.set_cons_succ]
          refine wpAnyH_take (i := 4) (v := ?_) rfl (by kernel_rfl) (by kernel_rfl) (by kernel_rfl) (fun _ _ _ h => h) (Or.inl ⟨by rfl, ?_⟩) (by assumption) ?_
          rotate_left
          · (intro W2 hSw; (try dsimp only at hSw); have qa : _ = some (.float .f64 p0 : Value) := Blk.cell hSw.1 0; have qb : _ = some (.float .f64 q0 : Value) := Blk.cell hSw.1 1; go_simp; (try with_reducible rfl))
          try simp only [Act.put, List.getElem_toArray, List.getElem_cons_succ, List.getElem_cons_zero, List.setIfInBounds_toArray, List.set_cons_zero, List.set_cons_succ]
          refine wpAnyH_ready (rs := [5]) (by kernel_rfl) (by simp) ?_
          refine AllReadyH.cons rfl (fun KK hKK => ?_) AllReadyH.nil
          go_simp
          refine (HE.out _).mono ?_
          rintro e we ⟨rfl, hbe⟩
          go_wp2_with fail
          refine hKK.out _ _ (⟨hHeld.1.keep hbe, hHeld.2.1.keep hbe, hHeld.2.2.1.keep hbe, hHeld.2.2.2.below hbe⟩) (fun _ => ?_)
          clear hKK KK hHeld; rename_i hHeld
          try simp only [Act.put, List.getElem_toArray, List.getElem_cons_succ, List.getElem_cons_zero, List.setIfInBounds_toArray, List.set_cons_zero, List.set_cons_succ]
          refine wpAnyH_take (i := 6) (v := ?_) rfl (by kernel_rfl) (by kernel_rfl) (by kernel_rfl) (fun _ _ _ h => h) (Or.inl ⟨by rfl, ?_⟩) (by assumption) ?_
          rotate_left
          · (intro W2 hSw; go_simp; (try with_reducible rfl))
          try simp only [Act.put, List.getElem_toArray, List.getElem_cons_succ, List.getElem_cons_zero, List.setIfInBounds_toArray, List.set_cons_zero, List.set_cons_succ]
          refine wpAnyH_take (i := 7) (v := ?_) rfl (by kernel_rfl) (by kernel_rfl) (by kernel_rfl) (fun _ _ _ h => h) (Or.inl ⟨by rfl, ?_⟩) (by assumption) ?_
          rotate_left
          · (intro W2 hSw; go_simp; (try with_reducible rfl))
          try simp only [Act.put, List.getElem_toArray, List.getElem_cons_succ, List.getElem_cons_zero, List.setIfInBounds_toArray, List.set_cons_zero, List.set_cons_succ]
          refine wpAnyH_take (i := 8) (v := ?_) rfl (by kernel_rfl) (by kernel_rfl) (by kernel_rfl) (fun _ _ _ h => h) (Or.inl ⟨by rfl, ?_⟩) (by assumption) ?_
          rotate_left
          · (intro W2 hSw; go_simp; (try with_reducible rfl))
          try simp only [Act.put, List.getElem_toArray, List.getElem_cons_succ, List.getElem_cons_zero, List.setIfInBounds_toArray, List.set_cons_zero, List.set_cons_succ]
          refine wpAnyH_done (by kernel_rfl) ?_ _
          clear hbe o1
          clear d0 d1 d2 d3
          have HF := Lib.hid hHeld
          clear hHeld
          go_wp2
          go_roundw
          case rel => exact ⟨1, by go_num, by rw [HXX.out]; rfl, HF.out.2.2.2, .inr (.inl ⟨rfl, HF.out.1, HF.out.2.1, HF.out.2.2.1⟩)⟩
          case measure => simp [intOf]
        · skip
          obtain ⟨o1, o2⟩ := E0.out.1 rfl
          refine wp_region_held_drew (S := fun W' => Bx W' g0 p0 q0 ∧ Bx W' g1 x1 y1 ∧ Bx W' g2 x2 y2 ∧ Kp g0 g1 g2 w W') (by kernel_rfl) (by exact ⟨d0, d1, d2, d3.below (Below.refl _ _).drew⟩) (fun hHeld => ?_)
          refine wpAnyH_take (i := 0) (v := ?_) rfl (by kernel_rfl) (by kernel_rfl) (by kernel_rfl) (fun _ _ _ h => h) (Or.inl ⟨by rfl, ?_⟩) (by assumption) ?_
          rotate_left
          · (intro W2 hSw; go_simp; (try with_reducible rfl))
          try simp only [Act.put, List.getElem_toArray, List.getElem_cons_succ, List.getElem_cons_zero, List.setIfInBounds_toArray, List.set_cons_zero, List.set_cons_succ]
          refine wpAnyH_take (i := 1) (v := ?_) rfl (by kernel_rfl) (by kernel_rfl) (by kernel_rfl) (fun _ _ _ h => h) (Or.inl ⟨by rfl, ?_⟩) (by assumption) ?_
          rotate_left
          · (intro W2 hSw; go_simp; (try with_reducible rfl))
          try simp only [Act.put, List.getElem_toArray, List.getElem_cons_succ, List.getElem_cons_zero, List.setIfInBounds_toArray, List.set_cons_zero, List.set_cons_succ]
          refine wpAnyH_take (i := 2) (v := ?_) rfl (by kernel_rfl) (by kernel_rfl) (by kernel_rfl) (fun _ _ _ h => h) (Or.inl ⟨by rfl, ?_⟩) (by assumption) ?_
          rotate_left
          · (intro W2 hSw; go_simp; (try with_reducible rfl))
          try simp only [Act.put, List.getElem_toArray, List.getElem_cons_succ, List.getElem_cons_zero, List.setIfInBounds_toArray, List.set_cons_zero, List.set_cons_succ]
          refine wpAnyH_take (i := 3) (v := ?_) rfl (by kernel_rfl) (by kernel_rfl) (by kernel_rfl) (fun _ _ _ h => h) (Or.inl ⟨by rfl, ?_⟩) (by assumption) ?_
          rotate_left
          · (intro W2 hSw; go_simp; (try with_reducible rfl))
          try simp only [Act.put, List.getElem_toArray, List.getElem_cons_succ, List.getElem_cons_zero, List.setIfInBounds_toArray, List.set_cons_zero, List.set_cons_succ]
          refine wpAnyH_take (i := 4) (v := ?_) rfl (by kernel_rfl) (by kernel_rfl) (by kernel_rfl) (fun _ _ _ h => h) (Or.inl ⟨by rfl, ?_⟩) (by assumption) ?_
          rotate_left
          · (intro W2 hSw; (try dsimp only at hSw); have qa : _ = some (.float .f64 p0 : Value) := Blk.cell hSw.1 0; have qb : _ = some (.float .f64 q0 : Value) := Blk.cell hSw.1 1; go_simp; (try with_reducible rfl))
          try simp only [Act.put, List.getElem_toArray, List.getElem_cons_succ, List.getElem_cons_zero, List.setIfInBounds_toArray, List.set_cons_zero, List.set_cons_succ]
          refine wpAnyH_ready (rs := [5]) (by kernel_rfl) (by simp) ?_
          refine AllReadyH.cons rfl (fun KK hKK => ?_) AllReadyH.nil
          go_simp
          refine (HE.out _).mono ?_
          rintro e we ⟨rfl, hbe⟩
          go_wp2_with fail
          refine hKK.out _ _ (⟨hHeld.1.keep hbe, hHeld.2.1.keep hbe, hHeld.2.2.1.keep hbe, hHeld.2.2.2.below hbe⟩) (fun _ => ?_)
          clear hKK KK hHeld; rename_i hHeld
          try simp only [Act.put, List.getElem_toArray, List.getElem_cons_succ, List.getElem_cons_zero, List.setIfInBounds_toArray, List.set_cons_zero, List.set_cons_succ]
          refine wpAnyH_take (i := 6) (v := ?_) rfl (by kernel_rfl) (by kernel_rfl) (by kernel_rfl) (fun _ _ _ h => h) (Or.inl ⟨by rfl, ?_⟩) (by assumption) ?_
          rotate_left
          · (intro W2 hSw; go_simp; (try with_reducible rfl))
          try simp only [Act.put, List.getElem_toArray, List.getElem_cons_succ, List.getElem_cons_zero, List.setIfInBounds_toArray, List.set_cons_zero, List.set_cons_succ]
          refine wpAnyH_take (i := 7) (v := ?_) rfl (by kernel_rfl) (by kernel_rfl) (by kernel_rfl) (fun _ _ _ h => h) (Or.inl ⟨by rfl, ?_⟩) (by assumption) ?_
          rotate_left
          · (intro W2 hSw; go_simp; (try with_reducible rfl))
          try simp only [Act.put, List.getElem_toArray, List.getElem_cons_succ, List.getElem_cons_zero, List.setIfInBounds_toArray, List.set_cons_zero, List.set_cons_succ]
          refine wpAnyH_take (i := 8) (v := ?_) rfl (by kernel_rfl) (by kernel_rfl) (by kernel_rfl) (fun _ _ _ h => h) (Or.inl ⟨by rfl, ?_⟩) (by assumption) ?_
          rotate_left
          · (intro W2 hSw; go_simp; (try with_reducible rfl))
          try simp only [Act.put, List.getElem_toArray, List.getElem_cons_succ, List.getElem_cons_zero, List.setIfInBounds_toArray, List.set_cons_zero, List.set_cons_succ]
          refine wpAnyH_done (by kernel_rfl) ?_ _
          clear hbe o1 o2
          clear d0 d1 d2 d3
          have HF := Lib.hid hHeld
          clear hHeld
          go_wp2
          go_roundw
          case rel => exact ⟨1, by go_num, by rw [HXX.out]; rfl, HF.out.2.2.2, .inr (.inl ⟨rfl, HF.out.1, HF.out.2.1, HF.out.2.2.1⟩)⟩
          case measure => simp [intOf]
      · skip
        refine wp_region_held_drew (S := fun W' => Bx W' g0 p0 q0 ∧ Bx W' g1 x1 y1 ∧ Bx W' g2 x2 y2 ∧ Kp g0 g1 g2 w W') (by kernel_rfl) (by exact ⟨d0, d1, d2, d3.below (Below.refl _ _).drew⟩) (fun hHeld => ?_)
        refine wpAnyH_take (i := 0) (v := ?_) rfl (by kernel_rfl) (by kernel_rfl) (by kernel_rfl) (fun _ _ _ h => h) (Or.inl ⟨by rfl, ?_⟩) (by assumption) ?_
        rotate_left
        · (intro W2 hSw; go_simp; (try with_reducible rfl))
        try simp only [Act.put, List.getElem_toArray, List.getElem_cons_succ, List.getElem_cons_zero, List.setIfInBounds_toArray, List.set_cons_zero, List.set_cons_succ]
        refine wpAnyH_take (i := 1) (v := ?_) rfl (by kernel_rfl) (by kernel_rfl) (by kernel_rfl) (fun _ _ _ h => h) (Or.inl ⟨by rfl, ?_⟩) (by assumption) ?_
        rotate_left
        · (intro W2 hSw; go_simp; (try with_reducible rfl))
        try simp only [Act.put, List.getElem_toArray, List.getElem_cons_succ, List.getElem_cons_zero, List.setIfInBounds_toArray, List.set_cons_zero, List.set_cons_succ]
        refine wpAnyH_take (i := 2) (v := undef) rfl (by kernel_rfl) (by kernel_rfl) (by kernel_rfl) (fun _ _ _ h => h) (Or.inr ⟨by rfl, rfl⟩) (by assumption) ?_
        try simp only [Act.put, List.getElem_toArray, List.getElem_cons_succ, List.getElem_cons_zero, List.setIfInBounds_toArray, List.set_cons_zero, List.set_cons_succ]
        refine wpAnyH_take (i := 3) (v := undef) rfl (by kernel_rfl) (by kernel_rfl) (by kernel_rfl) (fun _ _ _ h => h) (Or.inr ⟨by rfl, rfl⟩) (by assumption) ?_
        try simp only [Act.put, List.getElem_toArray, List.getElem_cons_succ, List.getElem_cons_zero, List.setIfInBounds_toArray, List.set_cons_zero, List.set_cons_succ]
        refine wpAnyH_take (i := 4) (v := undef) rfl (by kernel_rfl) (by kernel_rfl) (by kernel_rfl) (fun _ _ _ h => h) (Or.inr ⟨by rfl, rfl⟩) (by assumption) ?_
        try simp only [Act.put, List.getElem_toArray, List.getElem_cons_succ, List.getElem_cons_zero, List.setIfInBounds_toArray, List.set_cons_zero, List.set_cons_succ]
        refine wpAnyH_take (i := 5) (v := undef) rfl (by kernel_rfl) (by kernel_rfl) (by kernel_rfl) (fun _ _ _ h => h) (Or.inr ⟨by rfl, rfl⟩) (by assumption) ?_
        try simp only [Act.put, List.getElem_toArray, List.getElem_cons_succ, List.getElem_cons_zero, List.setIfInBounds_toArray, List.set_cons_zero, List.set_cons_succ]
        refine wpAnyH_take (i := 6) (v := undef) rfl (by kernel_rfl) (by kernel_rfl) (by kernel_rfl) (fun _ _ _ h => h) (Or.inr ⟨by rfl, rfl⟩) (by assumption) ?_
        try simp only [Act.put, List.getElem_toArray, List.getElem_cons_succ, List.getElem_cons_zero, List.setIfInBounds_toArray, List.set_cons_zero, List.set_cons_succ]
        refine wpAnyH_take (i := 7) (v := ?_) rfl (by kernel_rfl) (by kernel_rfl) (by kernel_rfl) (fun _ _ _ h => h) (Or.inl ⟨by rfl, ?_⟩) (by assumption) ?_
        rotate_left
        · (intro W2 hSw; go_simp; (try with_reducible rfl))
        try simp only [Act.put, List.getElem_toArray, List.getElem_cons_succ, List.getElem_cons_zero, List.setIfInBounds_toArray, List.set_cons_zero, List.set_cons_succ]
        refine wpAnyH_take (i := 8) (v := ?_) rfl (by kernel_rfl) (by kernel_rfl) (by kernel_rfl) (fun _ _ _ h => h) (Or.inl ⟨by rfl, ?_⟩) (by assumption) ?_
        rotate_left
        · (intro W2 hSw; go_simp; (try with_reducible rfl))
        try simp only [Act.put, List.getElem_toArray, List.getElem_cons_succ, List.getElem_cons_zero, List.setIfInBounds_toArray, List.set_cons_zero, List.set_cons_succ]
        refine wpAnyH_done (by kernel_rfl) ?_ _
        clear d0 d1 d2 d3
        have HF := Lib.hid hHeld
        clear hHeld
        go_wp2
        go_roundw
        case rel => exact ⟨1, by go_num, by rw [HXX.out]; rfl, HF.out.2.2.2, .inr (.inl ⟨rfl, HF.out.1, HF.out.2.1, HF.out.2.2.1⟩)⟩
        case measure => simp [intOf]
    · have KP := Lib.hid hkp
      have D0 := Lib.hid c0
      have D1 := Lib.hid c1
      have D2 := Lib.hid c2
      have r0 := hkp.cell C1.out l0 l1 l2
      have s0 : _ = some (.float .f64 x1 : Value) := Blk.cell c1 0
      have s1 : _ = some (.float .f64 y1 : Value) := Blk.cell c1 1
      clear hkp c0 c1 c2
      obtain ⟨nn, hnn⟩ : ∃ b, nf 1 = b := ⟨_, rfl⟩
      have hx := HX1.out
      rw [hnn] at hx ⊢
      have HXX := Lib.hid hx
      clear hnn hx
      go_wp2_with fail
      refine (H1.out _).mono ?_
      rintro e w2 ⟨rfl, hb⟩
      have KP2 := KP.out.below hb
      have d0 := D0.out.keep hb
      have d1 := D1.out.keep hb
      have d2 := D2.out.keep hb
      have s0 : _ = some (.float .f64 x1 : Value) := Blk.cell d1 0
      have s1 : _ = some (.float .f64 y1 : Value) := Blk.cell d1 1
      have f0 := Blk.frozen d1 0
      have f1 := Blk.frozen d1 1
      have DD0 := Lib.hid d0
      have DD1 := Lib.hid d1
      have DD2 := Lib.hid d2
      have KP3 := Lib.hid KP2
      clear r0 hb d0 d1 d2 KP2 D0 D1 D2 KP
      go_upto_region 6 with fail
      have d0 := DD0.out.far (r := g1) (by first | exact n01 | exact n02 | exact n12 | exact n01.symm | exact n02.symm | exact n12.symm) (.float .f64 p1) (.float .f64 q1)
      have d1 := DD1.out.set p1 q1
      have d2 := DD2.out.far (r := g1) (by first | exact n01 | exact n02 | exact n12 | exact n01.symm | exact n02.symm | exact n12.symm) (.float .f64 p1) (.float .f64 q1)
      have d3 := KP3.out.set (r := g1) (by simp) (.float .f64 p1) (.float .f64 q1)
      clear s0 s1 f0 f1 DD0 DD1 DD2 KP3
      obtain ⟨V, hV⟩ : ∃ X, ((w2.setCell ⟨g1, 0, none⟩ (.float .f64 p1)).setCell ⟨g1, 1, none⟩ (.float .f64 q1)) = X := ⟨_, rfl⟩
      rw [hV] at d0 d1 d2 d3 ⊢
      clear hV
      cases nn
      · cases a1
        · skip
          have o1 := E1.out.2 rfl
          refine wp_region_held_drew (S := fun W' => Bx W' g0 p0 q0 ∧ Bx W' g1 p1 q1 ∧ Bx W' g2 x2 y2 ∧ Kp g0 g1 g2 w W') (by kernel_rfl) (by exact ⟨d0, d1, d2, d3.below (Below.refl _ _).drew⟩) (fun hHeld => ?_)
          refine wpAnyH_take (i := 0) (v := ?_) rfl (by kernel_rfl) (by kernel_rfl) (by kernel_rfl) (fun _ _ _ h => h) (Or.inl ⟨by rfl, ?_⟩) (by assumption) ?_
          rotate_left
          · (intro W2 hSw; go_simp; (try with_reducible rfl))
          try simp only [Act.put, List.getElem_toArray, List.getElem_cons_succ, List.getElem_cons_zero, List.setIfInBounds_toArray, List.set_cons_zero, List.set_cons_succ]
          refine wpAnyH_take (i := 1) (v := ?_) rfl (by kernel_rfl) (by kernel_rfl) (by kernel_rfl) (fun _ _ _ h => h) (Or.inl ⟨by rfl, ?_⟩) (by assumption) ?_
          rotate_left
          · (intro W2 hSw; go_simp; (try with_reducible rfl))
          try simp only [Act.put, List.getElem_toArray, List.getElem_cons_succ, List.getElem_cons_zero, List.setIfInBounds_toArray, List.set_cons_zero, List.set_cons_succ]
          refine wpAnyH_take (i := 2) (v := ?_) rfl (by kernel_rfl) (by kernel_rfl) (by kernel_rfl) (fun _ _ _ h => h) (Or.inl ⟨by rfl, ?_⟩) (by assumption) ?_
          rotate_left
          · (intro W2 hSw; go_simp; (try with_reducible rfl))
          try simp only [Act.put, List.getElem_toArray, List.getElem_cons_succ, List.getElem_cons_zero, List.setIfInBounds_toArray, List.set_cons_zero, List.set_cons_succ]
          refine wpAnyH_take (i := 3) (v := ?_) rfl (by kernel_rfl) (by kernel_rfl) (by kernel_rfl) (fun _ _ _ h => h) (Or.inl ⟨by rfl, ?_⟩) (by assumption) ?_
          rotate_left
          · (intro W2 hSw; go_simp; (try with_reducible rfl))
          try simp only [Act.put, List.getElem_toArray, List.getElem_cons_succ, List.getElem_cons_zero, List.setIfInBounds_toArray, List.set_cons_zero, List.set_cons_succ]
          refine wpAnyH_take (i := 4) (v := ?_) rfl (by kernel_rfl) (by kernel_rfl) (by kernel_rfl) (fun _ _ _ h => h) (Or.inl ⟨by rfl, ?_⟩) (by assumption) ?_
          rotate_left
          · (intro W2 hSw; (try dsimp only at hSw); have qa : _ = some (.float .f64 p1 : Value) := Blk.cell hSw.2.1 0; have qb : _ = some (.float .f64 q1 : Value) := Blk.cell hSw.2.1 1; go_simp; (try with_reducible rfl))
          try simp only [Act.put, List.getElem_toArray, List.getElem_cons_succ, List.getElem_cons_zero, List.setIfInBounds_toArray, List.set_cons_zero, List.set_cons_succ]
          refine wpAnyH_ready (rs := [5]) (by kernel_rfl) (by simp) ?_
          refine AllReadyH.cons rfl (fun KK hKK => ?_) AllReadyH.nil
          go_simp
          refine (HE.out _).mono ?_
          rintro e we ⟨rfl, hbe⟩
          go_wp2_with fail
          refine hKK.out _ _ (⟨hHeld.1.keep hbe, hHeld.2.1.keep hbe, hHeld.2.2.1.keep hbe, hHeld.2.2.2.below hbe⟩) (fun _ => ?_)
          clear hKK KK hHeld; rename_i hHeld
          try simp only [Act.put, List.getElem_toArray, List.getElem_cons_succ, List.getElem_cons_zero, List.setIfInBounds_toArray, List.set_cons_zero, List.set_cons_succ]
          refine wpAnyH_take (i := 6) (v := ?_) rfl (by kernel_rfl) (by kernel_rfl) (by kernel_rfl) (fun _ _ _ h => h) (Or.inl ⟨by rfl, ?_⟩) (by assumption) ?_
          rotate_left
          · (intro W2 hSw; go_simp; (try with_reducible rfl))
          try simp only [Act.put, List.getElem_toArray, List.getElem_cons_succ, List.getElem_cons_zero, List.setIfInBounds_toArray, List.set_cons_zero, List.set_cons_succ]
          refine wpAnyH_take (i := 7) (v := ?_) rfl (by kernel_rfl) (by kernel_rfl) (by kernel_rfl) (fun _ _ _ h => h) (Or.inl ⟨by rfl, ?_⟩) (by assumption) ?_
          rotate_left
          · (intro W2 hSw; go_simp; (try with_reducible rfl))
          try simp only [Act.put, List.getElem_toArray, List.getElem_cons_succ, List.getElem_cons_zero, List.setIfInBounds_toArray, List.set_cons_zero, List.set_cons_succ]
          refine wpAnyH_take (i := 8) (v := ?_) rfl (by kernel_rfl) (by kernel_rfl) (by kernel_rfl) (fun _ _ _ h => h) (Or.inl ⟨by rfl, ?_⟩) (by assumption) ?_
          rotate_left
          · (intro W2 hSw; go_simp; (try with_reducible rfl))
          try simp only [Act.put, List.getElem_toArray, List.getElem_cons_succ, List.getElem_cons_zero, List.setIfInBounds_toArray, List.set_cons_zero, List.set_cons_succ]
          refine wpAnyH_done (by kernel_rfl) ?_ _
          clear hbe o1
          clear d0 d1 d2 d3
          have HF := Lib.hid hHeld
          clear hHeld
          go_wp2
          go_roundw
          case rel => exact ⟨2, by go_num, by rw [HXX.out]; rfl, HF.out.2.2.2, .inr (.inr (.inl ⟨rfl, HF.out.1, HF.out.2.1, HF.out.2.2.1⟩))⟩
          case measure => simp [intOf]
        · skip
          obtain ⟨o1, o2⟩ := E1.out.1 rfl
          refine wp_region_held_drew (S := fun W' => Bx W' g0 p0 q0 ∧ Bx W' g1 p1 q1 ∧ Bx W' g2 x2 y2 ∧ Kp g0 g1 g2 w W') (by kernel_rfl) (by exact ⟨d0, d1, d2, d3.below (Below.refl _ _).drew⟩) (fun hHeld => ?_)
          refine wpAnyH_take (i := 0) (v := ?_) rfl (by kernel_rfl) (by kernel_rfl) (by kernel_rfl) (fun _ _ _ h => h) (Or.inl ⟨by rfl, ?_⟩) (by assumption) ?_
          rotate_left
          · (intro W2 hSw; go_simp; (try with_reducible rfl))
          try simp only [Act.put, List.getElem_toArray, List.getElem_cons_succ, List.getElem_cons_zero, List.setIfInBounds_toArray, List.set_cons_zero, List.set_cons_succ]
          refine wpAnyH_take (i := 1) (v := ?_) rfl (by kernel_rfl) (by kernel_rfl) (by kernel_rfl) (fun _ _ _ h => h) (Or.inl ⟨by rfl, ?_⟩) (by assumption) ?_
          rotate_left
          · (intro W2 hSw; go_simp; (try with_reducible rfl))
          try simp only [Act.put, List.getElem_toArray, List.getElem_cons_succ, List.getElem_cons_zero, List.setIfInBounds_toArray, List.set_cons_zero, List.set_cons_succ]
          refine wpAnyH_take (i := 2) (v := ?_) rfl (by kernel_rfl) (by kernel_rfl) (by kernel_rfl) (fun _ _ _ h => h) (Or.inl ⟨by rfl, ?_⟩) (by assumption) ?_
          rotate_left
          · (intro W2 hSw; go_simp; (try with_reducible rfl))
          try simp only [Act.put, List.getElem_toArray, List.getElem_cons_succ, List.getElem_cons_zero, List.setIfInBounds_toArray, List.set_cons_zero, List.set_cons_succ]
          refine wpAnyH_take (i := 3) (v := ?_) rfl (by kernel_rfl) (by kernel_rfl) (by kernel_rfl) (fun _ _ _ h => h) (Or.inl ⟨by rfl, ?_⟩) (by assumption) ?_
          rotate_left
          · (intro W2 hSw; go_simp; (try with_reducible rfl))
          try simp only [Act.put, List.getElem_toArray, List.getElem_cons_succ, List.getElem_cons_zero, List.setIfInBounds_toArray, List.set_cons_zero, List.set_cons_succ]
          refine wpAnyH_take (i := 4) (v := ?_) rfl (by kernel_rfl) (by kernel_rfl) (by kernel_rfl) (fun _ _ _ h => h) (Or.inl ⟨by rfl, ?_⟩) (by assumption) ?_
          rotate_left
          · (intro W2 hSw; (try dsimp only at hSw); have qa : _ = some (.float .f64 p1 : Value) := Blk.cell hSw.2.1 0; have qb : _ = some (.float .f64 q1 : Value) := Blk.cell hSw.2.1 1; go_simp; (try with_reducible rfl))
          try simp only [Act.put, List.getElem_toArray, List.getElem_cons_succ, List.getElem_cons_zero, List.setIfInBounds_toArray, List.set_cons_zero, List.set_cons_succ]
          refine wpAnyH_ready (rs := [5]) (by kernel_rfl) (by simp) ?_
          refine AllReadyH.cons rfl (fun KK hKK => ?_) AllReadyH.nil
          go_simp
          refine (HE.out _).mono ?_
          rintro e we ⟨rfl, hbe⟩
          go_wp2_with fail
          refine hKK.out _ _ (⟨hHeld.1.keep hbe, hHeld.2.1.keep hbe, hHeld.2.2.1.keep hbe, hHeld.2.2.2.below hbe⟩) (fun _ => ?_)
          clear hKK KK hHeld; rename_i hHeld
          try simp only [Act.put, List.getElem_toArray, List.getElem_cons_succ, List.getElem_cons_zero, List.setIfInBounds_toArray, List.set_cons_zero, List.set_cons_succ]
          refine wpAnyH_take (i := 6) (v := ?_) rfl (by kernel_rfl) (by kernel_rfl) (by kernel_rfl) (fun _ _ _ h => h) (Or.inl ⟨by rfl, ?_⟩) (by assumption) ?_
          rotate_left
          · (intro W2 hSw; go_simp; (try with_reducible rfl))
          try simp only [Act.put, List.getElem_toArray, List.getElem_cons_succ, List.getElem_cons_zero, List.setIfInBounds_toArray, List.set_cons_zero, List.set_cons_succ]
          refine wpAnyH_take (i := 7) (v := ?_) rfl (by kernel_rfl) (by kernel_rfl) (by kernel_rfl) (fun _ _ _ h => h) (Or.inl ⟨by rfl, ?_⟩) (by assumption) ?_
          rotate_left
          · (intro W2 hSw; go_simp; (try with_reducible rfl))
          try simp only [Act.put, List.getElem_toArray, List.getElem_cons_succ, List.getElem_cons_zero, List.setIfInBounds_toArray, List.set_cons_zero, List.set_cons_succ]
          refine wpAnyH_take (i := 8) (v := ?_) rfl (by kernel_rfl) (by kernel_rfl) (by kernel_rfl) (fun _ _ _ h => h) (Or.inl ⟨by rfl, ?_⟩) (by assumption) ?_
          rotate_left
          · (intro W2 hSw; go_simp; (try with_reducible rfl))
          try simp only [Act.put, List.getElem_toArray, List.getElem_cons_succ, List.getElem_cons_zero, List.setIfInBounds_toArray, List.set_cons_zero, List.set_cons_succ]
          refine wpAnyH_done (by kernel_rfl) ?_ _
          clear hbe o1 o2
          clear d0 d1 d2 d3
          have HF := Lib.hid hHeld
          clear hHeld
          go_wp2
          go_roundw
          case rel => exact ⟨2, by go_num, by rw [HXX.out]; rfl, HF.out.2.2.2, .inr (.inr (.inl ⟨rfl, HF.out.1, HF.out.2.1, HF.out.2.2.1⟩))⟩
          case measure => simp [intOf]
      · skip
        refine wp_region_held_drew (S := fun W' => Bx W' g0 p0 q0 ∧ Bx W' g1 p1 q1 ∧ Bx W' g2 x2 y2 ∧ Kp g0 g1 g2 w W') (by kernel_rfl) (by exact ⟨d0, d1, d2, d3.below (Below.refl _ _).drew⟩) (fun hHeld => ?_)
        refine wpAnyH_take (i := 0) (v := ?_) rfl (by kernel_rfl) (by kernel_rfl) (by kernel_rfl) (fun _ _ _ h => h) (Or.inl ⟨by rfl, ?_⟩) (by assumption) ?_
        rotate_left
        · (intro W2 hSw; go_simp; (try with_reducible rfl))
        try simp only [Act.put, List.getElem_toArray, List.getElem_cons_succ, List.getElem_cons_zero, List.setIfInBounds_toArray, List.set_cons_zero, List.set_cons_succ]
        refine wpAnyH_take (i := 1) (v := ?_) rfl (by kernel_rfl) (by kernel_rfl) (by kernel_rfl) (fun _ _ _ h => h) (Or.inl ⟨by rfl, ?_⟩) (by assumption) ?_
        rotate_left
        · (intro W2 hSw; go_simp; (try with_reducible rfl))
        try simp only [Act.put, List.getElem_toArray, List.getElem_cons_succ, List.getElem_cons_zero, List.setIfInBounds_toArray, List.set_cons_zero, List.set_cons_succ]
        refine wpAnyH_take (i := 2) (v := undef) rfl (by kernel_rfl) (by kernel_rfl) (by kernel_rfl) (fun _ _ _ h => h) (Or.inr ⟨by rfl, rfl⟩) (by assumption) ?_
        try simp only [Act.put, List.getElem_toArray, List.getElem_cons_succ, List.getElem_cons_zero, List.setIfInBounds_toArray, List.set_cons_zero, List.set_cons_succ]
        refine wpAnyH_take (i := 3) (v := undef) rfl (by kernel_rfl) (by kernel_rfl) (by kernel_rfl) (fun _ _ _ h => h) (Or.inr ⟨by rfl, rfl⟩) (by assumption) ?_
        try simp only [Act.put, List.getElem_toArray, List.getElem_cons_succ, List.getElem_cons_zero, List.setIfInBounds_toArray, List.set_cons_zero, List.set_cons_succ]
        refine wpAnyH_take (i := 4) (v := undef) rfl (by kernel_rfl) (by kernel_rfl) (by kernel_rfl) (fun _ _ _ h => h) (Or.inr ⟨by rfl, rfl⟩) (by assumption) ?_
        try simp only [Act.put, List.getElem_toArray, List.getElem_cons_succ, List.getElem_cons_zero, List.setIfInBounds_toArray, List.set_cons_zero, List.set_cons_succ]
        refine wpAnyH_take (i := 5) (v := undef) rfl (by kernel_rfl) (by kernel_rfl) (by kernel_rfl) (fun _ _ _ h => h) (Or.inr ⟨by rfl, rfl⟩) (by assumption) ?_
        try simp only [Act.put, List.getElem_toArray, List.getElem_cons_succ, List.getElem_cons_zero, List.setIfInBounds_toArray, List.set_cons_zero, List.set_cons_succ]
        refine wpAnyH_take (i := 6) (v := undef) rfl (by kernel_rfl) (by kernel_rfl) (by kernel_rfl) (fun _ _ _ h => h) (Or.inr ⟨by rfl, rfl⟩) (by assumption) ?_
        try simp only [Act.put, List.getElem_toArray, List.getElem_cons_succ, List.getElem_cons_zero, List.setIfInBounds_toArray, List.set_cons_zero, List.set_cons_succ]
        refine wpAnyH_take (i := 7) (v := ?_) rfl (by kernel_rfl) (by kernel_rfl) (by kernel_rfl) (fun _ _ _ h => h) (Or.inl ⟨by rfl, ?_⟩) (by assumption) ?_
        rotate_left
        · (intro W2 hSw; go_simp; (try with_reducible rfl))
        try simp only [Act.put, List.getElem_toArray, List.getElem_cons_succ, List.getElem_cons_zero, List.setIfInBounds_toArray, List.set_cons_zero, List.set_cons_succ]
        refine wpAnyH_take (i := 8) (v := ?_) rfl (by kernel_rfl) (by kernel_rfl) (by kernel_rfl) (fun _ _ _ h => h) (Or.inl ⟨by rfl, ?_⟩) (by assumption) ?_
        rotate_left
        · (intro W2 hSw; go_simp; (try with_reducible rfl))
        try simp only [Act.put, List.getElem_toArray, List.getElem_cons_succ, List.getElem_cons_zero, List.setIfInBounds_toArray, List.set_cons_zero, List.set_cons_succ]
        refine wpAnyH_done (by kernel_rfl) ?_ _
        clear d0 d1 d2 d3
        have HF := Lib.hid hHeld
        clear hHeld
        go_wp2
        go_roundw
        case rel => exact ⟨2, by go_num, by rw [HXX.out]; rfl, HF.out.2.2.2, .inr (.inr (.inl ⟨rfl, HF.out.1, HF.out.2.1, HF.out.2.2.1⟩))⟩
        case measure => simp [intOf]
    · have KP := Lib.hid hkp
      have D0 := Lib.hid c0
      have D1 := Lib.hid c1
      have D2 := Lib.hid c2
      have r0 := hkp.cell C2.out l0 l1 l2
      have s0 : _ = some (.float .f64 x2 : Value) := Blk.cell c2 0
      have s1 : _ = some (.float .f64 y2 : Value) := Blk.cell c2 1
      clear hkp c0 c1 c2
      obtain ⟨nn, hnn⟩ : ∃ b, nf 2 = b := ⟨_, rfl⟩
      have hx := HX2.out
      rw [hnn] at hx ⊢
      have HXX := Lib.hid hx
      clear hnn hx
      go_wp2_with fail
      refine (H2.out _).mono ?_
      rintro e w2 ⟨rfl, hb⟩
      have KP2 := KP.out.below hb
      have d0 := D0.out.keep hb
      have d1 := D1.out.keep hb
      have d2 := D2.out.keep hb
      have s0 : _ = some (.float .f64 x2 : Value) := Blk.cell d2 0
      have s1 : _ = some (.float .f64 y2 : Value) := Blk.cell d2 1
      have f0 := Blk.frozen d2 0
      have f1 := Blk.frozen d2 1
      have DD0 := Lib.hid d0
      have DD1 := Lib.hid d1
      have DD2 := Lib.hid d2
      have KP3 := Lib.hid KP2
      clear r0 hb d0 d1 d2 KP2 D0 D1 D2 KP
      go_upto_region 6 with fail
      have d0 := DD0.out.far (r := g2) (by first | exact n01 | exact n02 | exact n12 | exact n01.symm | exact n02.symm | exact n12.symm) (.float .f64 p2) (.float .f64 q2)
      have d1 := DD1.out.far (r := g2) (by first | exact n01 | exact n02 | exact n12 | exact n01.symm | exact n02.symm | exact n12.symm) (.float .f64 p2) (.float .f64 q2)
      have d2 := DD2.out.set p2 q2
      have d3 := KP3.out.set (r := g2) (by simp) (.float .f64 p2) (.float .f64 q2)
      clear s0 s1 f0 f1 DD0 DD1 DD2 KP3
      obtain ⟨V, hV⟩ : ∃ X, ((w2.setCell ⟨g2, 0, none⟩ (.float .f64 p2)).setCell ⟨g2, 1, none⟩ (.float .f64 q2)) = X := ⟨_, rfl⟩
      rw [hV] at d0 d1 d2 d3 ⊢
      clear hV
      cases nn
      · cases a2
        · skip
          have o1 := E2.out.2 rfl
          refine wp_region_held_drew (S := fun W' => Bx W' g0 p0 q0 ∧ Bx W' g1 p1 q1 ∧ Bx W' g2 p2 q2 ∧ Kp g0 g1 g2 w W') (by kernel_rfl) (by exact ⟨d0, d1, d2, d3.below (Below.refl _ _).drew⟩) (fun hHeld => ?_)
          refine wpAnyH_take (i := 0) (v := ?_) rfl (by kernel_rfl) (by kernel_rfl) (by kernel_rfl) (fun _ _ _ h => h) (Or.inl ⟨by rfl, ?_⟩) (by assumption) ?_
          rotate_left
          · (intro W2 hSw; go_simp; (try with_reducible rfl))
          try simp only [Act.put, List.getElem_toArray, List.getElem_cons_succ, List.getElem_cons_zero, List.setIfInBounds_toArray, List.set_cons_zero, List.set_cons_succ]
          refine wpAnyH_take (i := 1) (v := ?_) rfl (by kernel_rfl) (by kernel_rfl) (by kernel_rfl) (fun _ _ _ h => h) (Or.inl ⟨by rfl, ?_⟩) (by assumption) ?_
          rotate_left
          · (intro W2 hSw; go_simp; (try with_reducible rfl))
          try simp only [Act.put, List.getElem_toArray, List.getElem_cons_succ, List.getElem_cons_zero, List.setIfInBounds_toArray, List.set_cons_zero, List.set_cons_succ]
          refine wpAnyH_take (i := 2) (v := ?_) rfl (by kernel_rfl) (by kernel_rfl) (by kernel_rfl) (fun _ _ _ h => h) (Or.inl ⟨by rfl, ?_⟩) (by assumption) ?_
          rotate_left
          · (intro W2 hSw; go_simp; (try with_reducible rfl))
          try simp only [Act.put, List.getElem_toArray, List.getElem_cons_succ, List.getElem_cons_zero, List.setIfInBounds_toArray, List.set_cons_zero, List.set_cons_succ]
          refine wpAnyH_take (i := 3) (v := ?_) rfl (by kernel_rfl) (by kernel_rfl) (by kernel_rfl) (fun _ _ _ h => h) (Or.inl ⟨by rfl, ?_⟩) (by assumption) ?_
          rotate_left
          · (intro W2 hSw; go_simp; (try with_reducible rfl))
          try simp only [Act.put, List.getElem_toArray, List.getElem_cons_succ, List.getElem_cons_zero, List.setIfInBounds_toArray, List.set_cons_zero, List.set_cons_succ]
          refine wpAnyH_take (i := 4) (v := ?_) rfl (by kernel_rfl) (by kernel_rfl) (by kernel_rfl) (fun _ _ _ h => h) (Or.inl ⟨by rfl, ?_⟩) (by assumption) ?_
          rotate_left
          · (intro W2 hSw; (try dsimp only at hSw); have qa : _ = some (.float .f64 p2 : Value) := Blk.cell hSw.2.2.1 0; have qb : _ = some (.float .f64 q2 : Value) := Blk.cell hSw.2.2.1 1; go_simp; (try with_reducible rfl))
          try simp only [Act.put, List.getElem_toArray, List.getElem_cons_succ, List.getElem_cons_zero, List.setIfInBounds_toArray, List.set_cons_zero, List.set_cons_succ]
          refine wpAnyH_ready (rs := [5]) (by kernel_rfl) (by simp) ?_
          refine AllReadyH.cons rfl (fun KK hKK => ?_) AllReadyH.nil
          go_simp
          refine (HE.out _).mono ?_
          rintro e we ⟨rfl, hbe⟩
          go_wp2_with fail
          refine hKK.out _ _ (⟨hHeld.1.keep hbe, hHeld.2.1.keep hbe, hHeld.2.2.1.keep hbe, hHeld.2.2.2.below hbe⟩) (fun _ => ?_)
          clear hKK KK hHeld; rename_i hHeld
          try simp only [Act.put, List.getElem_toArray, List.getElem_cons_succ, List.getElem_cons_zero, List.setIfInBounds_toArray, List.set_cons_zero, List.set_cons_succ]
          refine wpAnyH_take (i := 6) (v := ?_) rfl (by kernel_rfl) (by kernel_rfl) (by kernel_rfl) (fun _ _ _ h => h) (Or.inl ⟨by rfl, ?_⟩) (by assumption) ?_
          rotate_left
          · (intro W2 hSw; go_simp; (try with_reducible rfl))
          try simp only [Act.put, List.getElem_toArray, List.getElem_cons_succ, List.getElem_cons_zero, List.setIfInBounds_toArray, List.set_cons_zero, List.set_cons_succ]
          refine wpAnyH_take (i := 7) (v := ?_) rfl (by kernel_rfl) (by kernel_rfl) (by kernel_rfl) (fun _ _ _ h => h) (Or.inl ⟨by rfl, ?_⟩) (by assumption) ?_
          rotate_left
          · (intro W2 hSw; go_simp; (try with_reducible rfl))
          try simp only [Act.put, List.getElem_toArray, List.getElem_cons_succ, List.getElem_cons_zero, List.setIfInBounds_toArray, List.set_cons_zero, List.set_cons_succ]
          refine wpAnyH_take (i := 8) (v := ?_) rfl (by kernel_rfl) (by kernel_rfl) (by kernel_rfl) (fun _ _ _ h => h) (Or.inl ⟨by rfl, ?_⟩) (by assumption) ?_
          rotate_left
          · (intro W2 hSw; go_simp; (try with_reducible rfl))
          try simp only [Act.put, List.getElem_toArray, List.getElem_cons_succ, List.getElem_cons_zero, List.setIfInBounds_toArray, List.set_cons_zero, List.set_cons_succ]
          refine wpAnyH_done (by kernel_rfl) ?_ _
          clear hbe o1
          clear d0 d1 d2 d3
          have HF := Lib.hid hHeld
          clear hHeld
          go_wp2
          go_roundw
          case rel => exact ⟨3, by go_num, by rw [HXX.out]; rfl, HF.out.2.2.2, .inr (.inr (.inr (⟨rfl, HF.out.1, HF.out.2.1, HF.out.2.2.1⟩)))⟩
          case measure => simp [intOf]
        · skip
          obtain ⟨o1, o2⟩ := E2.out.1 rfl
          refine wp_region_held_drew (S := fun W' => Bx W' g0 p0 q0 ∧ Bx W' g1 p1 q1 ∧ Bx W' g2 p2 q2 ∧ Kp g0 g1 g2 w W') (by kernel_rfl) (by exact ⟨d0, d1, d2, d3.below (Below.refl _ _).drew⟩) (fun hHeld => ?_)
          refine wpAnyH_take (i := 0) (v := ?_) rfl (by kernel_rfl) (by kernel_rfl) (by kernel_rfl) (fun _ _ _ h => h) (Or.inl ⟨by rfl, ?_⟩) (by assumption) ?_
          rotate_left
          · (intro W2 hSw; go_simp; (try with_reducible rfl))
          try simp only [Act.put, List.getElem_toArray, List.getElem_cons_succ, List.getElem_cons_zero, List.setIfInBounds_toArray, List.set_cons_zero, List.set_cons_succ]
          refine wpAnyH_take (i := 1) (v := ?_) rfl (by kernel_rfl) (by kernel_rfl) (by kernel_rfl) (fun _ _ _ h => h) (Or.inl ⟨by rfl, ?_⟩) (by assumption) ?_
          rotate_left
          · (intro W2 hSw; go_simp; (try with_reducible rfl))
          try simp only [Act.put, List.getElem_toArray, List.getElem_cons_succ, List.getElem_cons_zero, List.setIfInBounds_toArray, List.set_cons_zero, List.set_cons_succ]
          refine wpAnyH_take (i := 2) (v := ?_) rfl (by kernel_rfl) (by kernel_rfl) (by kernel_rfl) (fun _ _ _ h => h) (Or.inl ⟨by rfl, ?_⟩) (by assumption) ?_
          rotate_left
          · (intro W2 hSw; go_simp; (try with_reducible rfl))
          try simp only [Act.put, List.getElem_toArray, List.getElem_cons_succ, List.getElem_cons_zero, List.setIfInBounds_toArray, List.set_cons_zero, List.set_cons_succ]
          refine wpAnyH_take (i := 3) (v := ?_) rfl (by kernel_rfl) (by kernel_rfl) (by kernel_rfl) (fun _ _ _ h => h) (Or.inl ⟨by rfl, ?_⟩) (by assumption) ?_
          rotate_left
          · (intro W2 hSw; go_simp; (try with_reducible rfl))
          try simp only [Act.put, List.getElem_toArray, List.getElem_cons_succ, List.getElem_cons_zero, List.setIfInBounds_toArray, List.set_cons_zero, List.set_cons_succ]
          refine wpAnyH_take (i := 4) (v := ?_) rfl (by kernel_rfl) (by kernel_rfl) (by kernel_rfl) (fun _ _ _ h => h) (Or.inl ⟨by rfl, ?_⟩) (by assumption) ?_
          rotate_left
          · (intro W2 hSw; (try dsimp only at hSw); have qa : _ = some (.float .f64 p2 : Value) := Blk.cell hSw.2.2.1 0; have qb : _ = some (.float .f64 q2 : Value) := Blk.cell hSw.2.2.1 1; go_simp; (try with_reducible rfl))
          try simp only [Act.put, List.getElem_toArray, List.getElem_cons_succ, List.getElem_cons_zero, List.setIfInBounds_toArray, List.set_cons_zero, List.set_cons_succ]
          refine wpAnyH_ready (rs := [5]) (by kernel_rfl) (by simp) ?_
          refine AllReadyH.cons rfl (fun KK hKK => ?_) AllReadyH.nil
          go_simp
          refine (HE.out _).mono ?_
          rintro e we ⟨rfl, hbe⟩
          go_wp2_with fail
          refine hKK.out _ _ (⟨hHeld.1.keep hbe, hHeld.2.1.keep hbe, hHeld.2.2.1.keep hbe, hHeld.2.2.2.below hbe⟩) (fun _ => ?_)
          clear hKK KK hHeld; rename_i hHeld
          try simp only [Act.put, List.getElem_toArray, List.getElem_cons_succ, List.getElem_cons_zero, List.setIfInBounds_toArray, List.set_cons_zero, List.set_cons_succ]
          refine wpAnyH_take (i := 6) (v := ?_) rfl (by kernel_rfl) (by kernel_rfl) (by kernel_rfl) (fun _ _ _ h => h) (Or.inl ⟨by rfl, ?_⟩) (by assumption) ?_
          rotate_left
          · (intro W2 hSw; go_simp; (try with_reducible rfl))
          try simp only [Act.put, List.getElem_toArray, List.getElem_cons_succ, List.getElem_cons_zero, List.setIfInBounds_toArray, List.set_cons_zero, List.set_cons_succ]
          refine wpAnyH_take (i := 7) (v := ?_) rfl (by kernel_rfl) (by kernel_rfl) (by kernel_rfl) (fun _ _ _ h => h) (Or.inl ⟨by rfl, ?_⟩) (by assumption) ?_
          rotate_left
          · (intro W2 hSw; go_simp; (try with_reducible rfl))
          try simp only [Act.put, List.getElem_toArray, List.getElem_cons_succ, List.getElem_cons_zero, List.setIfInBounds_toArray, List.set_cons_zero, List.set_cons_succ]
          refine wpAnyH_take (i := 8) (v := ?_) rfl (by kernel_rfl) (by kernel_rfl) (by kernel_rfl) (fun _ _ _ h => h) (Or.inl ⟨by rfl, ?_⟩) (by assumption) ?_
          rotate_left
          · (intro W2 hSw; go_simp; (try with_reducible rfl))
          try simp only [Act.put, List.getElem_toArray, List.getElem_cons_succ, List.getElem_cons_zero, List.setIfInBounds_toArray, List.set_cons_zero, List.set_cons_succ]
          refine wpAnyH_done (by kernel_rfl) ?_ _
          clear hbe o1 o2
          clear d0 d1 d2 d3
          have HF := Lib.hid hHeld
          clear hHeld
          go_wp2
          go_roundw
          case rel => exact ⟨3, by go_num, by rw [HXX.out]; rfl, HF.out.2.2.2, .inr (.inr (.inr (⟨rfl, HF.out.1, HF.out.2.1, HF.out.2.2.1⟩)))⟩
          case measure => simp [intOf]
      · skip
        refine wp_region_held_drew (S := fun W' => Bx W' g0 p0 q0 ∧ Bx W' g1 p1 q1 ∧ Bx W' g2 p2 q2 ∧ Kp g0 g1 g2 w W') (by kernel_rfl) (by exact ⟨d0, d1, d2, d3.below (Below.refl _ _).drew⟩) (fun hHeld => ?_)
        refine wpAnyH_take (i := 0) (v := ?_) rfl (by kernel_rfl) (by kernel_rfl) (by kernel_rfl) (fun _ _ _ h => h) (Or.inl ⟨by rfl, ?_⟩) (by assumption) ?_
        rotate_left
        · (intro W2 hSw; go_simp; (try with_reducible rfl))
        try simp only [Act.put, List.getElem_toArray, List.getElem_cons_succ, List.getElem_cons_zero, List.setIfInBounds_toArray, List.set_cons_zero, List.set_cons_succ]
        refine wpAnyH_take (i := 1) (v := ?_) rfl (by kernel_rfl) (by kernel_rfl) (by kernel_rfl) (fun _ _ _ h => h) (Or.inl ⟨by rfl, ?_⟩) (by assumption) ?_
        rotate_left
        · (intro W2 hSw; go_simp; (try with_reducible rfl))
        try simp only [Act.put, List.getElem_toArray, List.getElem_cons_succ, List.getElem_cons_zero, List.setIfInBounds_toArray, List.set_cons_zero, List.set_cons_succ]
        refine wpAnyH_take (i := 2) (v := undef) rfl (by kernel_rfl) (by kernel_rfl) (by kernel_rfl) (fun _ _ _ h => h) (Or.inr ⟨by rfl, rfl⟩) (by assumption) ?_
        try simp only [Act.put, List.getElem_toArray, List.getElem_cons_succ, List.getElem_cons_zero, List.setIfInBounds_toArray, List.set_cons_zero, List.set_cons_succ]
        refine wpAnyH_take (i := 3) (v := undef) rfl (by kernel_rfl) (by kernel_rfl) (by kernel_rfl) (fun _ _ _ h => h) (Or.inr ⟨by rfl, rfl⟩) (by assumption) ?_
        try simp only [Act.put, List.getElem_toArray, List.getElem_cons_succ, List.getElem_cons_zero, List.setIfInBounds_toArray, List.set_cons_zero, List.set_cons_succ]
        refine wpAnyH_take (i := 4) (v := undef) rfl (by kernel_rfl) (by kernel_rfl) (by kernel_rfl) (fun _ _ _ h => h) (Or.inr ⟨by rfl, rfl⟩) (by assumption) ?_
        try simp only [Act.put, List.getElem_toArray, List.getElem_cons_succ, List.getElem_cons_zero, List.setIfInBounds_toArray, List.set_cons_zero, List.set_cons_succ]
        refine wpAnyH_take (i := 5) (v := undef) rfl (by kernel_rfl) (by kernel_rfl) (by kernel_rfl) (fun _ _ _ h => h) (Or.inr ⟨by rfl, rfl⟩) (by assumption) ?_
        try simp only [Act.put, List.getElem_toArray, List.getElem_cons_succ, List.getElem_cons_zero, List.setIfInBounds_toArray, List.set_cons_zero, List.set_cons_succ]
        refine wpAnyH_take (i := 6) (v := undef) rfl (by kernel_rfl) (by kernel_rfl) (by kernel_rfl) (fun _ _ _ h => h) (Or.inr ⟨by rfl, rfl⟩) (by assumption) ?_
        try simp only [Act.put, List.getElem_toArray, List.getElem_cons_succ, List.getElem_cons_zero, List.setIfInBounds_toArray, List.set_cons_zero, List.set_cons_succ]
        refine wpAnyH_take (i := 7) (v := ?_) rfl (by kernel_rfl) (by kernel_rfl) (by kernel_rfl) (fun _ _ _ h => h) (Or.inl ⟨by rfl, ?_⟩) (by assumption) ?_
        rotate_left
        · (intro W2 hSw; go_simp; (try with_reducible rfl))
        try simp only [Act.put, List.getElem_toArray, List.getElem_cons_succ, List.getElem_cons_zero, List.setIfInBounds_toArray, List.set_cons_zero, List.set_cons_succ]
        refine wpAnyH_take (i := 8) (v := ?_) rfl (by kernel_rfl) (by kernel_rfl) (by kernel_rfl) (fun _ _ _ h => h) (Or.inl ⟨by rfl, ?_⟩) (by assumption) ?_
        rotate_left
        · (intro W2 hSw; go_simp; (try with_reducible rfl))
        try simp only [Act.put, List.getElem_toArray, List.getElem_cons_succ, List.getElem_cons_zero, List.setIfInBounds_toArray, List.set_cons_zero, List.set_cons_succ]
        refine wpAnyH_done (by kernel_rfl) ?_ _
        clear d0 d1 d2 d3
        have HF := Lib.hid hHeld
        clear hHeld
        go_wp2
        go_roundw
        case rel => exact ⟨3, by go_num, by rw [HXX.out]; rfl, HF.out.2.2.2, .inr (.inr (.inr (⟨rfl, HF.out.1, HF.out.2.1, HF.out.2.2.1⟩)))⟩
        case measure => simp [intOf]
    · have r := NN3.out
      go_wp2
      go_ret
      exact ⟨rfl, c0, c1, c2, hkp⟩

end Go.Proofs.YtmjkmoahkanblaaGreat

namespace Go.Proofs.YtmjkmoahkanblaaGreat
open Go.RowKit
attribute [local go_sem] run_store_float run_frombits run_bitsof

set_option maxHeartbeats 3200000 in
theorem law_in (x y : Nat) (w : World) : Calls Tryz.prog 11 #[.agg #[.int .u64 (x : Int), .int .u64 (y : Int)]] w fun e w' => e = .returned (.agg #[.float .f64 x, .float .f64 y]) ∧ Below w.heap.size w w' := by
  have LB0 := Lib.hid (show Below w.heap.size w ((w.alloc (.cells #[.int .u64 (x : Int), .int .u64 (y : Int)] 24)).alloc (.cells #[.float .f64 0, .float .f64 0] 29)) from ((below_alloc w _).alloc (by simp <;> omega) _))
  have LG0_0 := Lib.hid (((Blk.at (W := w) (g := w.heap.size) (by simp <;> omega) 24 #[.int .u64 (x : Int), .int .u64 (y : Int)]).alloc (.cells #[.float .f64 0, .float .f64 0] 29)))
  have LR0 := Lib.hid (HasBlk.of (n := 2) (Blk.at (W := (w.alloc (.cells #[.int .u64 (x : Int), .int .u64 (y : Int)] 24))) (g := (w.heap.size + 1)) (by simp <;> omega) 29 #[.float .f64 0, .float .f64 0]) rfl rfl)
  go_enter Tryz.func11, Tryz.ntmps11
  go_wp2_with fail
  clear LB0 LG0_0 LR0
  go_region
  all_goals go_wp2
  all_goals (refine bodyPost_ret (v := .agg #[.float .f64 x, .float .f64 y]) (by simp [results, Tryz.results11, go_sem]) rfl ?_; exact ⟨rfl, ((below_alloc w _).alloc (by simp) _).drew⟩)

set_option maxHeartbeats 3200000 in
theorem law_out (x y : Nat) (w : World) : Calls Tryz.prog 12 #[.agg #[.float .f64 x, .float .f64 y]] w fun e w' => e = .returned (.agg #[.int .u64 (x : Int), .int .u64 (y : Int)]) ∧ Below w.heap.size w w' := by
  have LB0 := Lib.hid (show Below w.heap.size w ((w.alloc (.cells #[.float .f64 x, .float .f64 y] 29)).alloc (.cells #[.int .u64 0, .int .u64 0] 24)) from ((below_alloc w _).alloc (by simp <;> omega) _))
  have LG0_0 := Lib.hid (((Blk.at (W := w) (g := w.heap.size) (by simp <;> omega) 29 #[.float .f64 x, .float .f64 y]).alloc (.cells #[.int .u64 0, .int .u64 0] 24)))
  have LR0 := Lib.hid (HasBlk.of (n := 2) (Blk.at (W := (w.alloc (.cells #[.float .f64 x, .float .f64 y] 29))) (g := (w.heap.size + 1)) (by simp <;> omega) 24 #[.int .u64 0, .int .u64 0]) rfl rfl)
  go_enter Tryz.func12, Tryz.ntmps12
  go_wp2_with fail
  clear LB0 LG0_0 LR0
  go_region
  all_goals go_wp2
  all_goals (refine bodyPost_ret (v := .agg #[.int .u64 (x : Int), .int .u64 (y : Int)]) (by simp [results, Tryz.results12, go_sem]) rfl ?_; exact ⟨rfl, ((below_alloc w _).alloc (by simp) _).drew⟩)

set_option maxHeartbeats 3200000 in
theorem mirrorf (x y : Nat) (w : World) (hx : x < 18446744073709551616) (hy : y < 18446744073709551616) : Calls Tryz.prog 59 #[.agg #[.float .f64 x, .float .f64 y]] w fun e w' => e = .returned (.agg #[.float .f64 (pat (-(rd x y).2)), .float .f64 (pat (-(rd x y).1))]) ∧ Below w.heap.size w w' := by
  have HN := Lib.hid fun W => negf x y W hx hy
  obtain ⟨p, hp⟩ : ∃ p, pat (-(rd x y).2) = p := ⟨_, rfl⟩
  obtain ⟨q, hq⟩ : ∃ p, pat (-(rd x y).1) = p := ⟨_, rfl⟩
  rw [hp, hq] at HN
  rw [hp, hq]
  clear hp hq
  have LB0 := Lib.hid (show Below w.heap.size w ((w.alloc (.cells #[.float .f64 x, .float .f64 y] 29)).alloc (.cells #[.float .f64 0, .float .f64 0] 29)) from ((below_alloc w _).alloc (by simp <;> omega) _))
  have LG0_0 := Lib.hid (((Blk.at (W := w) (g := w.heap.size) (by simp <;> omega) 29 #[.float .f64 x, .float .f64 y]).alloc (.cells #[.float .f64 0, .float .f64 0] 29)))
  have LR0 := Lib.hid (HasBlk.of (n := 2) (Blk.at (W := (w.alloc (.cells #[.float .f64 x, .float .f64 y] 29))) (g := (w.heap.size + 1)) (by simp <;> omega) 29 #[.float .f64 0, .float .f64 0]) rfl rfl)
  go_enter Tryz.func59, Tryz.ntmps59
  go_wp2_with fail
  refine (HN.out _).mono ?_
  rintro e w1 ⟨rfl, hb1⟩
  have LB1 := Lib.hid (LB0.out.trans (hb1.mono LB0.out.size))
  have LR1 := Lib.hid (LR0.out.keep hb1)
  have LG0_1 := Lib.hid (LG0_0.out.keep hb1)
  clear LB0 LR0 LG0_0
  clear hb1
  have ha0 := LR1.out.someCell 0 (by decide)
  have hf0 := LR1.out.frozen 0
  have ha1 := LR1.out.someCell 1 (by decide)
  have hf1 := LR1.out.frozen 1
  have hk0 := LR1.out.setCell [.float .f64 p, .float .f64 q] rfl 0 (by decide)
  have hk1 := LR1.out.setCell [.float .f64 p, .float .f64 q] rfl 1 (by decide)
  have F := Lib.hid (below_sets (w0 := w) (r := (w.heap.size + 1)) (by omega) [.float .f64 p, .float .f64 q] 0 _ LB1.out)
  simp [sets] at hk0 hk1
  go_wp2
  refine bodyPost_ret (v := .agg #[.float .f64 p, .float .f64 q]) (by simp [results, Tryz.results59, go_sem, hk0, hk1]) rfl ?_
  exact ⟨rfl, F.out⟩

end Go.Proofs.YtmjkmoahkanblaaGreat
