/-
Short forms of the walks' steps.
The blocks that a walk holds, in one fact; a region's steps in whatever order.
Floats of 64 bits as rungs: the magnitude of a rung, its order, and how the model's 'nearest', 'order', 'add' read in these words. Plain Lean: no program in sight.
The model's floats of 64 bits (Ieee.double) in rungs: 'nearest', 'read', 'order'.
A word of 64 bits as an index (its rung, with the sign), and an index as a whole number of units of 2^-1074; how the model's comparisons, sums and products of words read in these words.
Patterns of binary64: plain ones, keys, what is read of two ends. No program.
Walks: package vergeref2, Small, Word.
-/
import Derived.Test.YthlmlmfebpjgdaaGreatDoorM03
import Derived.Deep.CutRange
import Derived.Laws.FloatBits
import Derived.Test.YthlmlmfebpjgdaaGreatDoorM02
set_option linter.unusedSimpArgs false
set_option linter.unusedVariables false
set_option maxHeartbeats 12800000

namespace Go.Proofs.YthlmlmfebpjgdaaGreatDoor
open Go.RowKit
section
variable {P : Program} {ops : Array Oper} {Q : Exit → Act → World → Prop} {md : Region.Mode} {S : World → Prop} {fuel : Nat} {listed : Array Bool} {a : Act} {w : World}
theorem tk (i : Nat) {oi : Oper} {v : Value} (h : wpAnyH P md ops Q S fuel (listed.setIfInBounds i true) (a.put oi.dst v) w) (hi : ops[i]? = some oi := by rfl) (hs : Region.noSelect ops = true := by kernel_rfl) (hf : Region.free md ops listed i = true := by kernel_rfl) (hr : (Region.ready md ops listed).contains i = true := by kernel_rfl)
    (hQ : ∀ c a w, Q (.panic c) (a.put oi.dst v) w → Q (.panic c) a w := by exact fun _ _ _ h => h) (hw : Region.wanted oi (yielded ops a.tmps) = true := by rfl) (hv : ∀ w, S w → (execOp a.eval oi).run P w = .ok (.value v) w := by intro W2 hSw; go_simp; (try with_reducible rfl)) (hS : S w := by assumption) : wpAnyH P md ops Q S (fuel + 1) listed a w :=
  wpAnyH_take hi hs hf hr hQ (Or.inl ⟨hw, hv⟩) hS h
theorem tkn (i : Nat) {oi : Oper} (h : wpAnyH P md ops Q S fuel (listed.setIfInBounds i true) (a.put oi.dst undef) w) (hi : ops[i]? = some oi := by rfl) (hs : Region.noSelect ops = true := by kernel_rfl) (hf : Region.free md ops listed i = true := by kernel_rfl) (hr : (Region.ready md ops listed).contains i = true := by kernel_rfl)
    (hQ : ∀ c a w, Q (.panic c) (a.put oi.dst undef) w → Q (.panic c) a w := by exact fun _ _ _ h => h) (hw : Region.wanted oi (yielded ops a.tmps) = false := by rfl) (hS : S w := by assumption) : wpAnyH P md ops Q S (fuel + 1) listed a w :=
  wpAnyH_take hi hs hf hr hQ (Or.inr ⟨hw, rfl⟩) hS h
theorem rdy (i : Nat) {o : Oper} (h : ∀ K' : Act → World → Prop, Shut (∀ a w, S w → (S w → wpAnyH P md ops Q S fuel (listed.setIfInBounds i true) a w) → K' a w) → if Region.wanted o (yielded ops a.tmps) = true then Oper.wp P o a w K' Q else K' (a.put o.dst undef) w)
    (hr : Region.ready md ops listed = [i] := by kernel_rfl) (ho : ops[i]? = some o := by rfl) : wpAnyH P md ops Q S (fuel + 1) listed a w :=
  wpAnyH_ready hr (by simp) (AllReadyH.cons ho h AllReadyH.nil)
end
theorem lay : (∀ (α : Type) (l : List α) (i : Nat) (h : i < l.toArray.size), l.toArray[i] = l[i]'(by simpa using h)) ∧ (∀ (α : Type) (a : α) (l : List α) (i : Nat) (h : i + 1 < (a :: l).length), (a :: l)[i + 1] = l[i]'(by simpa using h)) ∧
    (∀ (α : Type) (a : α) (l : List α) (h : 0 < (a :: l).length), (a :: l)[0] = a) ∧ (∀ (α : Type) (l : List α) (i : Nat) (a : α), l.toArray.setIfInBounds i a = (l.set i a).toArray) ∧ (∀ (α : Type) (a b : α) (l : List α), (a :: l).set 0 b = b :: l) ∧ (∀ (α : Type) (a b : α) (l : List α) (n : Nat), (a :: l).set (n + 1) b = a :: l.set n b) :=
  ⟨fun _ _ _ _ => by simp, fun _ _ _ _ _ => rfl, fun _ _ _ _ => rfl, fun _ _ _ _ => by simp, fun _ _ _ _ => rfl, fun _ _ _ _ _ => rfl⟩
section
variable {w0 W W' : World} {g : Nat} {t : TypeId} {cs : Array Value} {B n : Nat}
theorem stB (h : Hid (Below B w0 W)) (hb : Below W.heap.size W W') (hs : B ≤ W.heap.size := by exact Below.size (Hid.out (by assumption))) : Hid (Below B w0 W') := Lib.hid (h.out.trans (hb.mono hs))
theorem stG (h : Hid (Blk W g t cs)) (hb : Below W.heap.size W W') : Hid (Blk W' g t cs) := Lib.hid (h.out.keep hb)
theorem stR (h : Hid (HasBlk W g t n)) (hb : Below W.heap.size W W') : Hid (HasBlk W' g t n) := Lib.hid (h.out.keep hb)
theorem Blk.ce (h : Blk W g t cs) (i : Nat) {v : Value} (hv : cs[i]? = some v) : W.cell? ⟨g, i, none⟩ = some v := (h.cell i).trans hv
theorem Blk.c2 {v0 v1 : Value} (h : Blk W g t #[v0, v1]) : W.cell? ⟨g, 0, none⟩ = some v0 ∧ W.cell? ⟨g, 1, none⟩ = some v1 := ⟨h.cell 0, h.cell 1⟩
theorem Blk.c3 {v0 v1 v2 : Value} (h : Blk W g t #[v0, v1, v2]) : W.cell? ⟨g, 0, none⟩ = some v0 ∧ W.cell? ⟨g, 1, none⟩ = some v1 ∧ W.cell? ⟨g, 2, none⟩ = some v2 := ⟨h.cell 0, h.cell 1, h.cell 2⟩
theorem Blk.c4 {v0 v1 v2 v3 : Value} (h : Blk W g t #[v0, v1, v2, v3]) : W.cell? ⟨g, 0, none⟩ = some v0 ∧ W.cell? ⟨g, 1, none⟩ = some v1 ∧ W.cell? ⟨g, 2, none⟩ = some v2 ∧ W.cell? ⟨g, 3, none⟩ = some v3 := ⟨h.cell 0, h.cell 1, h.cell 2, h.cell 3⟩
theorem Blk.c5 {v0 v1 v2 v3 v4 : Value} (h : Blk W g t #[v0, v1, v2, v3, v4]) : W.cell? ⟨g, 0, none⟩ = some v0 ∧ W.cell? ⟨g, 1, none⟩ = some v1 ∧ W.cell? ⟨g, 2, none⟩ = some v2 ∧ W.cell? ⟨g, 3, none⟩ = some v3 ∧ W.cell? ⟨g, 4, none⟩ = some v4 := ⟨h.cell 0, h.cell 1, h.cell 2, h.cell 3, h.cell 4⟩
theorem Blk.c6 {v0 v1 v2 v3 v4 v5 : Value} (h : Blk W g t #[v0, v1, v2, v3, v4, v5]) : W.cell? ⟨g, 0, none⟩ = some v0 ∧ W.cell? ⟨g, 1, none⟩ = some v1 ∧ W.cell? ⟨g, 2, none⟩ = some v2 ∧ W.cell? ⟨g, 3, none⟩ = some v3 ∧ W.cell? ⟨g, 4, none⟩ = some v4 ∧ W.cell? ⟨g, 5, none⟩ = some v5 := ⟨h.cell 0, h.cell 1, h.cell 2, h.cell 3, h.cell 4, h.cell 5⟩
theorem Blk.c7 {v0 v1 v2 v3 v4 v5 v6 : Value} (h : Blk W g t #[v0, v1, v2, v3, v4, v5, v6]) : W.cell? ⟨g, 0, none⟩ = some v0 ∧ W.cell? ⟨g, 1, none⟩ = some v1 ∧ W.cell? ⟨g, 2, none⟩ = some v2 ∧ W.cell? ⟨g, 3, none⟩ = some v3 ∧ W.cell? ⟨g, 4, none⟩ = some v4 ∧ W.cell? ⟨g, 5, none⟩ = some v5 ∧ W.cell? ⟨g, 6, none⟩ = some v6 := ⟨h.cell 0, h.cell 1, h.cell 2, h.cell 3, h.cell 4, h.cell 5, h.cell 6⟩
theorem Blk.c8 {v0 v1 v2 v3 v4 v5 v6 v7 : Value} (h : Blk W g t #[v0, v1, v2, v3, v4, v5, v6, v7]) : W.cell? ⟨g, 0, none⟩ = some v0 ∧ W.cell? ⟨g, 1, none⟩ = some v1 ∧ W.cell? ⟨g, 2, none⟩ = some v2 ∧ W.cell? ⟨g, 3, none⟩ = some v3 ∧ W.cell? ⟨g, 4, none⟩ = some v4 ∧ W.cell? ⟨g, 5, none⟩ = some v5 ∧ W.cell? ⟨g, 6, none⟩ = some v6 ∧ W.cell? ⟨g, 7, none⟩ = some v7 := ⟨h.cell 0, h.cell 1, h.cell 2, h.cell 3, h.cell 4, h.cell 5, h.cell 6, h.cell 7⟩
theorem Blk.c9 {v0 v1 v2 v3 v4 v5 v6 v7 v8 : Value} (h : Blk W g t #[v0, v1, v2, v3, v4, v5, v6, v7, v8]) : W.cell? ⟨g, 0, none⟩ = some v0 ∧ W.cell? ⟨g, 1, none⟩ = some v1 ∧ W.cell? ⟨g, 2, none⟩ = some v2 ∧ W.cell? ⟨g, 3, none⟩ = some v3 ∧ W.cell? ⟨g, 4, none⟩ = some v4 ∧ W.cell? ⟨g, 5, none⟩ = some v5 ∧ W.cell? ⟨g, 6, none⟩ = some v6 ∧ W.cell? ⟨g, 7, none⟩ = some v7 ∧ W.cell? ⟨g, 8, none⟩ = some v8 := ⟨h.cell 0, h.cell 1, h.cell 2, h.cell 3, h.cell 4, h.cell 5, h.cell 6, h.cell 7, h.cell 8⟩
theorem Blk.c10 {v0 v1 v2 v3 v4 v5 v6 v7 v8 v9 : Value} (h : Blk W g t #[v0, v1, v2, v3, v4, v5, v6, v7, v8, v9]) : W.cell? ⟨g, 0, none⟩ = some v0 ∧ W.cell? ⟨g, 1, none⟩ = some v1 ∧ W.cell? ⟨g, 2, none⟩ = some v2 ∧ W.cell? ⟨g, 3, none⟩ = some v3 ∧ W.cell? ⟨g, 4, none⟩ = some v4 ∧ W.cell? ⟨g, 5, none⟩ = some v5 ∧ W.cell? ⟨g, 6, none⟩ = some v6 ∧ W.cell? ⟨g, 7, none⟩ = some v7 ∧ W.cell? ⟨g, 8, none⟩ = some v8 ∧ W.cell? ⟨g, 9, none⟩ = some v9 := ⟨h.cell 0, h.cell 1, h.cell 2, h.cell 3, h.cell 4, h.cell 5, h.cell 6, h.cell 7, h.cell 8, h.cell 9⟩
theorem Blk.c11 {v0 v1 v2 v3 v4 v5 v6 v7 v8 v9 v10 : Value} (h : Blk W g t #[v0, v1, v2, v3, v4, v5, v6, v7, v8, v9, v10]) : W.cell? ⟨g, 0, none⟩ = some v0 ∧ W.cell? ⟨g, 1, none⟩ = some v1 ∧ W.cell? ⟨g, 2, none⟩ = some v2 ∧ W.cell? ⟨g, 3, none⟩ = some v3 ∧ W.cell? ⟨g, 4, none⟩ = some v4 ∧ W.cell? ⟨g, 5, none⟩ = some v5 ∧ W.cell? ⟨g, 6, none⟩ = some v6 ∧ W.cell? ⟨g, 7, none⟩ = some v7 ∧ W.cell? ⟨g, 8, none⟩ = some v8 ∧ W.cell? ⟨g, 9, none⟩ = some v9 ∧ W.cell? ⟨g, 10, none⟩ = some v10 := ⟨h.cell 0, h.cell 1, h.cell 2, h.cell 3, h.cell 4, h.cell 5, h.cell 6, h.cell 7, h.cell 8, h.cell 9, h.cell 10⟩
theorem Blk.c12 {v0 v1 v2 v3 v4 v5 v6 v7 v8 v9 v10 v11 : Value} (h : Blk W g t #[v0, v1, v2, v3, v4, v5, v6, v7, v8, v9, v10, v11]) : W.cell? ⟨g, 0, none⟩ = some v0 ∧ W.cell? ⟨g, 1, none⟩ = some v1 ∧ W.cell? ⟨g, 2, none⟩ = some v2 ∧ W.cell? ⟨g, 3, none⟩ = some v3 ∧ W.cell? ⟨g, 4, none⟩ = some v4 ∧ W.cell? ⟨g, 5, none⟩ = some v5 ∧ W.cell? ⟨g, 6, none⟩ = some v6 ∧ W.cell? ⟨g, 7, none⟩ = some v7 ∧ W.cell? ⟨g, 8, none⟩ = some v8 ∧ W.cell? ⟨g, 9, none⟩ = some v9 ∧ W.cell? ⟨g, 10, none⟩ = some v10 ∧ W.cell? ⟨g, 11, none⟩ = some v11 := ⟨h.cell 0, h.cell 1, h.cell 2, h.cell 3, h.cell 4, h.cell 5, h.cell 6, h.cell 7, h.cell 8, h.cell 9, h.cell 10, h.cell 11⟩
theorem Blk.c13 {v0 v1 v2 v3 v4 v5 v6 v7 v8 v9 v10 v11 v12 : Value} (h : Blk W g t #[v0, v1, v2, v3, v4, v5, v6, v7, v8, v9, v10, v11, v12]) : W.cell? ⟨g, 0, none⟩ = some v0 ∧ W.cell? ⟨g, 1, none⟩ = some v1 ∧ W.cell? ⟨g, 2, none⟩ = some v2 ∧ W.cell? ⟨g, 3, none⟩ = some v3 ∧ W.cell? ⟨g, 4, none⟩ = some v4 ∧ W.cell? ⟨g, 5, none⟩ = some v5 ∧ W.cell? ⟨g, 6, none⟩ = some v6 ∧ W.cell? ⟨g, 7, none⟩ = some v7 ∧ W.cell? ⟨g, 8, none⟩ = some v8 ∧ W.cell? ⟨g, 9, none⟩ = some v9 ∧ W.cell? ⟨g, 10, none⟩ = some v10 ∧ W.cell? ⟨g, 11, none⟩ = some v11 ∧ W.cell? ⟨g, 12, none⟩ = some v12 := ⟨h.cell 0, h.cell 1, h.cell 2, h.cell 3, h.cell 4, h.cell 5, h.cell 6, h.cell 7, h.cell 8, h.cell 9, h.cell 10, h.cell 11, h.cell 12⟩
theorem HasBlk.sf2 (h : HasBlk W g t 2) : W.cell? ⟨g, 0, none⟩ = some (cellOf W ⟨g, 0, none⟩) ∧ W.frozen? ⟨g, 0, none⟩ = false ∧ W.cell? ⟨g, 1, none⟩ = some (cellOf W ⟨g, 1, none⟩) ∧ W.frozen? ⟨g, 1, none⟩ = false := ⟨h.someCell 0 (by decide), h.frozen 0, h.someCell 1 (by decide), h.frozen 1⟩
theorem HasBlk.sf3 (h : HasBlk W g t 3) : W.cell? ⟨g, 0, none⟩ = some (cellOf W ⟨g, 0, none⟩) ∧ W.frozen? ⟨g, 0, none⟩ = false ∧ W.cell? ⟨g, 1, none⟩ = some (cellOf W ⟨g, 1, none⟩) ∧ W.frozen? ⟨g, 1, none⟩ = false ∧ W.cell? ⟨g, 2, none⟩ = some (cellOf W ⟨g, 2, none⟩) ∧ W.frozen? ⟨g, 2, none⟩ = false := ⟨h.someCell 0 (by decide), h.frozen 0, h.someCell 1 (by decide), h.frozen 1, h.someCell 2 (by decide), h.frozen 2⟩
theorem HasBlk.sf4 (h : HasBlk W g t 4) : W.cell? ⟨g, 0, none⟩ = some (cellOf W ⟨g, 0, none⟩) ∧ W.frozen? ⟨g, 0, none⟩ = false ∧ W.cell? ⟨g, 1, none⟩ = some (cellOf W ⟨g, 1, none⟩) ∧ W.frozen? ⟨g, 1, none⟩ = false ∧ W.cell? ⟨g, 2, none⟩ = some (cellOf W ⟨g, 2, none⟩) ∧ W.frozen? ⟨g, 2, none⟩ = false ∧ W.cell? ⟨g, 3, none⟩ = some (cellOf W ⟨g, 3, none⟩) ∧ W.frozen? ⟨g, 3, none⟩ = false := ⟨h.someCell 0 (by decide), h.frozen 0, h.someCell 1 (by decide), h.frozen 1, h.someCell 2 (by decide), h.frozen 2, h.someCell 3 (by decide), h.frozen 3⟩
theorem HasBlk.sf6 (h : HasBlk W g t 6) : W.cell? ⟨g, 0, none⟩ = some (cellOf W ⟨g, 0, none⟩) ∧ W.frozen? ⟨g, 0, none⟩ = false ∧ W.cell? ⟨g, 1, none⟩ = some (cellOf W ⟨g, 1, none⟩) ∧ W.frozen? ⟨g, 1, none⟩ = false ∧ W.cell? ⟨g, 2, none⟩ = some (cellOf W ⟨g, 2, none⟩) ∧ W.frozen? ⟨g, 2, none⟩ = false ∧ W.cell? ⟨g, 3, none⟩ = some (cellOf W ⟨g, 3, none⟩) ∧ W.frozen? ⟨g, 3, none⟩ = false ∧ W.cell? ⟨g, 4, none⟩ = some (cellOf W ⟨g, 4, none⟩) ∧ W.frozen? ⟨g, 4, none⟩ = false ∧ W.cell? ⟨g, 5, none⟩ = some (cellOf W ⟨g, 5, none⟩) ∧ W.frozen? ⟨g, 5, none⟩ = false := ⟨h.someCell 0 (by decide), h.frozen 0, h.someCell 1 (by decide), h.frozen 1, h.someCell 2 (by decide), h.frozen 2, h.someCell 3 (by decide), h.frozen 3, h.someCell 4 (by decide), h.frozen 4, h.someCell 5 (by decide), h.frozen 5⟩
theorem HasBlk.sf9 (h : HasBlk W g t 9) : W.cell? ⟨g, 0, none⟩ = some (cellOf W ⟨g, 0, none⟩) ∧ W.frozen? ⟨g, 0, none⟩ = false ∧ W.cell? ⟨g, 1, none⟩ = some (cellOf W ⟨g, 1, none⟩) ∧ W.frozen? ⟨g, 1, none⟩ = false ∧ W.cell? ⟨g, 2, none⟩ = some (cellOf W ⟨g, 2, none⟩) ∧ W.frozen? ⟨g, 2, none⟩ = false ∧ W.cell? ⟨g, 3, none⟩ = some (cellOf W ⟨g, 3, none⟩) ∧ W.frozen? ⟨g, 3, none⟩ = false ∧ W.cell? ⟨g, 4, none⟩ = some (cellOf W ⟨g, 4, none⟩) ∧ W.frozen? ⟨g, 4, none⟩ = false ∧ W.cell? ⟨g, 5, none⟩ = some (cellOf W ⟨g, 5, none⟩) ∧ W.frozen? ⟨g, 5, none⟩ = false ∧ W.cell? ⟨g, 6, none⟩ = some (cellOf W ⟨g, 6, none⟩) ∧ W.frozen? ⟨g, 6, none⟩ = false ∧ W.cell? ⟨g, 7, none⟩ = some (cellOf W ⟨g, 7, none⟩) ∧ W.frozen? ⟨g, 7, none⟩ = false ∧ W.cell? ⟨g, 8, none⟩ = some (cellOf W ⟨g, 8, none⟩) ∧ W.frozen? ⟨g, 8, none⟩ = false := ⟨h.someCell 0 (by decide), h.frozen 0, h.someCell 1 (by decide), h.frozen 1, h.someCell 2 (by decide), h.frozen 2, h.someCell 3 (by decide), h.frozen 3, h.someCell 4 (by decide), h.frozen 4, h.someCell 5 (by decide), h.frozen 5, h.someCell 6 (by decide), h.frozen 6, h.someCell 7 (by decide), h.frozen 7, h.someCell 8 (by decide), h.frozen 8⟩
theorem HasBlk.sf13 (h : HasBlk W g t 13) : W.cell? ⟨g, 0, none⟩ = some (cellOf W ⟨g, 0, none⟩) ∧ W.frozen? ⟨g, 0, none⟩ = false ∧ W.cell? ⟨g, 1, none⟩ = some (cellOf W ⟨g, 1, none⟩) ∧ W.frozen? ⟨g, 1, none⟩ = false ∧ W.cell? ⟨g, 2, none⟩ = some (cellOf W ⟨g, 2, none⟩) ∧ W.frozen? ⟨g, 2, none⟩ = false ∧ W.cell? ⟨g, 3, none⟩ = some (cellOf W ⟨g, 3, none⟩) ∧ W.frozen? ⟨g, 3, none⟩ = false ∧ W.cell? ⟨g, 4, none⟩ = some (cellOf W ⟨g, 4, none⟩) ∧ W.frozen? ⟨g, 4, none⟩ = false ∧ W.cell? ⟨g, 5, none⟩ = some (cellOf W ⟨g, 5, none⟩) ∧ W.frozen? ⟨g, 5, none⟩ = false ∧ W.cell? ⟨g, 6, none⟩ = some (cellOf W ⟨g, 6, none⟩) ∧ W.frozen? ⟨g, 6, none⟩ = false ∧ W.cell? ⟨g, 7, none⟩ = some (cellOf W ⟨g, 7, none⟩) ∧ W.frozen? ⟨g, 7, none⟩ = false ∧ W.cell? ⟨g, 8, none⟩ = some (cellOf W ⟨g, 8, none⟩) ∧ W.frozen? ⟨g, 8, none⟩ = false ∧ W.cell? ⟨g, 9, none⟩ = some (cellOf W ⟨g, 9, none⟩) ∧ W.frozen? ⟨g, 9, none⟩ = false ∧ W.cell? ⟨g, 10, none⟩ = some (cellOf W ⟨g, 10, none⟩) ∧ W.frozen? ⟨g, 10, none⟩ = false ∧ W.cell? ⟨g, 11, none⟩ = some (cellOf W ⟨g, 11, none⟩) ∧ W.frozen? ⟨g, 11, none⟩ = false ∧ W.cell? ⟨g, 12, none⟩ = some (cellOf W ⟨g, 12, none⟩) ∧ W.frozen? ⟨g, 12, none⟩ = false := ⟨h.someCell 0 (by decide), h.frozen 0, h.someCell 1 (by decide), h.frozen 1, h.someCell 2 (by decide), h.frozen 2, h.someCell 3 (by decide), h.frozen 3, h.someCell 4 (by decide), h.frozen 4, h.someCell 5 (by decide), h.frozen 5, h.someCell 6 (by decide), h.frozen 6, h.someCell 7 (by decide), h.frozen 7, h.someCell 8 (by decide), h.frozen 8, h.someCell 9 (by decide), h.frozen 9, h.someCell 10 (by decide), h.frozen 10, h.someCell 11 (by decide), h.frozen 11, h.someCell 12 (by decide), h.frozen 12⟩
theorem HasBlk.sc2 (h : HasBlk W g t 2) (v0 v1 : Value) : (Proofs.YthlmlmfebpjgdaaGreatDoor.sets W g 0 [v0, v1]).cell? ⟨g, 0, none⟩ = some v0 ∧ (Proofs.YthlmlmfebpjgdaaGreatDoor.sets W g 0 [v0, v1]).cell? ⟨g, 1, none⟩ = some v1 := ⟨h.setCell _ rfl 0 (by decide), h.setCell _ rfl 1 (by decide)⟩
theorem HasBlk.sc3 (h : HasBlk W g t 3) (v0 v1 v2 : Value) : (Proofs.YthlmlmfebpjgdaaGreatDoor.sets W g 0 [v0, v1, v2]).cell? ⟨g, 0, none⟩ = some v0 ∧ (Proofs.YthlmlmfebpjgdaaGreatDoor.sets W g 0 [v0, v1, v2]).cell? ⟨g, 1, none⟩ = some v1 ∧ (Proofs.YthlmlmfebpjgdaaGreatDoor.sets W g 0 [v0, v1, v2]).cell? ⟨g, 2, none⟩ = some v2 := ⟨h.setCell _ rfl 0 (by decide), h.setCell _ rfl 1 (by decide), h.setCell _ rfl 2 (by decide)⟩
theorem HasBlk.sc4 (h : HasBlk W g t 4) (v0 v1 v2 v3 : Value) : (Proofs.YthlmlmfebpjgdaaGreatDoor.sets W g 0 [v0, v1, v2, v3]).cell? ⟨g, 0, none⟩ = some v0 ∧ (Proofs.YthlmlmfebpjgdaaGreatDoor.sets W g 0 [v0, v1, v2, v3]).cell? ⟨g, 1, none⟩ = some v1 ∧ (Proofs.YthlmlmfebpjgdaaGreatDoor.sets W g 0 [v0, v1, v2, v3]).cell? ⟨g, 2, none⟩ = some v2 ∧ (Proofs.YthlmlmfebpjgdaaGreatDoor.sets W g 0 [v0, v1, v2, v3]).cell? ⟨g, 3, none⟩ = some v3 := ⟨h.setCell _ rfl 0 (by decide), h.setCell _ rfl 1 (by decide), h.setCell _ rfl 2 (by decide), h.setCell _ rfl 3 (by decide)⟩
theorem HasBlk.sc6 (h : HasBlk W g t 6) (v0 v1 v2 v3 v4 v5 : Value) : (Proofs.YthlmlmfebpjgdaaGreatDoor.sets W g 0 [v0, v1, v2, v3, v4, v5]).cell? ⟨g, 0, none⟩ = some v0 ∧ (Proofs.YthlmlmfebpjgdaaGreatDoor.sets W g 0 [v0, v1, v2, v3, v4, v5]).cell? ⟨g, 1, none⟩ = some v1 ∧ (Proofs.YthlmlmfebpjgdaaGreatDoor.sets W g 0 [v0, v1, v2, v3, v4, v5]).cell? ⟨g, 2, none⟩ = some v2 ∧ (Proofs.YthlmlmfebpjgdaaGreatDoor.sets W g 0 [v0, v1, v2, v3, v4, v5]).cell? ⟨g, 3, none⟩ = some v3 ∧ (Proofs.YthlmlmfebpjgdaaGreatDoor.sets W g 0 [v0, v1, v2, v3, v4, v5]).cell? ⟨g, 4, none⟩ = some v4 ∧ (Proofs.YthlmlmfebpjgdaaGreatDoor.sets W g 0 [v0, v1, v2, v3, v4, v5]).cell? ⟨g, 5, none⟩ = some v5 := ⟨h.setCell _ rfl 0 (by decide), h.setCell _ rfl 1 (by decide), h.setCell _ rfl 2 (by decide), h.setCell _ rfl 3 (by decide), h.setCell _ rfl 4 (by decide), h.setCell _ rfl 5 (by decide)⟩
theorem HasBlk.sc9 (h : HasBlk W g t 9) (v0 v1 v2 v3 v4 v5 v6 v7 v8 : Value) : (Proofs.YthlmlmfebpjgdaaGreatDoor.sets W g 0 [v0, v1, v2, v3, v4, v5, v6, v7, v8]).cell? ⟨g, 0, none⟩ = some v0 ∧ (Proofs.YthlmlmfebpjgdaaGreatDoor.sets W g 0 [v0, v1, v2, v3, v4, v5, v6, v7, v8]).cell? ⟨g, 1, none⟩ = some v1 ∧ (Proofs.YthlmlmfebpjgdaaGreatDoor.sets W g 0 [v0, v1, v2, v3, v4, v5, v6, v7, v8]).cell? ⟨g, 2, none⟩ = some v2 ∧ (Proofs.YthlmlmfebpjgdaaGreatDoor.sets W g 0 [v0, v1, v2, v3, v4, v5, v6, v7, v8]).cell? ⟨g, 3, none⟩ = some v3 ∧ (Proofs.YthlmlmfebpjgdaaGreatDoor.sets W g 0 [v0, v1, v2, v3, v4, v5, v6, v7, v8]).cell? ⟨g, 4, none⟩ = some v4 ∧ (Proofs.YthlmlmfebpjgdaaGreatDoor.sets W g 0 [v0, v1, v2, v3, v4, v5, v6, v7, v8]).cell? ⟨g, 5, none⟩ = some v5 ∧ (Proofs.YthlmlmfebpjgdaaGreatDoor.sets W g 0 [v0, v1, v2, v3, v4, v5, v6, v7, v8]).cell? ⟨g, 6, none⟩ = some v6 ∧ (Proofs.YthlmlmfebpjgdaaGreatDoor.sets W g 0 [v0, v1, v2, v3, v4, v5, v6, v7, v8]).cell? ⟨g, 7, none⟩ = some v7 ∧ (Proofs.YthlmlmfebpjgdaaGreatDoor.sets W g 0 [v0, v1, v2, v3, v4, v5, v6, v7, v8]).cell? ⟨g, 8, none⟩ = some v8 := ⟨h.setCell _ rfl 0 (by decide), h.setCell _ rfl 1 (by decide), h.setCell _ rfl 2 (by decide), h.setCell _ rfl 3 (by decide), h.setCell _ rfl 4 (by decide), h.setCell _ rfl 5 (by decide), h.setCell _ rfl 6 (by decide), h.setCell _ rfl 7 (by decide), h.setCell _ rfl 8 (by decide)⟩
theorem HasBlk.sc13 (h : HasBlk W g t 13) (v0 v1 v2 v3 v4 v5 v6 v7 v8 v9 v10 v11 v12 : Value) : (Proofs.YthlmlmfebpjgdaaGreatDoor.sets W g 0 [v0, v1, v2, v3, v4, v5, v6, v7, v8, v9, v10, v11, v12]).cell? ⟨g, 0, none⟩ = some v0 ∧ (Proofs.YthlmlmfebpjgdaaGreatDoor.sets W g 0 [v0, v1, v2, v3, v4, v5, v6, v7, v8, v9, v10, v11, v12]).cell? ⟨g, 1, none⟩ = some v1 ∧ (Proofs.YthlmlmfebpjgdaaGreatDoor.sets W g 0 [v0, v1, v2, v3, v4, v5, v6, v7, v8, v9, v10, v11, v12]).cell? ⟨g, 2, none⟩ = some v2 ∧ (Proofs.YthlmlmfebpjgdaaGreatDoor.sets W g 0 [v0, v1, v2, v3, v4, v5, v6, v7, v8, v9, v10, v11, v12]).cell? ⟨g, 3, none⟩ = some v3 ∧ (Proofs.YthlmlmfebpjgdaaGreatDoor.sets W g 0 [v0, v1, v2, v3, v4, v5, v6, v7, v8, v9, v10, v11, v12]).cell? ⟨g, 4, none⟩ = some v4 ∧ (Proofs.YthlmlmfebpjgdaaGreatDoor.sets W g 0 [v0, v1, v2, v3, v4, v5, v6, v7, v8, v9, v10, v11, v12]).cell? ⟨g, 5, none⟩ = some v5 ∧ (Proofs.YthlmlmfebpjgdaaGreatDoor.sets W g 0 [v0, v1, v2, v3, v4, v5, v6, v7, v8, v9, v10, v11, v12]).cell? ⟨g, 6, none⟩ = some v6 ∧ (Proofs.YthlmlmfebpjgdaaGreatDoor.sets W g 0 [v0, v1, v2, v3, v4, v5, v6, v7, v8, v9, v10, v11, v12]).cell? ⟨g, 7, none⟩ = some v7 ∧ (Proofs.YthlmlmfebpjgdaaGreatDoor.sets W g 0 [v0, v1, v2, v3, v4, v5, v6, v7, v8, v9, v10, v11, v12]).cell? ⟨g, 8, none⟩ = some v8 ∧ (Proofs.YthlmlmfebpjgdaaGreatDoor.sets W g 0 [v0, v1, v2, v3, v4, v5, v6, v7, v8, v9, v10, v11, v12]).cell? ⟨g, 9, none⟩ = some v9 ∧ (Proofs.YthlmlmfebpjgdaaGreatDoor.sets W g 0 [v0, v1, v2, v3, v4, v5, v6, v7, v8, v9, v10, v11, v12]).cell? ⟨g, 10, none⟩ = some v10 ∧ (Proofs.YthlmlmfebpjgdaaGreatDoor.sets W g 0 [v0, v1, v2, v3, v4, v5, v6, v7, v8, v9, v10, v11, v12]).cell? ⟨g, 11, none⟩ = some v11 ∧ (Proofs.YthlmlmfebpjgdaaGreatDoor.sets W g 0 [v0, v1, v2, v3, v4, v5, v6, v7, v8, v9, v10, v11, v12]).cell? ⟨g, 12, none⟩ = some v12 := ⟨h.setCell _ rfl 0 (by decide), h.setCell _ rfl 1 (by decide), h.setCell _ rfl 2 (by decide), h.setCell _ rfl 3 (by decide), h.setCell _ rfl 4 (by decide), h.setCell _ rfl 5 (by decide), h.setCell _ rfl 6 (by decide), h.setCell _ rfl 7 (by decide), h.setCell _ rfl 8 (by decide), h.setCell _ rfl 9 (by decide), h.setCell _ rfl 10 (by decide), h.setCell _ rfl 11 (by decide), h.setCell _ rfl 12 (by decide)⟩
end
theorem bx1 (w : World) (c0 : Array Value) (t0 : TypeId) : Hid (Below w.heap.size w (w.alloc (.cells c0 t0))) ∧ Hid (Blk (w.alloc (.cells c0 t0)) w.heap.size t0 c0) := ⟨Lib.hid (below_alloc w _), Lib.hid (Blk.at (W := w) (g := w.heap.size) (by simp <;> omega) t0 c0)⟩
theorem bx2 (w : World) (c0 : Array Value) (t0 : TypeId) (c1 : Array Value) (t1 : TypeId) : Hid (Below w.heap.size w ((w.alloc (.cells c0 t0)).alloc (.cells c1 t1))) ∧ Hid (Blk ((w.alloc (.cells c0 t0)).alloc (.cells c1 t1)) w.heap.size t0 c0) ∧ Hid (Blk ((w.alloc (.cells c0 t0)).alloc (.cells c1 t1)) (w.heap.size + 1) t1 c1) := ⟨Lib.hid ((below_alloc w _).alloc (by simp <;> omega) _), Lib.hid ((Blk.at (W := w) (g := w.heap.size) (by simp <;> omega) t0 c0).alloc _), Lib.hid (Blk.at (W := (w.alloc (.cells c0 t0))) (g := (w.heap.size + 1)) (by simp <;> omega) t1 c1)⟩
theorem bx3 (w : World) (c0 : Array Value) (t0 : TypeId) (c1 : Array Value) (t1 : TypeId) (c2 : Array Value) (t2 : TypeId) : Hid (Below w.heap.size w (((w.alloc (.cells c0 t0)).alloc (.cells c1 t1)).alloc (.cells c2 t2))) ∧ Hid (Blk (((w.alloc (.cells c0 t0)).alloc (.cells c1 t1)).alloc (.cells c2 t2)) w.heap.size t0 c0) ∧ Hid (Blk (((w.alloc (.cells c0 t0)).alloc (.cells c1 t1)).alloc (.cells c2 t2)) (w.heap.size + 1) t1 c1) ∧ Hid (Blk (((w.alloc (.cells c0 t0)).alloc (.cells c1 t1)).alloc (.cells c2 t2)) (w.heap.size + 2) t2 c2) := ⟨Lib.hid (((below_alloc w _).alloc (by simp <;> omega) _).alloc (by simp <;> omega) _), Lib.hid (((Blk.at (W := w) (g := w.heap.size) (by simp <;> omega) t0 c0).alloc _).alloc _), Lib.hid ((Blk.at (W := (w.alloc (.cells c0 t0))) (g := (w.heap.size + 1)) (by simp <;> omega) t1 c1).alloc _), Lib.hid (Blk.at (W := ((w.alloc (.cells c0 t0)).alloc (.cells c1 t1))) (g := (w.heap.size + 2)) (by simp <;> omega) t2 c2)⟩
theorem bx4 (w : World) (c0 : Array Value) (t0 : TypeId) (c1 : Array Value) (t1 : TypeId) (c2 : Array Value) (t2 : TypeId) (c3 : Array Value) (t3 : TypeId) : Hid (Below w.heap.size w ((((w.alloc (.cells c0 t0)).alloc (.cells c1 t1)).alloc (.cells c2 t2)).alloc (.cells c3 t3))) ∧ Hid (Blk ((((w.alloc (.cells c0 t0)).alloc (.cells c1 t1)).alloc (.cells c2 t2)).alloc (.cells c3 t3)) w.heap.size t0 c0) ∧ Hid (Blk ((((w.alloc (.cells c0 t0)).alloc (.cells c1 t1)).alloc (.cells c2 t2)).alloc (.cells c3 t3)) (w.heap.size + 1) t1 c1) ∧ Hid (Blk ((((w.alloc (.cells c0 t0)).alloc (.cells c1 t1)).alloc (.cells c2 t2)).alloc (.cells c3 t3)) (w.heap.size + 2) t2 c2) ∧ Hid (Blk ((((w.alloc (.cells c0 t0)).alloc (.cells c1 t1)).alloc (.cells c2 t2)).alloc (.cells c3 t3)) (w.heap.size + 3) t3 c3) := ⟨Lib.hid ((((below_alloc w _).alloc (by simp <;> omega) _).alloc (by simp <;> omega) _).alloc (by simp <;> omega) _), Lib.hid ((((Blk.at (W := w) (g := w.heap.size) (by simp <;> omega) t0 c0).alloc _).alloc _).alloc _), Lib.hid (((Blk.at (W := (w.alloc (.cells c0 t0))) (g := (w.heap.size + 1)) (by simp <;> omega) t1 c1).alloc _).alloc _), Lib.hid ((Blk.at (W := ((w.alloc (.cells c0 t0)).alloc (.cells c1 t1))) (g := (w.heap.size + 2)) (by simp <;> omega) t2 c2).alloc _), Lib.hid (Blk.at (W := (((w.alloc (.cells c0 t0)).alloc (.cells c1 t1)).alloc (.cells c2 t2))) (g := (w.heap.size + 3)) (by simp <;> omega) t3 c3)⟩
end Go.Proofs.YthlmlmfebpjgdaaGreatDoor

namespace Go.Proofs.YthlmlmfebpjgdaaGreatDoor
open Go.RowKit
def Lies (w W : World) (l : List (Nat × TypeId × Array Value)) (r : List (Nat × TypeId × Nat)) : Prop :=
  Below w.heap.size w W ∧ (∀ x ∈ l, Blk W x.1 x.2.1 x.2.2) ∧ ∀ x ∈ r, HasBlk W x.1 x.2.1 x.2.2
section
variable {w W W' : World} {l l' : List (Nat × TypeId × Array Value)} {r : List (Nat × TypeId × Nat)} {g n : Nat} {t : TypeId} {cs : Array Value}
theorem Lies.b (h : Lies w W l r) : Below w.heap.size w W := h.1
theorem Lies.blk (h : Lies w W l r) (i : Nat) (hi : l[i]? = some (g, t, cs)) : Blk W g t cs := h.2.1 _ (List.mem_of_getElem? hi)
theorem Lies.has (h : Lies w W l r) (i : Nat) (hi : r[i]? = some (g, t, n)) : HasBlk W g t n := h.2.2 _ (List.mem_of_getElem? hi)
theorem Lies.keep (h : Lies w W l r) (hb : Below W.heap.size W W') : Lies w W' l r :=
  ⟨h.1.trans (hb.mono h.1.size), fun x hx => (h.2.1 x hx).keep hb, fun x hx => (h.2.2 x hx).keep hb⟩
theorem Lies.alloc (h : Lies w W l r) (o : Obj) : Lies w (W.alloc o) l r :=
  ⟨h.1.alloc h.1.size o, fun x hx => (h.2.1 x hx).alloc o, fun x hx => (h.2.2 x hx).alloc o⟩
theorem Lies.drew (h : Lies w W l r) : Lies w W.drew l r := ⟨h.1.drew, fun x hx => (h.2.1 x hx).drew, fun x hx => (h.2.2 x hx).drew⟩
theorem Lies.put (h : Lies w W l r) (hb : Blk W g t cs) : Lies w W (l ++ [(g, t, cs)]) r :=
  ⟨h.1, fun x hx => by
    rcases List.mem_append.1 hx with hx | hx
    · exact h.2.1 x hx
    · rw [List.mem_singleton.1 hx]; exact hb, h.2.2⟩
theorem Lies.new (h : Lies w W l r) (t : TypeId) (cs : Array Value) : Lies w (W.alloc (.cells cs t)) (l ++ [(W.heap.size, t, cs)]) r := (h.alloc _).put (Blk.new W t cs)
theorem Lies.loose (h : Lies w W l r) (i : Nat) (hi : l[i]? = some (g, t, cs)) (hc : cs.toList.all notWd = true) : Lies w W (l.eraseIdx i) ((g, t, cs.size) :: r) :=
  ⟨h.1, fun x hx => h.2.1 x (List.mem_of_mem_eraseIdx hx), fun x hx => by
    rcases List.mem_cons.1 hx with rfl | hx
    · exact HasBlk.of (h.blk i hi) rfl hc
    · exact h.2.2 x hx⟩
theorem Lies.write (h : Lies w W l ((g, t, n) :: r)) (vs : List Value) (hl : vs.length = n) (hg : w.heap.size ≤ g) (h1 : ∀ x ∈ l, x.1 ≠ g) (h2 : ∀ x ∈ r, x.1 ≠ g) : Lies w (sets W g 0 vs) (l ++ [(g, t, vs.toArray)]) r :=
  ⟨below_sets hg vs 0 _ h.1, fun x hx => by
    rcases List.mem_append.1 hx with hx | hx
    · exact (h.2.1 x hx).other (h1 x hx) 0 vs
    · rw [List.mem_singleton.1 hx]; exact (h.2.2 _ (List.mem_cons_self ..)).laid vs hl, fun x hx => (h.2.2 x (List.mem_cons_of_mem _ hx)).other (h2 x hx) 0 vs⟩
theorem Lies.part (h : Lies w W l r) (k : Nat) (hk : l[k]? = some (g, t, cs)) (i : Nat) (vs : List Value) (hg : w.heap.size ≤ g) (h1 : ∀ x ∈ l.eraseIdx k, x.1 ≠ g) (h2 : ∀ x ∈ r, x.1 ≠ g) : Lies w (sets W g i vs) (l.eraseIdx k ++ [(g, t, laid cs i vs)]) r :=
  ⟨below_sets hg vs i _ h.1, fun x hx => by
    rcases List.mem_append.1 hx with hx | hx
    · exact (h.2.1 x (List.mem_of_mem_eraseIdx hx)).other (h1 x hx) i vs
    · rw [List.mem_singleton.1 hx]; exact (h.blk k hk).sets vs i _ _, fun x hx => (h.2.2 x hx).other (h2 x hx) i vs⟩
theorem Lies.over (h : Lies w W l r) (k : Nat) (hk : r[k]? = some (g, t, n)) (vs : List Value) (hl : vs.length = n) (hv : vs.all notWd = true) (hg : w.heap.size ≤ g) (h1 : ∀ x ∈ l, x.1 ≠ g) (h2 : ∀ x ∈ r.eraseIdx k, x.1 ≠ g) : Lies w (sets W g 0 vs) l r :=
  ⟨below_sets hg vs 0 _ h.1, fun x hx => (h.2.1 x hx).other (h1 x hx) 0 vs, fun x hx => by
    obtain ⟨i, hi⟩ := List.mem_iff_getElem?.1 hx
    by_cases e : i = k
    · subst e; rw [hk] at hi; cases hi; exact (h.has i hk).sets vs hl hv
    · exact (h.2.2 x hx).other (h2 x (by rw [List.mem_iff_getElem?]; rcases Nat.lt_or_ge i k with hlt | hge
                                         · exact ⟨i, by rw [List.getElem?_eraseIdx_of_lt hlt]; exact hi⟩
                                         · exact ⟨i - 1, by rw [List.getElem?_eraseIdx_of_ge (by omega), show i - 1 + 1 = i from by omega]; exact hi⟩)) 0 vs⟩
theorem Lies.far (h : Lies w W l r) (vs : List Value) (i : Nat) (hg : w.heap.size ≤ g) (h1 : ∀ x ∈ l, x.1 ≠ g) (h2 : ∀ x ∈ r, x.1 ≠ g) : Lies w (sets W g i vs) l r :=
  ⟨below_sets hg vs i _ h.1, fun x hx => (h.2.1 x hx).other (h1 x hx) i vs, fun x hx => (h.2.2 x hx).other (h2 x hx) i vs⟩
theorem Lies.fresh (h : Lies w W l r) (t : TypeId) (cs : Array Value) : ∃ g, W.heap.size = g ∧ w.heap.size ≤ g ∧ (∀ x ∈ l, x.1 < g) ∧ (∀ x ∈ r, x.1 < g) ∧ Blk (W.alloc (.cells cs t)) g t cs :=
  ⟨_, rfl, h.1.size, fun x hx => (h.2.1 x hx).lt, fun x hx => (h.2.2 x hx).lt, Blk.new W t cs⟩
theorem Lies.lts (h : Lies w W l r) : w.heap.size ≤ W.heap.size ∧ (∀ x ∈ l, x.1 < W.heap.size) ∧ ∀ x ∈ r, x.1 < W.heap.size := ⟨h.1.size, fun x hx => (h.2.1 x hx).lt, fun x hx => (h.2.2 x hx).lt⟩
theorem Lies.newE (h : Lies w W l r) (e : W.alloc (.cells cs t) = W') : Lies w W' (l ++ [(W.heap.size, t, cs)]) r := e ▸ h.new t cs
theorem below_allocE {o : Obj} (e : W.alloc o = W') : Below W.heap.size W W' := e ▸ below_alloc W o
theorem Blk.newE (e : W.alloc (.cells cs t) = W') : Blk W' W.heap.size t cs := e ▸ Blk.new W t cs
theorem stL (h : Hid (Lies w W l r)) (hb : Below W.heap.size W W') : Hid (Lies w W' l r) := Lib.hid (h.out.keep hb)
end
theorem nowd {cs : Array Value} (h : cs.toList.all notWd = true) : NoWd cs := NoWd.of (by rw [← Array.all_toList]; exact h)
section
variable {P : Program} {ops : Array Oper} {Q : Exit → Act → World → Prop} {md : Region.Mode} {S : World → Prop} {fuel : Nat} {listed : Array Bool} {a : Act} {w : World}
end
theorem regL {P : Program} {ops : Array Oper} {Q : Exit → Act → World → Prop} {id : Nat} {a : Act} {w W : World} {l : List (Nat × TypeId × Array Value)} {r : List (Nat × TypeId × Nat)} (h : Hid (Lies w W l r))
    (k : Lies w W.drew l r → wpAnyH P .any ops Q (fun W' => Lies w W' l r) ops.size (Array.replicate ops.size false) a W.drew) (hm : P.follows .mixedOrders = true := by kernel_rfl) : (Code.region id ops true).wp P Q a W :=
  wp_region_held_drew (S := fun W' => Lies w W' l r) hm h.out.drew k
theorem li1 (w : World) (c0 : Array Value) (t0 : TypeId) : Hid (Lies w (w.alloc (.cells c0 t0)) [(w.heap.size, t0, c0)] []) := by
  obtain ⟨hb, h0⟩ := bx1 w c0 t0
  exact Lib.hid ⟨hb.out, by simp only [List.mem_cons, List.not_mem_nil, or_false, forall_eq_or_imp, forall_eq]; exact h0.out, by simp⟩
theorem li2 (w : World) (c0 : Array Value) (t0 : TypeId) (c1 : Array Value) (t1 : TypeId) : Hid (Lies w ((w.alloc (.cells c0 t0)).alloc (.cells c1 t1)) [(w.heap.size, t0, c0), (w.heap.size + 1, t1, c1)] []) := by
  obtain ⟨hb, h0, h1⟩ := bx2 w c0 t0 c1 t1
  exact Lib.hid ⟨hb.out, by simp only [List.mem_cons, List.not_mem_nil, or_false, forall_eq_or_imp, forall_eq]; exact ⟨h0.out, h1.out⟩, by simp⟩
theorem li3 (w : World) (c0 : Array Value) (t0 : TypeId) (c1 : Array Value) (t1 : TypeId) (c2 : Array Value) (t2 : TypeId) : Hid (Lies w (((w.alloc (.cells c0 t0)).alloc (.cells c1 t1)).alloc (.cells c2 t2)) [(w.heap.size, t0, c0), (w.heap.size + 1, t1, c1), (w.heap.size + 2, t2, c2)] []) := by
  obtain ⟨hb, h0, h1, h2⟩ := bx3 w c0 t0 c1 t1 c2 t2
  exact Lib.hid ⟨hb.out, by simp only [List.mem_cons, List.not_mem_nil, or_false, forall_eq_or_imp, forall_eq]; exact ⟨h0.out, h1.out, h2.out⟩, by simp⟩
theorem li4 (w : World) (c0 : Array Value) (t0 : TypeId) (c1 : Array Value) (t1 : TypeId) (c2 : Array Value) (t2 : TypeId) (c3 : Array Value) (t3 : TypeId) : Hid (Lies w ((((w.alloc (.cells c0 t0)).alloc (.cells c1 t1)).alloc (.cells c2 t2)).alloc (.cells c3 t3)) [(w.heap.size, t0, c0), (w.heap.size + 1, t1, c1), (w.heap.size + 2, t2, c2), (w.heap.size + 3, t3, c3)] []) := by
  obtain ⟨hb, h0, h1, h2, h3⟩ := bx4 w c0 t0 c1 t1 c2 t2 c3 t3
  exact Lib.hid ⟨hb.out, by simp only [List.mem_cons, List.not_mem_nil, or_false, forall_eq_or_imp, forall_eq]; exact ⟨h0.out, h1.out, h2.out, h3.out⟩, by simp⟩
end Go.Proofs.YthlmlmfebpjgdaaGreatDoor

namespace Go.Proofs.YthlmlmfebpjgdaaGreatDoor
open Ieee
def mag (r : Nat) : Nat := if r < 2^52 then r else (2^52 + r % 2^52) * 2^(r / 2^52 - 1)
theorem mag_small {r : Nat} (h : r < 2^52) : mag r = r := by unfold mag; rw [if_pos h]
theorem mag_form (k q : Nat) (h : k = 0 ∨ 2^52 ≤ q) (hq : q ≤ 2^53) : mag (k * 2^52 + q) = q * 2^k := by
  unfold mag
  rcases Nat.lt_or_ge q (2^52) with h1 | h1
  · rcases h with rfl | h
    · rw [if_pos (by omega), Nat.zero_mul, Nat.zero_add, Nat.pow_zero, Nat.mul_one]
    · omega
  · rw [if_neg (by omega)]
    rcases Nat.lt_or_ge q (2^53) with h2 | h2
    · have e1 : (k * 2^52 + q) % 2^52 = q - 2^52 := by omega
      have e2 : (k * 2^52 + q) / 2^52 - 1 = k := by omega
      rw [e1, e2, Nat.add_sub_of_le h1]
    · obtain rfl : q = 2^53 := by omega
      have e1 : (k * 2^52 + 2^53) % 2^52 = 0 := by omega
      have e2 : (k * 2^52 + 2^53) / 2^52 - 1 = k + 1 := by omega
      rw [e1, e2, Nat.add_zero, ← Nat.pow_add, ← Nat.pow_add, Nat.add_comm 52, Nat.add_comm 53, Nat.add_assoc k 1 52]
theorem rung_form (r : Nat) : ∃ k q, r = k * 2^52 + q ∧ (k = 0 ∨ 2^52 ≤ q) ∧ q < 2^53 := by
  rcases Nat.lt_or_ge r (2^52) with h | h
  · exact ⟨0, r, by omega, .inl rfl, by omega⟩
  · refine ⟨r / 2^52 - 1, 2^52 + r % 2^52, by omega, .inr (by omega), by omega⟩
theorem mag_succ (r : Nat) : mag r < mag (r + 1) := by
  obtain ⟨k, q, rfl, h, hq⟩ := rung_form r
  rw [mag_form k q h (by omega), Nat.add_assoc, mag_form k (q + 1) (by omega) (by omega)]
  exact Nat.mul_lt_mul_of_pos_right (by omega) (Nat.two_pow_pos _)
theorem mag_lt {r s : Nat} (h : r < s) : mag r < mag s := by
  induction s with
  | zero => omega
  | succ s ih =>
    rcases Nat.lt_or_ge r s with h1 | h1
    · exact Nat.lt_trans (ih h1) (mag_succ s)
    · obtain rfl : r = s := by omega
      exact mag_succ r
theorem mag_lt_iff {r s : Nat} : mag r < mag s ↔ r < s := by
  constructor
  · intro h
    rcases Nat.lt_or_ge r s with h1 | h1
    · exact h1
    · rcases Nat.lt_or_ge s r with h2 | h2
      · have := mag_lt h2; omega
      · obtain rfl : r = s := by omega
        omega
  · exact mag_lt
theorem mag_le_iff {r s : Nat} : mag r ≤ mag s ↔ r ≤ s := by
  have := @mag_lt_iff s r
  omega
theorem mag_inj {r s : Nat} (h : mag r = mag s) : r = s := by
  have h1 := @mag_le_iff r s
  have h2 := @mag_le_iff s r
  omega
theorem mag_zero : mag 0 = 0 := rfl
theorem mag_eq_zero {r : Nat} : mag r = 0 ↔ r = 0 := by
  constructor
  · intro h; exact mag_inj (h.trans mag_zero.symm)
  · rintro rfl; rfl
def over (n : Nat) : Nat := n.log2 - 52
def floorRung (n : Nat) : Nat := over n * 2^52 + n / 2^over n
theorem over_spec (n : Nat) : (over n = 0 ∨ 2^52 ≤ n / 2^over n) ∧ n / 2^over n < 2^53 := by
  unfold over
  by_cases h0 : n = 0
  · subst h0; simp
  have h1 := Nat.log2_self_le h0
  have h2 : n < 2^(n.log2 + 1) := Nat.lt_log2_self
  constructor
  · by_cases h : n.log2 ≤ 52
    · left; omega
    · right
      rw [Nat.le_div_iff_mul_le (Nat.two_pow_pos _), ← Nat.pow_add]
      exact Nat.le_trans (Nat.pow_le_pow_right (by omega) (by omega)) h1
  · rw [Nat.div_lt_iff_lt_mul (Nat.two_pow_pos _), ← Nat.pow_add]
    exact Nat.lt_of_lt_of_le h2 (Nat.pow_le_pow_right (by omega) (by omega))
theorem mag_floorRung (n : Nat) : mag (floorRung n) = n / 2^over n * 2^over n := by
  unfold floorRung
  have h := over_spec n
  exact mag_form _ _ h.1 (by omega)
theorem mag_floorRung_le (n : Nat) : mag (floorRung n) ≤ n := by
  rw [mag_floorRung]; exact Nat.div_mul_le_self _ _
theorem lt_mag_floorRung_succ (n : Nat) : n < mag (floorRung n + 1) := by
  unfold floorRung
  have h := over_spec n
  rw [Nat.add_assoc, mag_form _ _ (by omega) (by omega)]
  have h1 := Nat.lt_div_mul_add (a := n) (Nat.two_pow_pos (over n))
  rw [Nat.add_mul]
  omega
theorem le_floorRung {r n : Nat} : r ≤ floorRung n ↔ mag r ≤ n := by
  constructor
  · intro h; exact Nat.le_trans (mag_le_iff.2 h) (mag_floorRung_le n)
  · intro h
    have := Nat.lt_of_le_of_lt h (lt_mag_floorRung_succ n)
    have := mag_lt_iff.1 this
    omega
def bump (n k : Nat) : Bool := decide (2^k < 2 * (n % 2^k)) || (2^k == 2 * (n % 2^k) && n / 2^k % 2 == 1)
def nearRung (n d : Nat) : Nat := floorRung (n / 2^d) + (bump n (d + over (n / 2^d))).toNat
theorem bump_rest {n k : Nat} (h : bump n k = true) : n / 2^k * 2^k < n := by
  have h0 : 0 < n % 2^k := by
    unfold bump at h
    have := Nat.two_pow_pos k
    simp at h
    omega
  have h1 := Nat.div_add_mod n (2^k)
  rw [Nat.mul_comm] at h1
  omega
theorem div_div_pow (n d k : Nat) : n / 2^d / 2^k = n / 2^(d + k) := by
  rw [Nat.div_div_eq_div_mul, Nat.pow_add]
theorem le_nearRung {r n d : Nat} (h : mag r * 2^d ≤ n) : r ≤ nearRung n d := by
  have : mag r ≤ n / 2^d := (Nat.le_div_iff_mul_le (Nat.two_pow_pos _)).2 h
  have := le_floorRung.2 this
  unfold nearRung; omega
theorem nearRung_le {r n d : Nat} (h : n ≤ mag r * 2^d) : nearRung n d ≤ r := by
  unfold nearRung
  cases hb : bump n (d + over (n / 2^d))
  · simp
    refine mag_le_iff.1 (Nat.le_trans (mag_floorRung_le _) ?_)
    exact Nat.le_trans (Nat.div_le_div_right h) (by rw [Nat.mul_div_cancel _ (Nat.two_pow_pos _)]; exact Nat.le_refl _)
  · have h1 := bump_rest hb
    rw [← div_div_pow, Nat.add_comm d, Nat.pow_add, ← Nat.mul_assoc, ← mag_floorRung] at h1
    have h2 := Nat.lt_of_mul_lt_mul_right (Nat.lt_of_lt_of_le h1 h)
    have := mag_lt_iff.1 h2
    simp; omega
theorem nearRung_mag (r d : Nat) : nearRung (mag r * 2^d) d = r :=
  Nat.le_antisymm (nearRung_le (Nat.le_refl _)) (le_nearRung (Nat.le_refl _))
end Go.Proofs.YthlmlmfebpjgdaaGreatDoor

namespace Go.Proofs.YthlmlmfebpjgdaaGreatDoor
open Ieee
def M : Nat := 2047 * 2^52
theorem infRung_eq : double.infRung = M := by decide
theorem leastPlace_eq : double.leastPlace = -1074 := by decide
theorem binade_eq : double.binade = 2^52 := by decide
theorem signWeight_eq : double.signWeight = 2^63 := by decide
theorem log2_div_pow (n d : Nat) : (n / 2^d).log2 = n.log2 - d := by
  by_cases h : n / 2^d = 0
  · rw [h]
    have h1 : n < 2^d := by
      rcases Nat.div_eq_zero_iff.1 h with h | h
      · have := Nat.two_pow_pos d; omega
      · exact h
    by_cases h0 : n = 0
    · subst h0; simp
    · have := (Nat.log2_lt h0).2 h1
      simp; omega
  · have hn : n ≠ 0 := by rintro rfl; simp at h
    have h1 := Nat.log2_self_le hn
    have h2 : n < 2^(n.log2 + 1) := Nat.lt_log2_self
    have hd : d ≤ n.log2 := by
      rcases Nat.lt_or_ge n.log2 d with h3 | h3
      · exact absurd (Nat.div_eq_of_lt (Nat.lt_of_lt_of_le h2 (Nat.pow_le_pow_right (by omega) (by omega)))) h
      · exact h3
    rw [Nat.log2_eq_iff h]
    constructor
    · rw [Nat.le_div_iff_mul_le (Nat.two_pow_pos _), ← Nat.pow_add, Nat.sub_add_cancel hd]; exact h1
    · rw [Nat.div_lt_iff_lt_mul (Nat.two_pow_pos _), ← Nat.pow_add]
      exact Nat.lt_of_lt_of_le h2 (Nat.pow_le_pow_right (by omega) (by omega))
theorem cut_even (neg : Bool) (n k : Nat) : Toward.even.cut neg n k = n / 2^k + (bump n k).toNat := by
  unfold Toward.cut bump
  simp only [Nat.shiftLeft_eq, Nat.one_mul]
  rcases Nat.lt_or_ge (n.log2 + 2) k with h | h
  · rw [Nat.min_eq_right (by omega)]
    have h2 : n < 2^(n.log2 + 1) := Nat.lt_log2_self
    have h3 : 2^(n.log2 + 2) ≤ 2^k := Nat.pow_le_pow_right (by omega) (by omega)
    have h4 : 2^(n.log2 + 2) = 2 * 2^(n.log2 + 1) := by rw [Nat.pow_succ]; omega
    rw [Nat.div_eq_of_lt (by omega), Nat.div_eq_of_lt (show n < 2^k by omega), Nat.mod_eq_of_lt (by omega), Nat.mod_eq_of_lt (show n < 2^k by omega)]
    have a1 : decide (2^(n.log2 + 2) < 2 * n) = false := decide_eq_false (by omega)
    have a2 : decide (2^k < 2 * n) = false := decide_eq_false (by omega)
    rw [a1, a2]; simp
  · rw [Nat.min_eq_left h]
theorem bump_zero (k : Nat) : bump 0 k = false := by
  unfold bump
  have := Nat.two_pow_pos k
  simp
theorem nearest_low (neg : Bool) (n d : Nat) : double.nearest neg n (-1074 - (d : Int)) = double.word neg (min (nearRung n d) M) := by
  unfold Format.nearest
  by_cases h0 : n = 0
  · subst h0
    rw [if_pos rfl]
    unfold nearRung
    rw [bump_zero, Nat.zero_div]
    rfl
  rw [if_neg h0]
  have ho : over (n / 2^d) = n.log2 - d - 52 := by unfold over; rw [log2_div_pow]
  have hl : max (-1074 - (d : Int) + (n.log2 : Int) - (double.fractionBits : Int)) double.leastPlace = -1074 + (over (n / 2^d) : Int) := by
    rw [ho, leastPlace_eq]
    show max (-1074 - (d : Int) + (n.log2 : Int) - 52) (-1074) = _
    omega
  dsimp only
  rw [hl, leastPlace_eq, binade_eq, infRung_eq]
  have e1 : (-1074 - (d : Int) - (-1074 + (over (n / 2^d) : Int))).toNat = 0 := by omega
  have e2 : (-1074 + (over (n / 2^d) : Int) - (-1074 - (d : Int))).toNat = d + over (n / 2^d) := by omega
  have e3 : (-1074 + (over (n / 2^d) : Int) - -1074).toNat = over (n / 2^d) := by omega
  rw [e1, e2, e3, Nat.shiftLeft_zero, cut_even]
  unfold nearRung floorRung
  rw [div_div_pow, Nat.add_assoc]
theorem nearest_units (neg : Bool) (n : Nat) : double.nearest neg n (-1074) = double.word neg (min (nearRung n 0) M) := by
  have := nearest_low neg n 0
  simpa using this
theorem nearest_shift (neg : Bool) (n k : Nat) (place : Int) : double.nearest neg n (place + (k : Int)) = double.nearest neg (n * 2^k) place := by
  by_cases h0 : n = 0
  · subst h0; simp [Format.nearest]
  have hk : n * 2^k ≠ 0 := Nat.mul_ne_zero h0 (by have := Nat.two_pow_pos k; omega)
  have hlog : (n * 2^k).log2 = n.log2 + k := by
    rw [Nat.log2_eq_iff hk]
    have h1 := Nat.log2_self_le h0
    have h2 : n < 2^(n.log2 + 1) := Nat.lt_log2_self
    constructor
    · rw [Nat.pow_add]; exact Nat.mul_le_mul_right _ h1
    · rw [show n.log2 + k + 1 = n.log2 + 1 + k from by omega, Nat.pow_add 2 (n.log2 + 1)]; exact Nat.mul_lt_mul_of_pos_right h2 (Nat.two_pow_pos k)
  unfold Format.nearest
  rw [if_neg h0, if_neg hk, hlog]
  dsimp only
  rw [show (place + ((n.log2 + k : Nat) : Int) - (double.fractionBits : Int)) = place + (k : Int) + (n.log2 : Int) - (double.fractionBits : Int) from by omega]
  generalize max (place + (k : Int) + (n.log2 : Int) - (double.fractionBits : Int)) double.leastPlace = last
  congr 3
  rw [cut_even, cut_even, Nat.shiftLeft_eq, Nat.shiftLeft_eq]
  rcases Int.le_total last place with h | h
  · -- both are whole
    rw [show (place + (k : Int) - last).toNat = k + (place - last).toNat from by omega, show (last - (place + (k : Int))).toNat = 0 from by omega, show (last - place).toNat = 0 from by omega, Nat.pow_add, Nat.mul_assoc]
  · obtain ⟨d, hd⟩ : ∃ d : Nat, last = place + d := ⟨(last - place).toNat, by omega⟩
    subst hd
    rcases Nat.le_total d k with hdk | hdk
    · obtain ⟨a, rfl⟩ : ∃ a, k = a + d := ⟨k - d, by omega⟩
      rw [show (place + ((a + d : Nat) : Int) - (place + (d : Int))).toNat = a from by omega, show (place + (d : Int) - (place + ((a + d : Nat) : Int))).toNat = 0 from by omega, show (place - (place + (d : Int))).toNat = 0 from by omega, show (place + (d : Int) - place).toNat = d from by omega]
      rw [Nat.pow_add 2 a d, ← Nat.mul_assoc]
      generalize n * 2^a = m
      have := Nat.two_pow_pos d
      have b1 : bump m 0 = false := by unfold bump; simp [Nat.mod_one]
      have b2 : bump (m * 2^d * 2^0) d = false := by
        unfold bump
        rw [Nat.pow_zero, Nat.mul_one, Nat.mul_mod_left]
        simp
      rw [b1, b2]
      simp only [Nat.pow_zero, Nat.div_one, Nat.mul_one]
      rw [Nat.mul_div_cancel _ this]
    · obtain ⟨a, rfl⟩ : ∃ a, d = k + a := ⟨d - k, by omega⟩
      rw [show (place + (k : Int) - (place + ((k + a : Nat) : Int))).toNat = 0 from by omega, show (place + ((k + a : Nat) : Int) - (place + (k : Int))).toNat = a from by omega, show (place - (place + ((k + a : Nat) : Int))).toNat = 0 from by omega, show (place + ((k + a : Nat) : Int) - place).toNat = k + a from by omega]
      rw [Nat.pow_zero, Nat.mul_one, Nat.mul_one]
      have hp := Nat.two_pow_pos k
      have e1 : n * 2^k / 2^(k + a) = n / 2^a := by rw [Nat.pow_add, Nat.mul_comm n, Nat.mul_div_mul_left _ _ hp]
      have e2 : n * 2^k % 2^(k + a) = 2^k * (n % 2^a) := by rw [Nat.pow_add, Nat.mul_comm n, Nat.mul_mod_mul_left]
      rw [e1]
      congr 2
      unfold bump
      rw [e1, e2, Nat.pow_add]
      generalize 2^a = x
      generalize n % x = y
      generalize 2^k = p at hp
      have c1 : decide (p * x < 2 * (p * y)) = decide (x < 2 * y) := by
        rw [show 2 * (p * y) = p * (2 * y) from by rw [Nat.mul_left_comm]]
        simp [Nat.mul_lt_mul_left hp]
      have c2 : (p * x == 2 * (p * y)) = (x == 2 * y) := by
        rw [show 2 * (p * y) = p * (2 * y) from by rw [Nat.mul_left_comm]]
        rw [Bool.eq_iff_iff]; simp [Nat.mul_right_inj (by omega : p ≠ 0)]
      rw [c1, c2]
theorem nearest_high (neg : Bool) (n k : Nat) : double.nearest neg n (-1074 + (k : Int)) = double.word neg (min (nearRung (n * 2^k) 0) M) := by
  rw [nearest_shift, nearest_units]
end Go.Proofs.YthlmlmfebpjgdaaGreatDoor

namespace Go.Proofs.YthlmlmfebpjgdaaGreatDoor
open Ieee
def rungOf (b : Nat) : Nat := b % 2^63
def sgn (b : Nat) : Bool := b / 2^63 % 2 == 1
def idx (b : Nat) : Int := if sgn b then -(rungOf b : Int) else rungOf b
def val (i : Int) : Int := if i < 0 then -(mag i.natAbs : Int) else mag i.natAbs
def real (b : Nat) : Prop := rungOf b ≤ M
def fin (b : Nat) : Prop := rungOf b < M
theorem fin.real {b : Nat} (h : fin b) : real b := Nat.le_of_lt h
theorem val_nat (r : Nat) : val (r : Int) = mag r := by
  unfold val; rw [if_neg (by omega), Int.natAbs_natCast]
theorem val_neg (i : Int) : val (-i) = -val i := by
  unfold val
  rw [Int.natAbs_neg]
  rcases Int.lt_trichotomy i 0 with h | h | h
  · rw [if_neg (by omega), if_pos h]; omega
  · subst h; rfl
  · rw [if_pos (by omega), if_neg (by omega)]
theorem val_zero : val 0 = 0 := rfl
theorem val_lt_iff {i j : Int} : val i < val j ↔ i < j := by
  unfold val
  have h1 := @mag_lt_iff i.natAbs j.natAbs
  have h2 := @mag_lt_iff j.natAbs i.natAbs
  have h3 := @mag_eq_zero i.natAbs
  have h4 := @mag_eq_zero j.natAbs
  split <;> split <;> omega
theorem val_le_iff {i j : Int} : val i ≤ val j ↔ i ≤ j := by have := @val_lt_iff j i; omega
theorem val_neg_iff {i : Int} : val i < 0 ↔ i < 0 := by have := @val_lt_iff i 0; rwa [val_zero] at this
theorem val_natAbs (i : Int) : (val i).natAbs = mag i.natAbs := by
  unfold val; split <;> omega
theorem idx_natAbs (b : Nat) : (idx b).natAbs = rungOf b := by unfold idx; split <;> omega
theorem val_idx (b : Nat) : val (idx b) = if sgn b then -(mag (rungOf b) : Int) else mag (rungOf b) := by
  unfold idx
  split
  · rw [val_neg, val_nat]
  · rw [val_nat]
theorem signed_eq (s : Bool) (m k : Nat) : signed s m k = if s then -((m * 2^k : Nat) : Int) else ((m * 2^k : Nat) : Int) := by
  unfold signed; rw [Nat.shiftLeft_eq]
theorem read_fin {b : Nat} (h : fin b) : ∃ m k : Nat, double.read b = .number (sgn b) m (-1074 + (k : Int)) ∧ m * 2^k = mag (rungOf b) ∧ (k = 0 ∨ 2^52 ≤ m) ∧ m < 2^53 := by
  unfold fin rungOf M at h
  unfold Format.read
  rw [signWeight_eq, binade_eq, infRung_eq, leastPlace_eq]
  dsimp only
  unfold rungOf sgn
  by_cases h1 : b % 2^63 < 2^52
  · rw [if_pos h1]
    exact ⟨_, 0, rfl, by rw [mag_small h1, Nat.pow_zero, Nat.mul_one], .inl rfl, by omega⟩
  · rw [if_neg h1, if_pos (show b % 2^63 < M from h)]
    refine ⟨_, b % 2^63 / 2^52 - 1, rfl, ?_, .inr (by omega), by omega⟩
    unfold mag
    rw [if_neg h1]
theorem read_inf {b : Nat} (h : rungOf b = M) : double.read b = .infinity (sgn b) := by
  unfold rungOf M at h
  unfold Format.read
  rw [signWeight_eq, binade_eq, infRung_eq, leastPlace_eq]
  dsimp only
  rw [if_neg (by omega), if_neg (by unfold M; omega), if_pos (show b % 2^63 = M from h)]
  rfl
theorem read_nan {b : Nat} (h : M < rungOf b) : double.read b = .nan (sgn b) (rungOf b - M) := by
  unfold rungOf M at h
  unfold Format.read
  rw [signWeight_eq, binade_eq, infRung_eq, leastPlace_eq]
  dsimp only
  rw [if_neg (by omega), if_neg (by unfold M; omega), if_neg (by unfold M; omega)]
  rfl
theorem read_val {b : Nat} {m k : Nat} (h : m * 2^k = mag (rungOf b)) : signed (sgn b) m k = val (idx b) := by
  rw [signed_eq, val_idx, h]
theorem signed_split (s : Bool) (m a c : Nat) : signed s m (a + c) = signed s m a * 2^c := by
  rw [signed_eq, signed_eq, Nat.pow_add, ← Nat.mul_assoc]
  split
  · rw [Int.natCast_mul, Int.neg_mul]; simp
  · rw [Int.natCast_mul]; simp
theorem compare_scale (a b : Int) (k : Nat) : compare (a * 2^k) (b * 2^k) = compare a b := by
  have hp : (0 : Int) < 2^k := by exact_mod_cast Nat.two_pow_pos k
  rcases Int.lt_trichotomy a b with h | h | h
  · rw [Int.compare_eq_lt.2 h, Int.compare_eq_lt.2 (Int.mul_lt_mul_of_pos_right h hp)]
  · subst h; rw [Int.compare_eq_eq.2 rfl, Int.compare_eq_eq.2 rfl]
  · rw [Int.compare_eq_gt.2 h, Int.compare_eq_gt.2 (Int.mul_lt_mul_of_pos_right h hp)]
theorem compare_val (i j : Int) : compare (val i) (val j) = compare i j := by
  rcases Int.lt_trichotomy i j with h | h | h
  · rw [Int.compare_eq_lt.2 h, Int.compare_eq_lt.2 (val_lt_iff.2 h)]
  · subst h; rw [Int.compare_eq_eq.2 rfl, Int.compare_eq_eq.2 rfl]
  · rw [Int.compare_eq_gt.2 h, Int.compare_eq_gt.2 (val_lt_iff.2 h)]
theorem order_real {x y : Nat} (hx : real x) (hy : real y) : double.order x y = some (compare (idx x) (idx y)) := by
  unfold Format.order
  have ax := idx_natAbs x
  have ay := idx_natAbs y
  have sx : idx x = if sgn x then -(rungOf x : Int) else rungOf x := rfl
  have sy : idx y = if sgn y then -(rungOf y : Int) else rungOf y := rfl
  have hM : 0 < M := by decide
  unfold real at hx hy
  rcases Nat.lt_or_ge (rungOf x) M with fx | fx <;> rcases Nat.lt_or_ge (rungOf y) M with fy | fy
  · obtain ⟨m, k, e, hm, _⟩ := read_fin fx
    obtain ⟨n, l, e', hn, _⟩ := read_fin fy
    rw [e, e']
    simp only [Datum.order]
    congr 1
    rw [← compare_val (idx x), ← read_val hm, ← read_val hn]
    rcases Nat.le_total k l with h | h
    · rw [show min (-1074 + (k : Int)) (-1074 + (l : Int)) = -1074 + (k : Int) from by omega, show (-1074 + (k : Int) - (-1074 + (k : Int))).toNat = 0 from by omega, show (-1074 + (l : Int) - (-1074 + (k : Int))).toNat = l - k from by omega]
      rw [← compare_scale _ _ k, ← signed_split, ← signed_split, Nat.zero_add, Nat.sub_add_cancel h]
    · rw [show min (-1074 + (k : Int)) (-1074 + (l : Int)) = -1074 + (l : Int) from by omega, show (-1074 + (l : Int) - (-1074 + (l : Int))).toNat = 0 from by omega, show (-1074 + (k : Int) - (-1074 + (l : Int))).toNat = k - l from by omega]
      rw [← compare_scale _ _ l, ← signed_split, ← signed_split, Nat.zero_add, Nat.sub_add_cancel h]
  · obtain ⟨m, k, e, hm, _⟩ := read_fin fx
    rw [e, read_inf (by omega)]
    simp only [Datum.order]
    congr 1; symm
    cases h : sgn y
    · simp [h] at sy ⊢; rw [Int.compare_eq_lt]; omega
    · simp [h] at sy ⊢; rw [Int.compare_eq_gt]; omega
  · obtain ⟨m, k, e, hm, _⟩ := read_fin fy
    rw [e, read_inf (by omega)]
    simp only [Datum.order]
    congr 1; symm
    cases h : sgn x
    · simp [h] at sx ⊢; rw [Int.compare_eq_gt]; omega
    · simp [h] at sx ⊢; rw [Int.compare_eq_lt]; omega
  · rw [read_inf (by omega), read_inf (by omega)]
    simp only [Datum.order]
    congr 1; symm
    cases h : sgn x <;> cases h' : sgn y <;> simp [h, h'] at sx sy ⊢
    · omega
    · rw [show compare 1 0 = Ordering.gt from rfl, Int.compare_eq_gt]; omega
    · rw [show compare 0 1 = Ordering.lt from rfl, Int.compare_eq_lt]; omega
    · omega
theorem order_nan_left {x : Nat} (y : Nat) (hx : M < rungOf x) : double.order x y = none := by
  unfold Format.order; rw [read_nan hx]; rfl
theorem order_nan_right (x : Nat) {y : Nat} (hy : M < rungOf y) : double.order x y = none := by
  unfold Format.order; rw [read_nan hy]; cases double.read x <;> rfl
end Go.Proofs.YthlmlmfebpjgdaaGreatDoor

namespace Go.Proofs.YthlmlmfebpjgdaaGreatDoor
open Go.RowKit
def pat (i : Int) : Nat := if i < 0 then 9223372036854775808 + i.natAbs else i.natAbs
theorem M_val : M = 9218868437227405312 := rfl
theorem pat_cases {b : Nat} (hb : b < 18446744073709551616) : (b < 9223372036854775808 ∧ rungOf b = b ∧ sgn b = false ∧ idx b = (b : Int)) ∨ (9223372036854775808 ≤ b ∧ rungOf b = b - 9223372036854775808 ∧ sgn b = true ∧ idx b = 9223372036854775808 - (b : Int)) := by
  have e : (2 : Nat)^63 = 9223372036854775808 := rfl
  rcases Nat.lt_or_ge b 9223372036854775808 with h | h
  · left
    have h1 : rungOf b = b := by unfold rungOf; rw [e]; omega
    have h2 : sgn b = false := by unfold sgn; rw [e, show b / 9223372036854775808 % 2 = 0 from by omega]; rfl
    refine ⟨h, h1, h2, ?_⟩
    unfold idx; rw [h2, h1]; rfl
  · right
    have h1 : rungOf b = b - 9223372036854775808 := by unfold rungOf; rw [e]; omega
    have h2 : sgn b = true := by unfold sgn; rw [e, show b / 9223372036854775808 % 2 = 1 from by omega]; rfl
    refine ⟨h, h1, h2, ?_⟩
    unfold idx; rw [h2, h1, if_pos rfl]; omega
theorem pat_lt {i : Int} (h0 : -(M : Int) ≤ i) (h1 : i ≤ M) : pat i < 18446744073709551616 := by
  rw [M_val] at *; unfold pat; split <;> omega
theorem pat_neg {i : Int} (h : i < 0) : pat i = 9223372036854775808 + i.natAbs := if_pos h
theorem pat_nn {i : Int} (h : ¬ i < 0) : pat i = i.natAbs := if_neg h
theorem idx_pat {i : Int} (h0 : -(M : Int) ≤ i) (h1 : i ≤ M) : idx (pat i) = i := by
  have h := pat_lt h0 h1
  rw [M_val] at *
  have := pat_cases h
  by_cases hi : i < 0
  · rw [pat_neg hi] at *; omega
  · rw [pat_nn hi] at *; omega
theorem rung_pat {i : Int} (h0 : -(M : Int) ≤ i) (h1 : i ≤ M) : rungOf (pat i) = i.natAbs := by
  rw [← idx_natAbs, idx_pat h0 h1]
theorem pat_inj {i j : Int} (h0 : -(M : Int) ≤ i) (h1 : i ≤ M) (h2 : -(M : Int) ≤ j) (h3 : j ≤ M) (h : pat i = pat j) : i = j := by
  rw [← idx_pat h0 h1, ← idx_pat h2 h3, h]
theorem pat_max : pat M = 9218868437227405312 := by decide
theorem pat_min : pat (-(M : Int)) = 18442240474082181120 := by decide
theorem pat_zero : pat 0 = 0 := rfl
theorem idx_bounds {b : Nat} (h : rungOf b ≤ M) : -(M : Int) ≤ idx b ∧ idx b ≤ M := by
  have := idx_natAbs b; omega
def pl (b : Nat) : Nat := if b = 9223372036854775808 then 0 else if M < rungOf b then 9221120237041090561 else b
theorem pl_real {b : Nat} (hb : b < 18446744073709551616) (h : rungOf b ≤ M) : pl b = pat (idx b) := by
  have := pat_cases hb
  rw [M_val] at *
  unfold pl
  rw [M_val]
  split
  · rename_i e
    have h0 : idx b = 0 := by omega
    rw [h0]; rfl
  · rw [if_neg (by omega)]
    by_cases hi : idx b < 0
    · rw [pat_neg hi]; omega
    · rw [pat_nn hi]; omega
def keyOf (b : Nat) : Nat := if 9223372036854775808 ≤ pl b then 18446744073709551615 - pl b else pl b + 9223372036854775808
theorem keyOf_real {b : Nat} (hb : b < 18446744073709551616) (h : rungOf b ≤ M) : (keyOf b : Int) = 9223372036854775808 + idx b - (if idx b < 0 then 1 else 0) := by
  have hi := idx_bounds h
  unfold keyOf
  rw [pl_real hb h]
  rw [M_val] at *
  by_cases hi : idx b < 0
  · rw [pat_neg hi, if_pos hi]; split <;> omega
  · rw [pat_nn hi, if_neg hi]; split <;> omega
theorem key_lt {x y : Nat} (hx : x < 18446744073709551616) (hy : y < 18446744073709551616) (h : rungOf x ≤ M) (h' : rungOf y ≤ M) : keyOf x < keyOf y ↔ idx x < idx y := by
  have := keyOf_real hx h
  have := keyOf_real hy h'
  split at * <;> split at * <;> omega
theorem pl_lt (b : Nat) (hb : b < 18446744073709551616) : pl b < 18446744073709551616 := by unfold pl; split <;> (try split) <;> omega
def snd (lo hi : Nat) : Bool := decide (rungOf lo ≤ M ∧ rungOf hi ≤ M ∧ idx lo ≤ idx hi ∧ idx lo < M ∧ -(M : Int) < idx hi)
def rd (lo hi : Nat) : Int × Int := if snd lo hi then (idx lo, idx hi) else ((M : Int), -(M : Int))
def Iv (i j : Int) : Prop := (-(M : Int) ≤ i ∧ i ≤ j ∧ j ≤ M ∧ i < M ∧ -(M : Int) < j) ∨ (i = M ∧ j = -(M : Int))
theorem Iv.lo {i j : Int} (h : Iv i j) : -(M : Int) ≤ i ∧ i ≤ M := by unfold Iv at h; rw [M_val] at *; omega
theorem Iv.hi {i j : Int} (h : Iv i j) : -(M : Int) ≤ j ∧ j ≤ M := by unfold Iv at h; rw [M_val] at *; omega
theorem Iv.none : Iv M (-(M : Int)) := .inr ⟨rfl, rfl⟩
theorem rd_iv (lo hi : Nat) : Iv (rd lo hi).1 (rd lo hi).2 := by
  unfold rd
  split
  · rename_i h
    have h := of_decide_eq_true h
    obtain ⟨h1, h2, h3, h4, h5⟩ := h
    have := idx_bounds h1
    have := idx_bounds h2
    exact .inl ⟨by omega, h3, by omega, h4, h5⟩
  · exact Iv.none
theorem rd_pat {i j : Int} (h : Iv i j) : rd (pat i) (pat j) = (i, j) := by
  have h1 := h.lo
  have h2 := h.hi
  unfold rd snd
  rw [rung_pat h1.1 h1.2, rung_pat h2.1 h2.2, idx_pat h1.1 h1.2, idx_pat h2.1 h2.2]
  unfold Iv at h
  split
  · rfl
  · rename_i hh
    simp only [decide_eq_true_eq] at hh
    rcases h with h | h
    · omega
    · rw [h.1, h.2]
end Go.Proofs.YthlmlmfebpjgdaaGreatDoor

namespace Go.Proofs.YthlmlmfebpjgdaaGreatDoor
open Go.RowKit
theorem small_any (v : Nat) (w : World) (hv : v < 18446744073709551616) :
    Calls Tryz.prog 115 #[.int .u64 (v : Int)] w (NewU32 w (digs v)) := by
  have e1 := mask32_u64 hv
  go_enter Tryz.func115, Tryz.ntmps115
  go_wp2_with fail
  rw [show (v : Int) % 4294967296 = ((v % 4294967296 : Nat) : Int) from by omega, show (v : Int) / 4294967296 = ((v / 4294967296 : Nat) : Int) from by omega]
  have h2 := U32s.lit2 w 117 (a := v % 4294967296) (b := v / 4294967296) (by omega) (by omega)
  refine (norm_any _ 2 2 _ _ h2 (by omega)).mono ?_
  rintro e w' ⟨A, n, c, rfl, hu, hb⟩
  have e2 : trim [v % 4294967296, v / 4294967296] = digs v := by
    rw [trim_eq_digs h2.w32]; congr 1; simp [num]; omega
  have H := Lib.hid (show NewU32 w (digs v) (.returned (.slice A n c)) w' from NewU32.trans ⟨A, n, c, rfl, by rw [← e2]; exact hu, hb⟩ (below_alloc _ _))
  clear hu hb e2 e1 h2
  go_wp2
  go_ret
  exact H.out
end Go.Proofs.YthlmlmfebpjgdaaGreatDoor
