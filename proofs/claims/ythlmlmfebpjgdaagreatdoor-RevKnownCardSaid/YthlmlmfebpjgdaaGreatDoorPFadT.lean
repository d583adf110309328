/-
Walks: package rev, FMARevAdd.
Plain: what FMARevAdd answers.
rev.FMARevAdd by indexes.
The document's examples of chapter 10, call by call.
-/
import Derived.Test.YthlmlmfebpjgdaaGreatDoorM32
import Derived.Deep.DeepCutAuto
import Derived.Deep.CutRange
import Derived.Deep.CutBlock
import Derived.Test.YthlmlmfebpjgdaaGreatDoorPPairT
import Derived.Test.YthlmlmfebpjgdaaGreatDoorPRoot2T
import Derived.Test.YthlmlmfebpjgdaaGreatDoorPAddT
import Derived.Test.YthlmlmfebpjgdaaGreatDoorM27
import Derived.Test.YthlmlmfebpjgdaaGreatDoorM29
import Derived.Test.YthlmlmfebpjgdaaGreatDoorPRmT
set_option linter.unusedSimpArgs false
set_option linter.unusedVariables false
set_option maxHeartbeats 12800000

namespace Go.Proofs.YthlmlmfebpjgdaaGreatDoor
open Go.RowKit
attribute [local go_sem] run_store_float
set_option maxRecDepth 8000 in
theorem fmaadd_none (a1 a2 b1 b2 c1 c2 y1 y2 A1 A2 B1 B2 C1 C2 x1 x2 : Nat) (d1 d2 d3 d4 : Bool) (w : World) (t1 : ∀ W, Calls Tryz.prog 102 #[.agg #[.float .f64 a1, .float .f64 a2]] W fun e w' => e = .returned (.agg #[.float .f64 A1, .float .f64 A2]) ∧ Below W.heap.size W w') (m1 : Em d1 A1 A2) (t2 : ∀ W, Calls Tryz.prog 102 #[.agg #[.float .f64 b1, .float .f64 b2]] W fun e w' => e = .returned (.agg #[.float .f64 B1, .float .f64 B2]) ∧ Below W.heap.size W w') (m2 : Em d2 B1 B2) (t3 : ∀ W, Calls Tryz.prog 102 #[.agg #[.float .f64 c1, .float .f64 c2]] W fun e w' => e = .returned (.agg #[.float .f64 C1, .float .f64 C2]) ∧ Below W.heap.size W w') (m3 : Em d3 C1 C2) (t4 : ∀ W, Calls Tryz.prog 102 #[.agg #[.float .f64 y1, .float .f64 y2]] W fun e w' => e = .returned (.agg #[.float .f64 x1, .float .f64 x2]) ∧ Below W.heap.size W w') (m4 : Em d4 x1 x2) (hnn : (d1 || d2 || d3 || d4) = true) :
    Calls Tryz.prog 32 #[.agg #[.float .f64 a1, .float .f64 a2], .agg #[.float .f64 b1, .float .f64 b2], .agg #[.float .f64 c1, .float .f64 c2], .agg #[.float .f64 y1, .float .f64 y2]] w fun e w' => e = .returned (.agg #[.float .f64 9218868437227405312, .float .f64 18442240474082181120]) ∧ Below w.heap.size w w' := by
  have HE := Lib.hid emptyf
  have LL := li5 w #[.float .f64 a1, .float .f64 a2] 28 #[.float .f64 b1, .float .f64 b2] 28 #[.float .f64 c1, .float .f64 c2] 28 #[.float .f64 y1, .float .f64 y2] 28 #[.float .f64 0, .float .f64 0] 28
  have hrow := Blk.at (W := (((((w.alloc (.cells #[.float .f64 a1, .float .f64 a2] 28)).alloc (.cells #[.float .f64 b1, .float .f64 b2] 28)).alloc (.cells #[.float .f64 c1, .float .f64 c2] 28)).alloc (.cells #[.float .f64 y1, .float .f64 y2] 28)).alloc (.cells #[.float .f64 0, .float .f64 0] 28))) (g := w.heap.size + 1 + 1 + 1 + 1 + 1) (by simp) 75 #[.pointer (some ⟨w.heap.size, 0, none⟩), .pointer (some ⟨w.heap.size + 1, 0, none⟩), .pointer (some ⟨w.heap.size + 1 + 1, 0, none⟩), .pointer (some ⟨w.heap.size + 1 + 1 + 1, 0, none⟩)]
  have HRD := Lib.hid (read_n w.heap.size 4 (w.heap.size + 1 + 1 + 1 + 1 + 1) 4 (fun k : Nat => if k = 0 then (a1, a2) else if k = 1 then (b1, b2) else if k = 2 then (c1, c2) else (y1, y2)) (fun k : Nat => if k = 0 then (A1, A2) else if k = 1 then (B1, B2) else if k = 2 then (C1, C2) else (x1, x2)) (fun k : Nat => if k = 0 then d1 else if k = 1 then d2 else if k = 2 then d3 else d4) _ (by omega) (by omega)
    (fun k hk => by match k, hk with | 0, _ => exact hrow.cell 0 | 1, _ => exact hrow.cell 1 | 2, _ => exact hrow.cell 2 | 3, _ => exact hrow.cell 3) (fun k hk => by match k, hk with | 0, _ => exact (LL.out.blk 0 rfl).alloc (.cells #[.pointer (some ⟨w.heap.size, 0, none⟩), .pointer (some ⟨w.heap.size + 1, 0, none⟩), .pointer (some ⟨w.heap.size + 1 + 1, 0, none⟩), .pointer (some ⟨w.heap.size + 1 + 1 + 1, 0, none⟩)] 75) | 1, _ => exact (LL.out.blk 1 rfl).alloc (.cells #[.pointer (some ⟨w.heap.size, 0, none⟩), .pointer (some ⟨w.heap.size + 1, 0, none⟩), .pointer (some ⟨w.heap.size + 1 + 1, 0, none⟩), .pointer (some ⟨w.heap.size + 1 + 1 + 1, 0, none⟩)] 75) | 2, _ => exact (LL.out.blk 2 rfl).alloc (.cells #[.pointer (some ⟨w.heap.size, 0, none⟩), .pointer (some ⟨w.heap.size + 1, 0, none⟩), .pointer (some ⟨w.heap.size + 1 + 1, 0, none⟩), .pointer (some ⟨w.heap.size + 1 + 1 + 1, 0, none⟩)] 75) | 3, _ => exact (LL.out.blk 3 rfl).alloc (.cells #[.pointer (some ⟨w.heap.size, 0, none⟩), .pointer (some ⟨w.heap.size + 1, 0, none⟩), .pointer (some ⟨w.heap.size + 1 + 1, 0, none⟩), .pointer (some ⟨w.heap.size + 1 + 1 + 1, 0, none⟩)] 75)) (fun k hk => by match k, hk with | 0, _ => exact t1 | 1, _ => exact t2 | 2, _ => exact t3 | 3, _ => exact t4) (fun k hk => by match k, hk with | 0, _ => exact m1 | 1, _ => exact m2 | 2, _ => exact m3 | 3, _ => exact m4))
  rw [show anyB (fun k : Nat => if k = 0 then d1 else if k = 1 then d2 else if k = 2 then d3 else d4) 4 = (d1 || d2 || d3 || d4) from by simp [anyB], hnn] at HRD
  have LLR := Lib.hid (LL.out.alloc (.cells #[.pointer (some ⟨w.heap.size, 0, none⟩), .pointer (some ⟨w.heap.size + 1, 0, none⟩), .pointer (some ⟨w.heap.size + 1 + 1, 0, none⟩), .pointer (some ⟨w.heap.size + 1 + 1 + 1, 0, none⟩)] 75))
  have HSZ := Lib.hid (show w.heap.size ≤ (((((((w.alloc (.cells #[.float .f64 a1, .float .f64 a2] 28)).alloc (.cells #[.float .f64 b1, .float .f64 b2] 28)).alloc (.cells #[.float .f64 c1, .float .f64 c2] 28)).alloc (.cells #[.float .f64 y1, .float .f64 y2] 28)).alloc (.cells #[.float .f64 0, .float .f64 0] 28))).alloc (.cells #[.pointer (some ⟨w.heap.size, 0, none⟩), .pointer (some ⟨w.heap.size + 1, 0, none⟩), .pointer (some ⟨w.heap.size + 1 + 1, 0, none⟩), .pointer (some ⟨w.heap.size + 1 + 1 + 1, 0, none⟩)] 75)).heap.size by simp; omega)
  clear t1 m1 t2 m2 t3 m3 t4 m4 hrow hnn LL
  go_enter Tryz.func32, Tryz.ntmps32
  go_wp2_with fail
  refine HRD.out.mono ?_
  rintro e wk ⟨rfl, hd, kp⟩
  have LL := Lib.hid (show Lies w wk [(w.heap.size, 28, #[.float .f64 A1, .float .f64 A2]), ((w.heap.size + 1), 28, #[.float .f64 B1, .float .f64 B2]), ((w.heap.size + 2), 28, #[.float .f64 C1, .float .f64 C2]), ((w.heap.size + 3), 28, #[.float .f64 x1, .float .f64 x2]), ((w.heap.size + 4), 28, #[.float .f64 0, .float .f64 0])] [] from ⟨kp.toBl LLR.out.b HSZ.out (Nat.le_refl _), by simp only [List.mem_cons, List.not_mem_nil, or_false, forall_eq_or_imp, forall_eq]; exact ⟨show Blk wk w.heap.size 28 #[.float .f64 A1, .float .f64 A2] from hd 0 (by omega), show Blk wk (w.heap.size + 1) 28 #[.float .f64 B1, .float .f64 B2] from hd 1 (by omega), show Blk wk (w.heap.size + 2) 28 #[.float .f64 C1, .float .f64 C2] from hd 2 (by omega), show Blk wk (w.heap.size + 3) 28 #[.float .f64 x1, .float .f64 x2] from hd 3 (by omega), kp.blk (LLR.out.blk 4 rfl) (by omega)⟩, by simp⟩)
  clear hd kp LLR HSZ HRD
  go_wp2_with fail
  refine (HE.out _).mono ?_
  rintro e wk ⟨rfl, hb⟩
  replace LL := stL LL hb
  clear hb
  replace LL := Lib.hid (LL.out.loose 4 rfl rfl)
  simp only [List.eraseIdx, List.size_toArray, List.length_cons, List.length_nil, Nat.zero_add, Nat.reduceAdd] at LL
  obtain ⟨ha8_0, hf8_0, ha8_1, hf8_1⟩ := (LL.out.has 0 rfl).sf2
  have LF := Lib.hid (LL.out.write [.float .f64 9218868437227405312, .float .f64 18442240474082181120] rfl (by omega) (by simp <;> omega) (by simp <;> omega))
  obtain ⟨hk8_0, hk8_1⟩ := (LF.out.blk 4 rfl).c2
  simp [sets] at hk8_0 hk8_1
  clear LL
  go_wp2
  refine bodyPost_ret (v := .agg #[.float .f64 9218868437227405312, .float .f64 18442240474082181120]) (by simp [results, Tryz.results32, go_sem, hk8_0, hk8_1]) rfl ?_
  exact ⟨rfl, LF.out.b⟩
set_option maxRecDepth 8000 in
theorem fmaadd_some (a1 a2 b1 b2 c1 c2 y1 y2 A1 A2 B1 B2 C1 C2 x1 x2 r1 r2 : Nat) (us vs Pd Pu Qd Qu : Nat → Nat) (ld lu gd gu : Nat → Nat → Nat) (d1 d2 d3 d4 : Bool) (w : World) (t1 : ∀ W, Calls Tryz.prog 102 #[.agg #[.float .f64 a1, .float .f64 a2]] W fun e w' => e = .returned (.agg #[.float .f64 A1, .float .f64 A2]) ∧ Below W.heap.size W w') (m1 : Em d1 A1 A2) (t2 : ∀ W, Calls Tryz.prog 102 #[.agg #[.float .f64 b1, .float .f64 b2]] W fun e w' => e = .returned (.agg #[.float .f64 B1, .float .f64 B2]) ∧ Below W.heap.size W w') (m2 : Em d2 B1 B2) (t3 : ∀ W, Calls Tryz.prog 102 #[.agg #[.float .f64 c1, .float .f64 c2]] W fun e w' => e = .returned (.agg #[.float .f64 C1, .float .f64 C2]) ∧ Below W.heap.size W w') (m3 : Em d3 C1 C2) (t4 : ∀ W, Calls Tryz.prog 102 #[.agg #[.float .f64 y1, .float .f64 y2]] W fun e w' => e = .returned (.agg #[.float .f64 x1, .float .f64 x2]) ∧ Below W.heap.size W w') (m4 : Em d4 x1 x2) (hnn : (d1 || d2 || d3 || d4) = false)
    (hu : us 0 = A1 ∧ us 1 = A2) (hv : vs 0 = B1 ∧ vs 1 = B2) (hp : Pd 0 = 9218868437227405312 ∧ Pu 0 = 9218868437227405312) (hq : Qd 0 = 18442240474082181120 ∧ Qu 0 = 18442240474082181120)
    (hl : ∀ i j : Nat, i < 2 → j < 2 → ∀ W, Calls Tryz.prog 92 #[.float .f64 C1, .float .f64 (us i), .float .f64 (vs j)] W fun e w' => e = .returned (.agg #[.float .f64 (ld i j), .float .f64 (lu i j)]) ∧ Below W.heap.size W w') (hh : ∀ i j : Nat, i < 2 → j < 2 → ∀ W, Calls Tryz.prog 92 #[.float .f64 C2, .float .f64 (us i), .float .f64 (vs j)] W fun e w' => e = .returned (.agg #[.float .f64 (gd i j), .float .f64 (gu i j)]) ∧ Below W.heap.size W w')
    (na : ∀ i j : Nat, i < 2 → j < 2 → ∀ W ts t, (Builtin.min_ ts t #[.float .f64 (Pd (2 * i + j)), .float .f64 (ld i j)]).run Tryz.prog W = .ok (.float .f64 (Pd (2 * i + j + 1))) W) (nb : ∀ i j : Nat, i < 2 → j < 2 → ∀ W ts t, (Builtin.min_ ts t #[.float .f64 (Pu (2 * i + j)), .float .f64 (lu i j)]).run Tryz.prog W = .ok (.float .f64 (Pu (2 * i + j + 1))) W) (xa : ∀ i j : Nat, i < 2 → j < 2 → ∀ W ts t, (Builtin.max_ ts t #[.float .f64 (Qd (2 * i + j)), .float .f64 (gd i j)]).run Tryz.prog W = .ok (.float .f64 (Qd (2 * i + j + 1))) W) (xb : ∀ i j : Nat, i < 2 → j < 2 → ∀ W ts t, (Builtin.max_ ts t #[.float .f64 (Qu (2 * i + j)), .float .f64 (gu i j)]).run Tryz.prog W = .ok (.float .f64 (Qu (2 * i + j + 1))) W)
    (hcut : ∀ W, Calls Tryz.prog 77 #[.agg #[.float .f64 x1, .float .f64 x2], .agg #[.float .f64 (Pd (4)), .float .f64 (Pu (4))], .agg #[.float .f64 (Qd (4)), .float .f64 (Qu (4))], .bool false] W fun e w' => e = .returned (.agg #[.float .f64 r1, .float .f64 r2]) ∧ Below W.heap.size W w') :
    Calls Tryz.prog 32 #[.agg #[.float .f64 a1, .float .f64 a2], .agg #[.float .f64 b1, .float .f64 b2], .agg #[.float .f64 c1, .float .f64 c2], .agg #[.float .f64 y1, .float .f64 y2]] w fun e w' => e = .returned (.agg #[.float .f64 r1, .float .f64 r2]) ∧ Below w.heap.size w w' := by
  have HI := Lib.hid fun W => inf_pos W
  have HJ := Lib.hid fun W => inf_neg W
  have HT := Lib.hid fun W => at_any 9218868437227405312 W
  have HS := Lib.hid fun W => at_any 18442240474082181120 W
  have IXA := Lib.hid (show ∀ i : Nat, i < 2 → ∀ W, (Instr.index 99 (.agg #[.float .f64 A1, .float .f64 A2]) (.int .i64 (i : Int))).run Tryz.prog W = .ok (.float .f64 (us i)) W from fun i hi => by
    match i, hi with
    | 0, _ => rw [hu.1]; exact fun _ => by kernel_rfl
    | 1, _ => rw [hu.2]; exact fun _ => by kernel_rfl)
  have IXB := Lib.hid (show ∀ i : Nat, i < 2 → ∀ W, (Instr.index 99 (.agg #[.float .f64 B1, .float .f64 B2]) (.int .i64 (i : Int))).run Tryz.prog W = .ok (.float .f64 (vs i)) W from fun i hi => by
    match i, hi with
    | 0, _ => rw [hv.1]; exact fun _ => by kernel_rfl
    | 1, _ => rw [hv.2]; exact fun _ => by kernel_rfl)
  have HL := Lib.hid hl
  have HH := Lib.hid hh
  have NA := Lib.hid na
  have NB := Lib.hid nb
  have XA := Lib.hid xa
  have XB := Lib.hid xb
  have HCUT := Lib.hid hcut
  have HP := Lib.hid hp
  have HQ := Lib.hid hq
  clear hl hh na nb xa xb hcut hp hq
  clear hu hv
  have LL := li5 w #[.float .f64 a1, .float .f64 a2] 28 #[.float .f64 b1, .float .f64 b2] 28 #[.float .f64 c1, .float .f64 c2] 28 #[.float .f64 y1, .float .f64 y2] 28 #[.float .f64 0, .float .f64 0] 28
  have hrow := Blk.at (W := (((((w.alloc (.cells #[.float .f64 a1, .float .f64 a2] 28)).alloc (.cells #[.float .f64 b1, .float .f64 b2] 28)).alloc (.cells #[.float .f64 c1, .float .f64 c2] 28)).alloc (.cells #[.float .f64 y1, .float .f64 y2] 28)).alloc (.cells #[.float .f64 0, .float .f64 0] 28))) (g := w.heap.size + 1 + 1 + 1 + 1 + 1) (by simp) 75 #[.pointer (some ⟨w.heap.size, 0, none⟩), .pointer (some ⟨w.heap.size + 1, 0, none⟩), .pointer (some ⟨w.heap.size + 1 + 1, 0, none⟩), .pointer (some ⟨w.heap.size + 1 + 1 + 1, 0, none⟩)]
  have HRD := Lib.hid (read_n w.heap.size 4 (w.heap.size + 1 + 1 + 1 + 1 + 1) 4 (fun k : Nat => if k = 0 then (a1, a2) else if k = 1 then (b1, b2) else if k = 2 then (c1, c2) else (y1, y2)) (fun k : Nat => if k = 0 then (A1, A2) else if k = 1 then (B1, B2) else if k = 2 then (C1, C2) else (x1, x2)) (fun k : Nat => if k = 0 then d1 else if k = 1 then d2 else if k = 2 then d3 else d4) _ (by omega) (by omega)
    (fun k hk => by match k, hk with | 0, _ => exact hrow.cell 0 | 1, _ => exact hrow.cell 1 | 2, _ => exact hrow.cell 2 | 3, _ => exact hrow.cell 3) (fun k hk => by match k, hk with | 0, _ => exact (LL.out.blk 0 rfl).alloc (.cells #[.pointer (some ⟨w.heap.size, 0, none⟩), .pointer (some ⟨w.heap.size + 1, 0, none⟩), .pointer (some ⟨w.heap.size + 1 + 1, 0, none⟩), .pointer (some ⟨w.heap.size + 1 + 1 + 1, 0, none⟩)] 75) | 1, _ => exact (LL.out.blk 1 rfl).alloc (.cells #[.pointer (some ⟨w.heap.size, 0, none⟩), .pointer (some ⟨w.heap.size + 1, 0, none⟩), .pointer (some ⟨w.heap.size + 1 + 1, 0, none⟩), .pointer (some ⟨w.heap.size + 1 + 1 + 1, 0, none⟩)] 75) | 2, _ => exact (LL.out.blk 2 rfl).alloc (.cells #[.pointer (some ⟨w.heap.size, 0, none⟩), .pointer (some ⟨w.heap.size + 1, 0, none⟩), .pointer (some ⟨w.heap.size + 1 + 1, 0, none⟩), .pointer (some ⟨w.heap.size + 1 + 1 + 1, 0, none⟩)] 75) | 3, _ => exact (LL.out.blk 3 rfl).alloc (.cells #[.pointer (some ⟨w.heap.size, 0, none⟩), .pointer (some ⟨w.heap.size + 1, 0, none⟩), .pointer (some ⟨w.heap.size + 1 + 1, 0, none⟩), .pointer (some ⟨w.heap.size + 1 + 1 + 1, 0, none⟩)] 75)) (fun k hk => by match k, hk with | 0, _ => exact t1 | 1, _ => exact t2 | 2, _ => exact t3 | 3, _ => exact t4) (fun k hk => by match k, hk with | 0, _ => exact m1 | 1, _ => exact m2 | 2, _ => exact m3 | 3, _ => exact m4))
  rw [show anyB (fun k : Nat => if k = 0 then d1 else if k = 1 then d2 else if k = 2 then d3 else d4) 4 = (d1 || d2 || d3 || d4) from by simp [anyB], hnn] at HRD
  have LLR := Lib.hid (LL.out.alloc (.cells #[.pointer (some ⟨w.heap.size, 0, none⟩), .pointer (some ⟨w.heap.size + 1, 0, none⟩), .pointer (some ⟨w.heap.size + 1 + 1, 0, none⟩), .pointer (some ⟨w.heap.size + 1 + 1 + 1, 0, none⟩)] 75))
  have HSZ := Lib.hid (show w.heap.size ≤ (((((((w.alloc (.cells #[.float .f64 a1, .float .f64 a2] 28)).alloc (.cells #[.float .f64 b1, .float .f64 b2] 28)).alloc (.cells #[.float .f64 c1, .float .f64 c2] 28)).alloc (.cells #[.float .f64 y1, .float .f64 y2] 28)).alloc (.cells #[.float .f64 0, .float .f64 0] 28))).alloc (.cells #[.pointer (some ⟨w.heap.size, 0, none⟩), .pointer (some ⟨w.heap.size + 1, 0, none⟩), .pointer (some ⟨w.heap.size + 1 + 1, 0, none⟩), .pointer (some ⟨w.heap.size + 1 + 1 + 1, 0, none⟩)] 75)).heap.size by simp; omega)
  clear t1 m1 t2 m2 t3 m3 t4 m4 hrow hnn LL
  go_enter Tryz.func32, Tryz.ntmps32
  go_wp2_with fail
  refine HRD.out.mono ?_
  rintro e wk ⟨rfl, hd, kp⟩
  have LL := Lib.hid (show Lies w wk [(w.heap.size, 28, #[.float .f64 A1, .float .f64 A2]), ((w.heap.size + 1), 28, #[.float .f64 B1, .float .f64 B2]), ((w.heap.size + 2), 28, #[.float .f64 C1, .float .f64 C2]), ((w.heap.size + 3), 28, #[.float .f64 x1, .float .f64 x2]), ((w.heap.size + 4), 28, #[.float .f64 0, .float .f64 0])] [] from ⟨kp.toBl LLR.out.b HSZ.out (Nat.le_refl _), by simp only [List.mem_cons, List.not_mem_nil, or_false, forall_eq_or_imp, forall_eq]; exact ⟨show Blk wk w.heap.size 28 #[.float .f64 A1, .float .f64 A2] from hd 0 (by omega), show Blk wk (w.heap.size + 1) 28 #[.float .f64 B1, .float .f64 B2] from hd 1 (by omega), show Blk wk (w.heap.size + 2) 28 #[.float .f64 C1, .float .f64 C2] from hd 2 (by omega), show Blk wk (w.heap.size + 3) 28 #[.float .f64 x1, .float .f64 x2] from hd 3 (by omega), kp.blk (LLR.out.blk 4 rfl) (by omega)⟩, by simp⟩)
  clear hd kp LLR HSZ HRD
  go_wp2_with fail
  refine (HI.out _).mono ?_
  rintro e wk ⟨rfl, rfl⟩
  go_wp2_with fail
  refine (HT.out _).mono ?_
  rintro e wk ⟨rfl, hb⟩
  replace LL := stL LL hb
  clear hb
  go_wp2_with fail
  refine (HJ.out _).mono ?_
  rintro e wk ⟨rfl, rfl⟩
  go_wp2_with fail
  refine (HS.out _).mono ?_
  rintro e wk ⟨rfl, hb⟩
  replace LL := stL LL hb
  clear hb
  go_upto_region 4 with fail
  clear HI HJ HT HS
  have hl_j9 := LL.out.lts
  generalize hwm : World.alloc wk _ = wm
  replace LL := Lib.hid (LL.out.newE hwm)
  have hz : wm.heap.size = wk.heap.size + 1 := by rw [← hwm]; simp
  clear hwm
  generalize hwn : World.alloc wm _ = wn
  replace LL := Lib.hid (LL.out.newE hwn)
  rw [hz] at LL
  simp only [List.cons_append, List.nil_append] at LL
  simp only [List.mem_cons, List.not_mem_nil, or_false, forall_eq_or_imp, forall_eq, false_imp_iff, implies_true, and_true] at hl_j9
  clear hwn hz
  generalize wk.heap.size = j9 at LL hl_j9 ⊢
  have LL0 := Lib.hid (show Lies w wn [(w.heap.size, 28, #[.float .f64 A1, .float .f64 A2]), ((w.heap.size + 1), 28, #[.float .f64 B1, .float .f64 B2]), ((w.heap.size + 2), 28, #[.float .f64 C1, .float .f64 C2]), ((w.heap.size + 3), 28, #[.float .f64 x1, .float .f64 x2]), ((w.heap.size + 4), 28, #[.float .f64 0, .float .f64 0]), (j9, 78, #[.float .f64 (Pd (2 * 0)), .float .f64 (Pu (2 * 0))]), ((j9 + 1), 78, #[.float .f64 (Qd (2 * 0)), .float .f64 (Qu (2 * 0))])] [] from by rw [HP.out.1, HP.out.2, HQ.out.1, HQ.out.2]; exact LL.out)
  clear LL HP HQ
  have LL := LL0
  clear LL0
  obtain ⟨q1_0, q1_1⟩ := (LL.out.blk 0 rfl).c2
  go_wp2
  clear q1_0 q1_1
  go_loopw [12, 29] (fun _ iv wr => ∃ i : Nat, iv = .int .i64 (i : Int) ∧ i ≤ 2 ∧ Lies w wr [(w.heap.size, 28, #[.float .f64 A1, .float .f64 A2]), ((w.heap.size + 1), 28, #[.float .f64 B1, .float .f64 B2]), ((w.heap.size + 2), 28, #[.float .f64 C1, .float .f64 C2]), ((w.heap.size + 3), 28, #[.float .f64 x1, .float .f64 x2]), ((w.heap.size + 4), 28, #[.float .f64 0, .float .f64 0]), (j9, 78, #[.float .f64 (Pd (2 * i)), .float .f64 (Pu (2 * i))]), ((j9 + 1), 78, #[.float .f64 (Qd (2 * i)), .float .f64 (Qu (2 * i))])] []) (fun _ iv _ => 2 - (intOf iv).toNat)
  case atStart => exact ⟨0, rfl, by omega, LL.out⟩
  case round =>
    clear LL
    obtain ⟨i, rfl, hi, hl⟩ := hrel
    have LL := Lib.hid hl
    clear hl
    by_cases hlt : i < 2
    · skip
      obtain ⟨wo, rfl⟩ : ∃ wo : World, wo = wr := ⟨_, rfl⟩
      have ixi := IXA.out i hlt
      obtain ⟨q2_0, q2_1⟩ := (LL.out.blk 1 rfl).c2
      go_wp2
      clear ixi q2_0 q2_1
      go_loopw [14, 37] (fun _ iv wr => ∃ j : Nat, iv = .int .i64 (j : Int) ∧ j ≤ 2 ∧ Lies w wr [(w.heap.size, 28, #[.float .f64 A1, .float .f64 A2]), ((w.heap.size + 1), 28, #[.float .f64 B1, .float .f64 B2]), ((w.heap.size + 2), 28, #[.float .f64 C1, .float .f64 C2]), ((w.heap.size + 3), 28, #[.float .f64 x1, .float .f64 x2]), ((w.heap.size + 4), 28, #[.float .f64 0, .float .f64 0]), (j9, 78, #[.float .f64 (Pd (2 * i + j)), .float .f64 (Pu (2 * i + j))]), ((j9 + 1), 78, #[.float .f64 (Qd (2 * i + j)), .float .f64 (Qu (2 * i + j))])] []) (fun _ iv _ => 2 - (intOf iv).toNat)
      case atStart => exact ⟨0, rfl, by omega, LL.out⟩
      case round =>
        clear LL
        obtain ⟨j, rfl, hj, hl⟩ := hrel
        have LL := Lib.hid hl
        clear hl
        by_cases hlt2 : j < 2
        · skip
          have ixj := IXB.out j hlt2
          have HLk := Lib.hid (HL.out i j hlt hlt2)
          have HHk := Lib.hid (HH.out i j hlt hlt2)
          go_upto_region 10 with fail
          clear ixj
          go_cut [15, 16, 30, 38] from 40 to 49 (fun s15 s16 s30 s38 wx => ∃ j15 j16 : Nat, s30 = .bool (decide ((i : Int) < 2)) ∧ s15 = .pointer (some ⟨j15, 0, none⟩) ∧ s16 = .pointer (some ⟨j16, 0, none⟩) ∧ (w.heap.size + 4 < j15 ∧ w.heap.size + 4 < j16 ∧ j9 + 1 < j15 ∧ j9 + 1 < j16 ∧ j15 ≠ j16) ∧ Lies w wx [(w.heap.size, 28, #[.float .f64 A1, .float .f64 A2]), ((w.heap.size + 1), 28, #[.float .f64 B1, .float .f64 B2]), ((w.heap.size + 2), 28, #[.float .f64 C1, .float .f64 C2]), ((w.heap.size + 3), 28, #[.float .f64 x1, .float .f64 x2]), ((w.heap.size + 4), 28, #[.float .f64 0, .float .f64 0]), (j9, 78, #[.float .f64 (Pd (2 * i + j)), .float .f64 (Pu (2 * i + j))]), ((j9 + 1), 78, #[.float .f64 (Qd (2 * i + j)), .float .f64 (Qu (2 * i + j))]), (j15, 78, #[.float .f64 (ld i j), .float .f64 (lu i j)]), (j16, 78, #[.float .f64 (gd i j), .float .f64 (gu i j)])] [])
          case first =>
            clear HL HH NA NB XA XB HCUT IXA IXB hlt2 hi hj
            refine regL LL (fun hHeld => ?_)
            clear LL
            generalize World.drew _ = wk at hHeld  ⊢
            refine tk 0 ?_
            try simp only [Act.put, lay]
            refine tk 1 ?_ (hv := by intro W2 hSw; obtain ⟨q0, q1⟩ := (hSw.blk 2 rfl).c2; go_simp; (try with_reducible rfl))
            try simp only [Act.put, lay]
            refine tk 2 ?_
            try simp only [Act.put, lay]
            refine tk 3 ?_
            try simp only [Act.put, lay]
            refine tk 5 ?_
            try simp only [Act.put, lay]
            refine tk 6 ?_ (hv := by intro W2 hSw; obtain ⟨q0, q1⟩ := (hSw.blk 2 rfl).c2; go_simp; (try with_reducible rfl))
            try simp only [Act.put, lay]
            refine tk 7 ?_
            try simp only [Act.put, lay]
            refine tk 8 ?_
            try simp only [Act.put, lay]
            repeat' first
              | (have hx := hC4; clear hx; go_simp; refine (HLk.out _).mono ?_; rintro e wk ⟨rfl, hb1⟩; go_wp2_with fail; refine hC4.out _ _ (hHeld.keep hb1) (fun _ => ?_); clear hC4 KK hHeld; rename_i hHeld; (try simp only [Act.put, lay]); (try replace B_j15 := B_j15.keep hb1); (try replace B_j16 := B_j16.keep hb1); clear hb1; have mk4 := True.intro)
              | (have hx := hC9; clear hx; go_simp; refine (HHk.out _).mono ?_; rintro e wk ⟨rfl, hb2⟩; go_wp2_with fail; refine hC9.out _ _ (hHeld.keep hb2) (fun _ => ?_); clear hC9 KK hHeld; rename_i hHeld; (try simp only [Act.put, lay]); (try replace B_j15 := B_j15.keep hb2); (try replace B_j16 := B_j16.keep hb2); clear hb2; have mk9 := True.intro)
              | (have hx := hA10; clear hx; go_simp; have hl_j15 := hHeld.lts; refine hA10.out _ _ (hHeld.alloc _) (fun _ => ?_); clear hA10 KK hHeld; rename_i hHeld; (try simp only [Act.put, lay]); generalize hwn : World.alloc wk _ = wn at hHeld ⊢; have B_j15 := Blk.newE hwn; (try (have hx_j15 := B_j16.lt; replace B_j16 := B_j16.keep (below_allocE hwn))); simp only [List.mem_cons, List.not_mem_nil, or_false, forall_eq_or_imp, forall_eq, false_imp_iff, implies_true, and_true] at hl_j15; clear hwn; generalize hg : wk.heap.size = j15 at B_j15 hl_j15 ⊢; (try rw [hg] at hx_j15); clear hg; obtain ⟨wk, rfl⟩ : ∃ X, X = wn := ⟨_, rfl⟩; have mk10 := True.intro)
              | (have hx := hA11; clear hx; go_simp; have hl_j16 := hHeld.lts; refine hA11.out _ _ (hHeld.alloc _) (fun _ => ?_); clear hA11 KK hHeld; rename_i hHeld; (try simp only [Act.put, lay]); generalize hwn : World.alloc wk _ = wn at hHeld ⊢; have B_j16 := Blk.newE hwn; (try (have hx_j16 := B_j15.lt; replace B_j15 := B_j15.keep (below_allocE hwn))); simp only [List.mem_cons, List.not_mem_nil, or_false, forall_eq_or_imp, forall_eq, false_imp_iff, implies_true, and_true] at hl_j16; clear hwn; generalize hg : wk.heap.size = j16 at B_j16 hl_j16 ⊢; (try rw [hg] at hx_j16); clear hg; obtain ⟨wk, rfl⟩ : ∃ X, X = wn := ⟨_, rfl⟩; have mk11 := True.intro)
              | (have hx := hS12; clear hx; have qz0 := B_j15.ce 0 rfl; have fz0 := B_j15.frozen 0; have qz1 := B_j15.ce 1 rfl; have fz1 := B_j15.frozen 1; go_simp; have hsx := hHeld.far [.float .f64 (ld i j), .float .f64 (lu i j)] 0 (g := j15) (by omega) (by simp <;> omega) (by simp <;> omega); generalize hwn : sets wk j15 0 _ = wn at hsx; refine hS12.out _ _ (by have e := hwn; simp only [sets, Nat.reduceAdd] at e; rw [e]; exact hsx) (fun _ => ?_); clear hS12 KK hHeld hsx; rename_i hHeld; (try simp only [Act.put, lay]); (try replace B_j16 := B_j16.otherE hwn (by omega)); replace B_j15 := B_j15.setsE hwn; simp only [laid, lay, Nat.reduceAdd] at B_j15; simp only [sets, Nat.reduceAdd] at hwn; rw [hwn] at hHeld ⊢; clear hwn qz0 fz0 qz1 fz1; obtain ⟨wk, rfl⟩ : ∃ X, X = wn := ⟨_, rfl⟩; have mk12 := True.intro)
              | (have hx := hS13; clear hx; have qz0 := B_j16.ce 0 rfl; have fz0 := B_j16.frozen 0; have qz1 := B_j16.ce 1 rfl; have fz1 := B_j16.frozen 1; go_simp; have hsx := hHeld.far [.float .f64 (gd i j), .float .f64 (gu i j)] 0 (g := j16) (by omega) (by simp <;> omega) (by simp <;> omega); generalize hwn : sets wk j16 0 _ = wn at hsx; refine hS13.out _ _ (by have e := hwn; simp only [sets, Nat.reduceAdd] at e; rw [e]; exact hsx) (fun _ => ?_); clear hS13 KK hHeld hsx; rename_i hHeld; (try simp only [Act.put, lay]); (try replace B_j15 := B_j15.otherE hwn (by omega)); replace B_j16 := B_j16.setsE hwn; simp only [laid, lay, Nat.reduceAdd] at B_j16; simp only [sets, Nat.reduceAdd] at hwn; rw [hwn] at hHeld ⊢; clear hwn qz0 fz0 qz1 fz1; obtain ⟨wk, rfl⟩ : ∃ X, X = wn := ⟨_, rfl⟩; have mk13 := True.intro)
              | (have hx := mk4; have hx := mk9; have hx := mk10; have hx := mk11; have hx := mk12; have hx := mk13; refine wpAnyH_done (by kernel_rfl) ?_ _; clear hx mk4 mk9 mk10 mk11 mk12 mk13; go_wp2_with fail; go_meet; exact ⟨j15, j16, by (first | rfl | (simp <;> omega)), rfl, rfl, ⟨by omega, by omega, by omega, by omega, by omega⟩, (hHeld.put B_j15).put B_j16⟩)
              | (have hx := mk4; have hx := mk9; have hx := mk10; have hx := mk11; have hx := mk12; refine rdy 13 (fun KK hS13 => ?_))
              | (have hx := mk4; have hx := mk9; have hx := mk10; have hx := mk11; refine rdy 12 (fun KK hS12 => ?_))
              | (have hx := mk4; have hx := mk10; have hx := mk11; refine rdy 9 (fun KK hC9 => ?_))
              | (have hx := mk4; have hx := mk9; have hx := mk11; refine rdy 10 (fun KK hA10 => ?_))
              | (have hx := mk4; have hx := mk9; have hx := mk10; refine rdy 11 (fun KK hA11 => ?_))
              | (have hx := mk10; have hx := mk11; refine rdy 4 (fun KK hC4 => ?_))
              | (have hx := mk4; have hx := mk11; refine rd2 9 10 (fun KK hC9 => ?_) (fun KK hA10 => ?_))
              | (have hx := mk4; have hx := mk10; refine rd2 9 11 (fun KK hC9 => ?_) (fun KK hA11 => ?_))
              | (have hx := mk4; have hx := mk9; refine rd2 10 11 (fun KK hA10 => ?_) (fun KK hA11 => ?_))
              | (have hx := mk11; refine rd2 4 10 (fun KK hC4 => ?_) (fun KK hA10 => ?_))
              | (have hx := mk10; refine rd2 4 11 (fun KK hC4 => ?_) (fun KK hA11 => ?_))
              | (have hx := mk4; refine rd3 9 10 11 (fun KK hC9 => ?_) (fun KK hA10 => ?_) (fun KK hA11 => ?_))
              | (refine rd3 4 10 11 (fun KK hC4 => ?_) (fun KK hA10 => ?_) (fun KK hA11 => ?_))
          case rest =>
          obtain ⟨j15, j16, rfl, rfl, rfl, hgs, hcl⟩ := hcut
          rename World => wx
          clear LL
          have LL := Lib.hid hcl
          clear hcl
          obtain ⟨q3_0, q3_1⟩ := (LL.out.blk 5 rfl).c2
          obtain ⟨q4_0, q4_1⟩ := (LL.out.blk 7 rfl).c2
          have fz0 := (LL.out.blk 5 rfl).frozen 0
          have fz1 := (LL.out.blk 5 rfl).frozen 1
          have ma := NA.out i j hlt hlt2
          have mb := NB.out i j hlt hlt2
          go_upto_region 12 with fail
          clear ma mb q3_0 q3_1 q4_0 q4_1 fz0 fz1
          replace LL := Lib.hid (LL.out.part 5 rfl 0 [.float .f64 (Pd (2 * i + j + 1)), .float .f64 (Pu (2 * i + j + 1))] (by omega) (by simp <;> omega) (by simp <;> omega))
          simp only [List.eraseIdx, laid, List.cons_append, List.nil_append, List.setIfInBounds_toArray, List.set_cons_zero, List.set_cons_succ, Nat.zero_add, Nat.reduceAdd] at LL
          obtain ⟨wn, hwn⟩ : ∃ X, (sets wx j9 0 [.float .f64 (Pd (2 * i + j + 1)), .float .f64 (Pu (2 * i + j + 1))]) = X := ⟨_, rfl⟩
          rw [hwn] at LL 
          simp only [sets, Nat.reduceAdd] at hwn
          rw [hwn]
          clear hwn
          obtain ⟨q5_0, q5_1⟩ := (LL.out.blk 5 rfl).c2
          obtain ⟨q6_0, q6_1⟩ := (LL.out.blk 7 rfl).c2
          have fz0 := (LL.out.blk 5 rfl).frozen 0
          have fz1 := (LL.out.blk 5 rfl).frozen 1
          have ma := XA.out i j hlt hlt2
          have mb := XB.out i j hlt hlt2
          go_upto_region 13 with fail
          clear ma mb q5_0 q5_1 q6_0 q6_1 fz0 fz1
          replace LL := Lib.hid (LL.out.part 5 rfl 0 [.float .f64 (Qd (2 * i + j + 1)), .float .f64 (Qu (2 * i + j + 1))] (by omega) (by simp <;> omega) (by simp <;> omega))
          simp only [List.eraseIdx, laid, List.cons_append, List.nil_append, List.setIfInBounds_toArray, List.set_cons_zero, List.set_cons_succ, Nat.zero_add, Nat.reduceAdd] at LL
          obtain ⟨wn, hwn⟩ : ∃ X, (sets wn (j9 + 1) 0 [.float .f64 (Qd (2 * i + j + 1)), .float .f64 (Qu (2 * i + j + 1))]) = X := ⟨_, rfl⟩
          rw [hwn] at LL 
          simp only [sets, Nat.reduceAdd] at hwn
          rw [hwn]
          clear hwn
          go_wp2
          go_roundw
          case rel => exact ⟨j + 1, by go_num, by omega, LL.out.perm (by simp [Nat.add_assoc]) (by simp)⟩
          case measure => simp [intOf]; omega
        · skip
          obtain rfl : j = 2 := by omega
          go_wp2
          go_roundw
          case rel => exact ⟨i + 1, by go_num, by omega, by rw [show 2 * (i + 1) = 2 * i + 2 from by omega]; exact LL.out⟩
          case measure => simp [intOf]; omega
    · skip
      obtain rfl : i = 2 := by omega
      obtain ⟨q3_0, q3_1⟩ := (LL.out.blk 3 rfl).c2
      obtain ⟨q4_0, q4_1⟩ := (LL.out.blk 5 rfl).c2
      obtain ⟨q5_0, q5_1⟩ := (LL.out.blk 6 rfl).c2
      go_wp2_with fail
      refine (HCUT.out _).mono ?_
      rintro e wk ⟨rfl, hb⟩
      replace LL := stL LL hb
      clear hb q3_0 q3_1 q4_0 q4_1 q5_0 q5_1
      replace LL := Lib.hid (LL.out.loose 4 rfl rfl)
      simp only [List.eraseIdx, List.size_toArray, List.length_cons, List.length_nil, Nat.zero_add, Nat.reduceAdd] at LL
      obtain ⟨ha8_0, hf8_0, ha8_1, hf8_1⟩ := (LL.out.has 0 rfl).sf2
      have LF := Lib.hid (LL.out.write [.float .f64 r1, .float .f64 r2] rfl (by omega) (by simp <;> omega) (by simp <;> omega))
      obtain ⟨hk8_0, hk8_1⟩ := (LF.out.blk 6 rfl).c2
      simp [sets] at hk8_0 hk8_1
      clear LL
      go_wp2
      refine bodyPost_ret (v := .agg #[.float .f64 r1, .float .f64 r2]) (by simp [results, Tryz.results32, go_sem, hk8_0, hk8_1]) rfl ?_
      exact ⟨rfl, LF.out.b⟩
end Go.Proofs.YthlmlmfebpjgdaaGreatDoor

namespace Go.Proofs.YthlmlmfebpjgdaaGreatDoor
def fad (i1 j1 i2 j2 c1 c2 i j : Int) : Int × Int :=
  if j1 < i1 ∨ j2 < i2 ∨ c2 < c1 ∨ j < i then ((M : Int), -(M : Int))
  else ct i j (min (min (min (min M (wt c1 i1 i2).1) (wt c1 i1 j2).1) (wt c1 j1 i2).1) (wt c1 j1 j2).1) (min (min (min (min M (wt c1 i1 i2).2) (wt c1 i1 j2).2) (wt c1 j1 i2).2) (wt c1 j1 j2).2)
    (max (max (max (max (-(M : Int)) (wt c2 i1 i2).1) (wt c2 i1 j2).1) (wt c2 j1 i2).1) (wt c2 j1 j2).1) (max (max (max (max (-(M : Int)) (wt c2 i1 i2).2) (wt c2 i1 j2).2) (wt c2 j1 i2).2) (wt c2 j1 j2).2)
end Go.Proofs.YthlmlmfebpjgdaaGreatDoor

namespace Go.Proofs.YthlmlmfebpjgdaaGreatDoor
open Go.RowKit
def ul (a b : Int) (i : Nat) : Int := if i = 0 then a else b
def mnk (f : Nat → Nat → Int) : Nat → Int
  | 0 => M
  | k + 1 => min (mnk f k) (f (k / 2) (k % 2))
def mxk (f : Nat → Nat → Int) : Nat → Int
  | 0 => -(M : Int)
  | k + 1 => max (mxk f k) (f (k / 2) (k % 2))
theorem mnk_rng {f : Nat → Nat → Int} (h : ∀ i j, -(M : Int) ≤ f i j ∧ f i j ≤ M) (k : Nat) : -(M : Int) ≤ mnk f k ∧ mnk f k ≤ M := by
  have hM : (M : Int) = 9218868437227405312 := rfl
  induction k with
  | zero => show -(M : Int) ≤ (M : Int) ∧ (M : Int) ≤ M; omega
  | succ k ih => have := h (k / 2) (k % 2); show -(M : Int) ≤ min _ _ ∧ min _ _ ≤ (M : Int); omega
theorem mxk_rng {f : Nat → Nat → Int} (h : ∀ i j, -(M : Int) ≤ f i j ∧ f i j ≤ M) (k : Nat) : -(M : Int) ≤ mxk f k ∧ mxk f k ≤ M := by
  have hM : (M : Int) = 9218868437227405312 := rfl
  induction k with
  | zero => show -(M : Int) ≤ -(M : Int) ∧ -(M : Int) ≤ M; omega
  | succ k ih => have := h (k / 2) (k % 2); show -(M : Int) ≤ max _ _ ∧ max _ _ ≤ (M : Int); omega
theorem mnk_step (f : Nat → Nat → Int) (i j : Nat) (hj : j < 2) : min (mnk f (2 * i + j)) (f i j) = mnk f (2 * i + j + 1) := by
  show _ = min (mnk f (2 * i + j)) (f ((2 * i + j) / 2) ((2 * i + j) % 2))
  rw [show (2 * i + j) / 2 = i by omega, show (2 * i + j) % 2 = j by omega]
theorem mxk_step (f : Nat → Nat → Int) (i j : Nat) (hj : j < 2) : max (mxk f (2 * i + j)) (f i j) = mxk f (2 * i + j + 1) := by
  show _ = max (mxk f (2 * i + j)) (f ((2 * i + j) / 2) ((2 * i + j) % 2))
  rw [show (2 * i + j) / 2 = i by omega, show (2 * i + j) % 2 = j by omega]
theorem ul_rng {i j : Int} (h : Iv i j) (k : Nat) : -(M : Int) ≤ ul i j k ∧ ul i j k ≤ M := by
  unfold ul
  split
  · exact h.lo
  · exact h.hi
theorem ctO_false (i j a b c d : Int) : ctO false i j a b c d = ct i j a b c d := by
  unfold ctO ct
  by_cases h : c < i ∨ j < b
  · rw [if_pos h, if_pos h]
  · rw [if_neg h, if_neg h, if_neg (by rintro ⟨h, -⟩; cases h)]
theorem fad_k (i1 j1 i2 j2 c1 c2 i j : Int) : fad i1 j1 i2 j2 c1 c2 i j = if j1 < i1 ∨ j2 < i2 ∨ c2 < c1 ∨ j < i then ((M : Int), -(M : Int)) else
    ct i j (mnk (fun k l => (wt c1 (ul i1 j1 k) (ul i2 j2 l)).1) 4) (mnk (fun k l => (wt c1 (ul i1 j1 k) (ul i2 j2 l)).2) 4) (mxk (fun k l => (wt c2 (ul i1 j1 k) (ul i2 j2 l)).1) 4) (mxk (fun k l => (wt c2 (ul i1 j1 k) (ul i2 j2 l)).2) 4) := rfl
theorem fmaadd_any (a1 a2 b1 b2 c1 c2 x y : Nat) (w : World) (ha1 : a1 < 18446744073709551616) (ha2 : a2 < 18446744073709551616) (hb1 : b1 < 18446744073709551616) (hb2 : b2 < 18446744073709551616) (hc1 : c1 < 18446744073709551616) (hc2 : c2 < 18446744073709551616) (hx : x < 18446744073709551616) (hy : y < 18446744073709551616) :
    Calls Tryz.prog 32 #[.agg #[.float .f64 a1, .float .f64 a2], .agg #[.float .f64 b1, .float .f64 b2], .agg #[.float .f64 c1, .float .f64 c2], .agg #[.float .f64 x, .float .f64 y]] w fun e w' =>
      e = .returned (.agg #[.float .f64 (pat (fad (rd a1 a2).1 (rd a1 a2).2 (rd b1 b2).1 (rd b1 b2).2 (rd c1 c2).1 (rd c1 c2).2 (rd x y).1 (rd x y).2).1), .float .f64 (pat (fad (rd a1 a2).1 (rd a1 a2).2 (rd b1 b2).1 (rd b1 b2).2 (rd c1 c2).1 (rd c1 c2).2 (rd x y).1 (rd x y).2).2)]) ∧ Below w.heap.size w w' := by
  have hM : (M : Int) = 9218868437227405312 := rfl
  have v1 := rd_iv a1 a2
  have v2 := rd_iv b1 b2
  have v3 := rd_iv c1 c2
  have v4 := rd_iv x y
  have t1 := fun W => readf a1 a2 W ha1 ha2
  have t2 := fun W => readf b1 b2 W hb1 hb2
  have t3 := fun W => readf c1 c2 W hc1 hc2
  have t4 := fun W => readf x y W hx hy
  obtain ⟨⟨i1, j1⟩, r1⟩ : ∃ z, rd a1 a2 = z := ⟨_, rfl⟩
  obtain ⟨⟨i2, j2⟩, r2⟩ : ∃ z, rd b1 b2 = z := ⟨_, rfl⟩
  obtain ⟨⟨i3, j3⟩, r3⟩ : ∃ z, rd c1 c2 = z := ⟨_, rfl⟩
  obtain ⟨⟨i4, j4⟩, r4⟩ : ∃ z, rd x y = z := ⟨_, rfl⟩
  rw [r1] at v1 t1
  rw [r2] at v2 t2
  rw [r3] at v3 t3
  rw [r4] at v4 t4
  rw [r1, r2, r3, r4]
  dsimp only at *
  have m1 := em_idx v1
  have m2 := em_idx v2
  have m3 := em_idx v3
  have m4 := em_idx v4
  rw [fad_k]
  by_cases hno : j1 < i1 ∨ j2 < i2 ∨ j3 < i3 ∨ j4 < i4
  · rw [if_pos hno, pat_max, pat_min]
    exact fmaadd_none _ _ _ _ _ _ _ _ _ _ _ _ _ _ _ _ _ _ _ _ w t1 m1 t2 m2 t3 m3 t4 m4 (by simp; omega)
  · rw [if_neg hno]
    have g1 := fun i j => wt_rng (c := i3) (u := ul i1 j1 i) (v := ul i2 j2 j) v3.lo
    have g2 := fun i j => wt_rng (c := j3) (u := ul i1 j1 i) (v := ul i2 j2 j) v3.hi
    have q1 := mnk_rng (f := fun k l => (wt i3 (ul i1 j1 k) (ul i2 j2 l)).1) (fun i j => (g1 i j).1)
    have q2 := mnk_rng (f := fun k l => (wt i3 (ul i1 j1 k) (ul i2 j2 l)).2) (fun i j => (g1 i j).2)
    have q3 := mxk_rng (f := fun k l => (wt j3 (ul i1 j1 k) (ul i2 j2 l)).1) (fun i j => (g2 i j).1)
    have q4 := mxk_rng (f := fun k l => (wt j3 (ul i1 j1 k) (ul i2 j2 l)).2) (fun i j => (g2 i j).2)
    refine fmaadd_some a1 a2 b1 b2 c1 c2 x y _ _ _ _ _ _ _ _ _ _ (fun i => pat (ul i1 j1 i)) (fun i => pat (ul i2 j2 i)) (fun k => pat (mnk (fun k l => (wt i3 (ul i1 j1 k) (ul i2 j2 l)).1) k)) (fun k => pat (mnk (fun k l => (wt i3 (ul i1 j1 k) (ul i2 j2 l)).2) k)) (fun k => pat (mxk (fun k l => (wt j3 (ul i1 j1 k) (ul i2 j2 l)).1) k)) (fun k => pat (mxk (fun k l => (wt j3 (ul i1 j1 k) (ul i2 j2 l)).2) k))
      (fun i j => pat (wt i3 (ul i1 j1 i) (ul i2 j2 j)).1) (fun i j => pat (wt i3 (ul i1 j1 i) (ul i2 j2 j)).2) (fun i j => pat (wt j3 (ul i1 j1 i) (ul i2 j2 j)).1) (fun i j => pat (wt j3 (ul i1 j1 i) (ul i2 j2 j)).2) _ _ _ _ w t1 m1 t2 m2 t3 m3 t4 m4 (by simp; omega) ⟨rfl, rfl⟩ ⟨rfl, rfl⟩ ⟨pat_max, pat_max⟩ ⟨pat_min, pat_min⟩
      (fun i j _ _ W => without_any i3 _ _ W v3.lo (ul_rng v1 i) (ul_rng v2 j)) (fun i j _ _ W => without_any j3 _ _ W v3.hi (ul_rng v1 i) (ul_rng v2 j)) (fun i j _ hj W ts t => ?_) (fun i j _ hj W ts t => ?_) (fun i j _ hj W ts t => ?_) (fun i j _ hj W ts t => ?_) (fun W => ?_)
    · rw [← mnk_step _ i j hj]
      exact run_minf (q1 _) (g1 i j).1 W ts t
    · rw [← mnk_step _ i j hj]
      exact run_minf (q2 _) (g1 i j).2 W ts t
    · rw [← mxk_step _ i j hj]
      exact run_maxf (q3 _) (g2 i j).1 W ts t
    · rw [← mxk_step _ i j hj]
      exact run_maxf (q4 _) (g2 i j).2 W ts t
    · rw [← ctO_false]
      exact rcut2_any false i4 j4 _ _ _ _ W v4.lo v4.hi (q1 4) (q2 4) (q3 4) (q4 4)
end Go.Proofs.YthlmlmfebpjgdaaGreatDoor

namespace Go.Proofs.YthlmlmfebpjgdaaGreatDoor
open Go.RowKit
theorem kn0 (W : World) : Calls Tryz.prog 22 #[.agg #[.float .f64 1, .float .f64 1], .agg #[.float .f64 4607182418800017408, .float .f64 4607182418800017408], .agg #[.float .f64 4607182418800017408, .float .f64 4611686018427387904]] W fun e w' => e = .returned (.agg #[.float .f64 9218868437227405312, .float .f64 18442240474082181120]) ∧ Below W.heap.size W w' :=
  (revadd_any 1 1 4607182418800017408 4607182418800017408 4607182418800017408 4611686018427387904 W (by decide) (by decide) (by decide) (by decide) (by decide) (by decide)).mono fun e w' h => ret2 h (by decide +kernel) (by decide +kernel)
theorem kn1 (W : World) : Calls Tryz.prog 22 #[.agg #[.float .f64 1, .float .f64 1], .agg #[.float .f64 4607182418800017408, .float .f64 4607182418800017408], .agg #[.float .f64 0, .float .f64 4607182418800017408]] W fun e w' => e = .returned (.agg #[.float .f64 4607182418800017407, .float .f64 4607182418800017408]) ∧ Below W.heap.size W w' :=
  (revadd_any 1 1 4607182418800017408 4607182418800017408 0 4607182418800017408 W (by decide) (by decide) (by decide) (by decide) (by decide) (by decide)).mono fun e w' h => ret2 h (by decide +kernel) (by decide +kernel)
theorem kn2 (W : World) : Calls Tryz.prog 23 #[.agg #[.float .f64 4607182418800017408, .float .f64 4611686018427387904], .agg #[.float .f64 4617315517961601024, .float .f64 4617315517961601024], .agg #[.float .f64 18442240474082181120, .float .f64 9218868437227405312]] W fun e w' => e = .returned (.agg #[.float .f64 4618441417868443648, .float .f64 4619567317775286272]) ∧ Below W.heap.size W w' :=
  (revsub1_any 4607182418800017408 4611686018427387904 4617315517961601024 4617315517961601024 18442240474082181120 9218868437227405312 W (by decide) (by decide) (by decide) (by decide) (by decide) (by decide)).mono fun e w' h => ret2 h (by decide +kernel) (by decide +kernel)
theorem kn3 (W : World) : Calls Tryz.prog 24 #[.agg #[.float .f64 4617315517961601024, .float .f64 4617315517961601024], .agg #[.float .f64 4607182418800017408, .float .f64 4611686018427387904], .agg #[.float .f64 18442240474082181120, .float .f64 9218868437227405312]] W fun e w' => e = .returned (.agg #[.float .f64 4613937818241073152, .float .f64 4616189618054758400]) ∧ Below W.heap.size W w' :=
  (revsub2_any 4617315517961601024 4617315517961601024 4607182418800017408 4611686018427387904 18442240474082181120 9218868437227405312 W (by decide) (by decide) (by decide) (by decide) (by decide) (by decide)).mono fun e w' h => ret2 h (by decide +kernel) (by decide +kernel)
theorem kn4 (W : World) : Calls Tryz.prog 25 #[.agg #[.float .f64 0, .float .f64 4607182418800017408], .agg #[.float .f64 0, .float .f64 4611686018427387904], .agg #[.float .f64 4619567317775286272, .float .f64 4620693217682128896]] W fun e w' => e = .returned (.agg #[.float .f64 4619567317775286272, .float .f64 4620693217682128896]) ∧ Below W.heap.size W w' :=
  (mulrev_any 0 4607182418800017408 0 4611686018427387904 4619567317775286272 4620693217682128896 W (by decide) (by decide) (by decide) (by decide) (by decide) (by decide)).mono fun e w' h => ret2 h (by decide +kernel) (by decide +kernel)
theorem kn5 (W : World) : Calls Tryz.prog 25 #[.agg #[.float .f64 13830554455654793216, .float .f64 4611686018427387904], .agg #[.float .f64 4607182418800017408, .float .f64 4607182418800017408], .agg #[.float .f64 18442240474082181120, .float .f64 9218868437227405312]] W fun e w' => e = .returned (.agg #[.float .f64 18442240474082181120, .float .f64 9218868437227405312]) ∧ Below W.heap.size W w' :=
  (mulrev_any 13830554455654793216 4611686018427387904 4607182418800017408 4607182418800017408 18442240474082181120 9218868437227405312 W (by decide) (by decide) (by decide) (by decide) (by decide) (by decide)).mono fun e w' h => ret2 h (by decide +kernel) (by decide +kernel)
theorem kn6 (W : World) : Calls Tryz.prog 25 #[.agg #[.float .f64 13830554455654793216, .float .f64 4611686018427387904], .agg #[.float .f64 4607182418800017408, .float .f64 4607182418800017408], .agg #[.float .f64 13826050856027422720, .float .f64 4617315517961601024]] W fun e w' => e = .returned (.agg #[.float .f64 4602678819172646912, .float .f64 4617315517961601024]) ∧ Below W.heap.size W w' :=
  (mulrev_any 13830554455654793216 4611686018427387904 4607182418800017408 4607182418800017408 13826050856027422720 4617315517961601024 W (by decide) (by decide) (by decide) (by decide) (by decide) (by decide)).mono fun e w' h => ret2 h (by decide +kernel) (by decide +kernel)
theorem kn7 (W : World) : Calls Tryz.prog 25 #[.agg #[.float .f64 4607182418800017408, .float .f64 9218868437227405312], .agg #[.float .f64 4607182418800017408, .float .f64 4607182418800017408], .agg #[.float .f64 13840687554816376832, .float .f64 0]] W fun e w' => e = .returned (.agg #[.float .f64 9218868437227405312, .float .f64 18442240474082181120]) ∧ Below W.heap.size W w' :=
  (mulrev_any 4607182418800017408 9218868437227405312 4607182418800017408 4607182418800017408 13840687554816376832 0 W (by decide) (by decide) (by decide) (by decide) (by decide) (by decide)).mono fun e w' h => ret2 h (by decide +kernel) (by decide +kernel)
theorem kn8 (W : World) : Calls Tryz.prog 25 #[.agg #[.float .f64 4607182418800017408, .float .f64 9218868437227405312], .agg #[.float .f64 4607182418800017408, .float .f64 4607182418800017408], .agg #[.float .f64 0, .float .f64 4617315517961601024]] W fun e w' => e = .returned (.agg #[.float .f64 0, .float .f64 4607182418800017408]) ∧ Below W.heap.size W w' :=
  (mulrev_any 4607182418800017408 9218868437227405312 4607182418800017408 4607182418800017408 0 4617315517961601024 W (by decide) (by decide) (by decide) (by decide) (by decide) (by decide)).mono fun e w' h => ret2 h (by decide +kernel) (by decide +kernel)
theorem kn9 (W : World) : Calls Tryz.prog 25 #[.agg #[.float .f64 0, .float .f64 0], .agg #[.float .f64 4607182418800017408, .float .f64 4611686018427387904], .agg #[.float .f64 18442240474082181120, .float .f64 9218868437227405312]] W fun e w' => e = .returned (.agg #[.float .f64 9218868437227405312, .float .f64 18442240474082181120]) ∧ Below W.heap.size W w' :=
  (mulrev_any 0 0 4607182418800017408 4611686018427387904 18442240474082181120 9218868437227405312 W (by decide) (by decide) (by decide) (by decide) (by decide) (by decide)).mono fun e w' h => ret2 h (by decide +kernel) (by decide +kernel)
theorem kn10 (W : World) : Calls Tryz.prog 25 #[.agg #[.float .f64 0, .float .f64 0], .agg #[.float .f64 0, .float .f64 4611686018427387904], .agg #[.float .f64 18442240474082181120, .float .f64 9218868437227405312]] W fun e w' => e = .returned (.agg #[.float .f64 18442240474082181120, .float .f64 9218868437227405312]) ∧ Below W.heap.size W w' :=
  (mulrev_any 0 0 0 4611686018427387904 18442240474082181120 9218868437227405312 W (by decide) (by decide) (by decide) (by decide) (by decide) (by decide)).mono fun e w' h => ret2 h (by decide +kernel) (by decide +kernel)
theorem kn11 (W : World) : Calls Tryz.prog 25 #[.agg #[.float .f64 4613937818241073152, .float .f64 4613937818241073152], .agg #[.float .f64 4607182418800017408, .float .f64 4607182418800017408], .agg #[.float .f64 0, .float .f64 4607182418800017408]] W fun e w' => e = .returned (.agg #[.float .f64 4599676419421066581, .float .f64 4599676419421066582]) ∧ Below W.heap.size W w' :=
  (mulrev_any 4613937818241073152 4613937818241073152 4607182418800017408 4607182418800017408 0 4607182418800017408 W (by decide) (by decide) (by decide) (by decide) (by decide) (by decide)).mono fun e w' h => ret2 h (by decide +kernel) (by decide +kernel)
theorem kn12 (W : World) : Calls Tryz.prog 26 #[.agg #[.float .f64 0, .float .f64 4607182418800017408], .agg #[.float .f64 4607182418800017408, .float .f64 4611686018427387904], .agg #[.float .f64 13837309855095848960, .float .f64 0]] W fun e w' => e = .returned (.agg #[.float .f64 9218868437227405312, .float .f64 18442240474082181120]) ∧ Below W.heap.size W w' :=
  (divrev1_any 0 4607182418800017408 4607182418800017408 4611686018427387904 13837309855095848960 0 W (by decide) (by decide) (by decide) (by decide) (by decide) (by decide)).mono fun e w' h => ret2 h (by decide +kernel) (by decide +kernel)
theorem kn13 (W : World) : Calls Tryz.prog 26 #[.agg #[.float .f64 0, .float .f64 4607182418800017408], .agg #[.float .f64 4607182418800017408, .float .f64 4611686018427387904], .agg #[.float .f64 13837309855095848960, .float .f64 4607182418800017408]] W fun e w' => e = .returned (.agg #[.float .f64 0, .float .f64 4607182418800017408]) ∧ Below W.heap.size W w' :=
  (divrev1_any 0 4607182418800017408 4607182418800017408 4611686018427387904 13837309855095848960 4607182418800017408 W (by decide) (by decide) (by decide) (by decide) (by decide) (by decide)).mono fun e w' h => ret2 h (by decide +kernel) (by decide +kernel)
theorem kn14 (W : World) : Calls Tryz.prog 26 #[.agg #[.float .f64 0, .float .f64 0], .agg #[.float .f64 18442240474082181120, .float .f64 9218868437227405312], .agg #[.float .f64 18442240474082181120, .float .f64 9218868437227405312]] W fun e w' => e = .returned (.agg #[.float .f64 9218868437227405312, .float .f64 18442240474082181120]) ∧ Below W.heap.size W w' :=
  (divrev1_any 0 0 18442240474082181120 9218868437227405312 18442240474082181120 9218868437227405312 W (by decide) (by decide) (by decide) (by decide) (by decide) (by decide)).mono fun e w' h => ret2 h (by decide +kernel) (by decide +kernel)
theorem kn15 (W : World) : Calls Tryz.prog 27 #[.agg #[.float .f64 0, .float .f64 4607182418800017408], .agg #[.float .f64 0, .float .f64 0], .agg #[.float .f64 0, .float .f64 0]] W fun e w' => e = .returned (.agg #[.float .f64 9218868437227405312, .float .f64 18442240474082181120]) ∧ Below W.heap.size W w' :=
  (divrev2_any 0 4607182418800017408 0 0 0 0 W (by decide) (by decide) (by decide) (by decide) (by decide) (by decide)).mono fun e w' h => ret2 h (by decide +kernel) (by decide +kernel)
theorem kn16 (W : World) : Calls Tryz.prog 27 #[.agg #[.float .f64 0, .float .f64 4607182418800017408], .agg #[.float .f64 0, .float .f64 0], .agg #[.float .f64 0, .float .f64 4617315517961601024]] W fun e w' => e = .returned (.agg #[.float .f64 0, .float .f64 4617315517961601024]) ∧ Below W.heap.size W w' :=
  (divrev2_any 0 4607182418800017408 0 0 0 4617315517961601024 W (by decide) (by decide) (by decide) (by decide) (by decide) (by decide)).mono fun e w' h => ret2 h (by decide +kernel) (by decide +kernel)
theorem kn17 (W : World) : Calls Tryz.prog 27 #[.agg #[.float .f64 4607182418800017408, .float .f64 4607182418800017408], .agg #[.float .f64 4611686018427387904, .float .f64 9218868437227405312], .agg #[.float .f64 18442240474082181120, .float .f64 9218868437227405312]] W fun e w' => e = .returned (.agg #[.float .f64 0, .float .f64 4602678819172646912]) ∧ Below W.heap.size W w' :=
  (divrev2_any 4607182418800017408 4607182418800017408 4611686018427387904 9218868437227405312 18442240474082181120 9218868437227405312 W (by decide) (by decide) (by decide) (by decide) (by decide) (by decide)).mono fun e w' h => ret2 h (by decide +kernel) (by decide +kernel)
theorem kn18 (W : World) : Calls Tryz.prog 27 #[.agg #[.float .f64 4607182418800017408, .float .f64 4607182418800017408], .agg #[.float .f64 4611686018427387904, .float .f64 9218868437227405312], .agg #[.float .f64 13830554455654793216, .float .f64 0]] W fun e w' => e = .returned (.agg #[.float .f64 9218868437227405312, .float .f64 18442240474082181120]) ∧ Below W.heap.size W w' :=
  (divrev2_any 4607182418800017408 4607182418800017408 4611686018427387904 9218868437227405312 13830554455654793216 0 W (by decide) (by decide) (by decide) (by decide) (by decide) (by decide)).mono fun e w' h => ret2 h (by decide +kernel) (by decide +kernel)
theorem kn19 (W : World) : Calls Tryz.prog 28 #[.agg #[.float .f64 18442240474082181120, .float .f64 13835058055282163712], .agg #[.float .f64 0, .float .f64 4607182418800017408]] W fun e w' => e = .returned (.agg #[.float .f64 9218868437227405312, .float .f64 18442240474082181120]) ∧ Below W.heap.size W w' :=
  (reciprev_any 18442240474082181120 13835058055282163712 0 4607182418800017408 W (by decide) (by decide) (by decide) (by decide)).mono fun e w' h => ret2 h (by decide +kernel) (by decide +kernel)
theorem kn20 (W : World) : Calls Tryz.prog 29 #[.agg #[.float .f64 4607182418800017408, .float .f64 4611686018427387904], .agg #[.float .f64 4611686018427387904, .float .f64 4613937818241073152], .agg #[.float .f64 13844628204490326016, .float .f64 4621256167635550208]] W fun e w' => e = .returned (.agg #[.float .f64 4611686018427387904, .float .f64 4621256167635550208]) ∧ Below W.heap.size W w' :=
  (revmin_any 4607182418800017408 4611686018427387904 4611686018427387904 4613937818241073152 13844628204490326016 4621256167635550208 W (by decide) (by decide) (by decide) (by decide) (by decide) (by decide)).mono fun e w' h => ret2 h (by decide +kernel) (by decide +kernel)
theorem kn21 (W : World) : Calls Tryz.prog 29 #[.agg #[.float .f64 4617315517961601024, .float .f64 4618441417868443648], .agg #[.float .f64 4611686018427387904, .float .f64 4613937818241073152], .agg #[.float .f64 13844628204490326016, .float .f64 4621256167635550208]] W fun e w' => e = .returned (.agg #[.float .f64 4611686018427387904, .float .f64 4613937818241073152]) ∧ Below W.heap.size W w' :=
  (revmin_any 4617315517961601024 4618441417868443648 4611686018427387904 4613937818241073152 13844628204490326016 4621256167635550208 W (by decide) (by decide) (by decide) (by decide) (by decide) (by decide)).mono fun e w' h => ret2 h (by decide +kernel) (by decide +kernel)
theorem kn22 (W : World) : Calls Tryz.prog 29 #[.agg #[.float .f64 4607182418800017408, .float .f64 4611686018427387904], .agg #[.float .f64 4613937818241073152, .float .f64 4616189618054758400], .agg #[.float .f64 18442240474082181120, .float .f64 9218868437227405312]] W fun e w' => e = .returned (.agg #[.float .f64 9218868437227405312, .float .f64 18442240474082181120]) ∧ Below W.heap.size W w' :=
  (revmin_any 4607182418800017408 4611686018427387904 4613937818241073152 4616189618054758400 18442240474082181120 9218868437227405312 W (by decide) (by decide) (by decide) (by decide) (by decide) (by decide)).mono fun e w' h => ret2 h (by decide +kernel) (by decide +kernel)
theorem kn23 (W : World) : Calls Tryz.prog 30 #[.agg #[.float .f64 4607182418800017408, .float .f64 4611686018427387904], .agg #[.float .f64 0, .float .f64 4607182418800017408], .agg #[.float .f64 13844628204490326016, .float .f64 4621256167635550208]] W fun e w' => e = .returned (.agg #[.float .f64 13844628204490326016, .float .f64 4607182418800017408]) ∧ Below W.heap.size W w' :=
  (revmax_any 4607182418800017408 4611686018427387904 0 4607182418800017408 13844628204490326016 4621256167635550208 W (by decide) (by decide) (by decide) (by decide) (by decide) (by decide)).mono fun e w' h => ret2 h (by decide +kernel) (by decide +kernel)
theorem kn24 (W : World) : Calls Tryz.prog 30 #[.agg #[.float .f64 4607182418800017408, .float .f64 4611686018427387904], .agg #[.float .f64 4613937818241073152, .float .f64 4616189618054758400], .agg #[.float .f64 13844628204490326016, .float .f64 4621256167635550208]] W fun e w' => e = .returned (.agg #[.float .f64 4613937818241073152, .float .f64 4616189618054758400]) ∧ Below W.heap.size W w' :=
  (revmax_any 4607182418800017408 4611686018427387904 4613937818241073152 4616189618054758400 13844628204490326016 4621256167635550208 W (by decide) (by decide) (by decide) (by decide) (by decide) (by decide)).mono fun e w' h => ret2 h (by decide +kernel) (by decide +kernel)
theorem kn25 (W : World) : Calls Tryz.prog 31 #[.agg #[.float .f64 4611686018427387904, .float .f64 4611686018427387904], .agg #[.float .f64 4607182418800017408, .float .f64 4607182418800017408], .agg #[.float .f64 4617315517961601024, .float .f64 4619567317775286272], .agg #[.float .f64 18442240474082181120, .float .f64 9218868437227405312]] W fun e w' => e = .returned (.agg #[.float .f64 4611686018427387904, .float .f64 4613937818241073152]) ∧ Below W.heap.size W w' :=
  (fmarev_any 4611686018427387904 4611686018427387904 4607182418800017408 4607182418800017408 4617315517961601024 4619567317775286272 18442240474082181120 9218868437227405312 W (by decide) (by decide) (by decide) (by decide) (by decide) (by decide) (by decide) (by decide)).mono fun e w' h => ret2 h (by decide +kernel) (by decide +kernel)
theorem kn26 (W : World) : Calls Tryz.prog 32 #[.agg #[.float .f64 4611686018427387904, .float .f64 4611686018427387904], .agg #[.float .f64 4613937818241073152, .float .f64 4613937818241073152], .agg #[.float .f64 4617315517961601024, .float .f64 4619567317775286272], .agg #[.float .f64 18442240474082181120, .float .f64 9218868437227405312]] W fun e w' => e = .returned (.agg #[.float .f64 13830554455654793216, .float .f64 4607182418800017408]) ∧ Below W.heap.size W w' :=
  (fmaadd_any 4611686018427387904 4611686018427387904 4613937818241073152 4613937818241073152 4617315517961601024 4619567317775286272 18442240474082181120 9218868437227405312 W (by decide) (by decide) (by decide) (by decide) (by decide) (by decide) (by decide) (by decide)).mono fun e w' h => ret2 h (by decide +kernel) (by decide +kernel)
end Go.Proofs.YthlmlmfebpjgdaaGreatDoor
