/-
Walks: package rel, both, Intersect.
The blocks that a walk holds, in one fact; a region's steps in whatever order.
-/
import Derived.Test.YthlmlmfebpjgdaaGreatDoorM02
import Derived.Test.YthlmlmfebpjgdaaGreatDoorPGoA
import Derived.Deep.DeepCutAuto
import Derived.Deep.CutRange
set_option linter.unusedSimpArgs false
set_option linter.unusedVariables false
set_option maxHeartbeats 12800000

namespace Go.Proofs.YthlmlmfebpjgdaaGreatDoor
open Go.RowKit
attribute [local go_sem] run_store_float
theorem run_eqf (p q : Nat) (W : World) : (Op.equalIn 9999 26 (.float .f64 p) (.float .f64 q)).run Tryz.prog W = .ok (FloatKind.f64.format.order p q == some .eq) W := by
  rw [show (9999 : Nat) = 9998 + 1 from rfl, Op.equalIn]
  simp only [Sem.run_bind, run_underlying Tryz.underlying26, Result.andThen_ok, if_true, Sem.run_pure]
  rfl
attribute [local go_sem] run_eqf
theorem readf_idx (i j : Int) (w : World) (h : Iv i j) : Calls Tryz.prog 102 #[.agg #[.float .f64 (pat i), .float .f64 (pat j)]] w fun e w' => e = .returned (.agg #[.float .f64 (pat i), .float .f64 (pat j)]) ∧ Below w.heap.size w w' := by
  have h2 := readf (pat i) (pat j) w (pat_lt h.lo.1 h.lo.2) (pat_lt h.hi.1 h.hi.2)
  rw [rd_pat h] at h2
  exact h2
def Em (a : Bool) (p1 p2 : Nat) : Prop := (a = true → FloatKind.f64.format.order p1 9218868437227405312 = some .eq ∧ FloatKind.f64.format.order p2 18442240474082181120 = some .eq) ∧ (a = false → FloatKind.f64.format.order p1 9218868437227405312 = some .lt)
theorem both_any (p1 p2 q1 q2 : Nat) (a b : Bool) (w : World) (hx : ∀ W, Calls Tryz.prog 102 #[.agg #[.float .f64 p1, .float .f64 p2]] W fun e w' => e = .returned (.agg #[.float .f64 p1, .float .f64 p2]) ∧ Below W.heap.size W w')
    (hy : ∀ W, Calls Tryz.prog 102 #[.agg #[.float .f64 q1, .float .f64 q2]] W fun e w' => e = .returned (.agg #[.float .f64 q1, .float .f64 q2]) ∧ Below W.heap.size W w') (ha : Em a p1 p2) (hb : Em b q1 q2) :
    Calls Tryz.prog 138 #[.agg #[.float .f64 p1, .float .f64 p2], .agg #[.float .f64 q1, .float .f64 q2]] w fun e w' => e = .returned (.tuple #[.agg #[.float .f64 p1, .float .f64 p2], .agg #[.float .f64 q1, .float .f64 q2], .int .i64 ((if a then 1 else 0) + (if b then 2 else 0))]) ∧ Below w.heap.size w w' := by
  have HX := Lib.hid hx
  have HY := Lib.hid hy
  have HE := Lib.hid emptyf
  have o01 : bits .or .i64 0 1 = 1 := by decide
  have o02 : bits .or .i64 0 2 = 2 := by decide
  have o12 : bits .or .i64 1 2 = 3 := by decide
  clear hx hy
  obtain ⟨ha1, ha2⟩ := ha
  obtain ⟨hb1, hb2⟩ := hb
  cases a <;> cases b
  all_goals
    obtain ⟨LB0, LG0_0, LG1_0, LG2_0, LG3_0⟩ := bx4 w #[.float .f64 p1, .float .f64 p2] 28 #[.float .f64 q1, .float .f64 q2] 28 #[.float .f64 0, .float .f64 0] 28 #[.float .f64 0, .float .f64 0] 28
    (first | have e1 := ha2 rfl | obtain ⟨e1, e2⟩ := ha1 rfl)
    (first | have e3 := hb2 rfl | obtain ⟨e3, e4⟩ := hb1 rfl)
    clear ha1 ha2 hb1 hb2
    go_enter Tryz.func138, Tryz.ntmps138
    go_wp2_with fail
    refine wp_region_held_drew (S := fun W' => Blk W' w.heap.size 28 #[.float .f64 p1, .float .f64 p2] ∧ Blk W' (w.heap.size + 1) 28 #[.float .f64 q1, .float .f64 q2] ∧ Blk W' (w.heap.size + 2) 28 #[.float .f64 0, .float .f64 0] ∧ Blk W' (w.heap.size + 3) 28 #[.float .f64 0, .float .f64 0] ∧ Below w.heap.size w W') (by kernel_rfl) (by exact ⟨LG0_0.out.drew, LG1_0.out.drew, LG2_0.out.drew, LG3_0.out.drew, LB0.out.drew⟩) (fun hHeld => ?_)
    refine tk 0 ?_ (hv := by intro W2 hSw; obtain ⟨q0, q1⟩ := hSw.1.c2; go_simp; (try with_reducible rfl))
    try simp only [Act.put, lay]
    refine tk 2 ?_ (hv := by intro W2 hSw; obtain ⟨q0, q1⟩ := hSw.2.1.c2; go_simp; (try with_reducible rfl))
    try simp only [Act.put, lay]
    refine rdy 1 (fun KK hKK => ?_)
    go_simp
    refine (HX.out _).mono ?_
    rintro e w1 ⟨rfl, hb1⟩
    go_wp2_with fail
    refine hKK.out _ _ (⟨hHeld.1.keep hb1, hHeld.2.1.keep hb1, hHeld.2.2.1.keep hb1, hHeld.2.2.2.1.keep hb1, hHeld.2.2.2.2.trans (hb1.mono hHeld.2.2.2.2.size)⟩) (fun _ => ?_)
    clear hKK KK hHeld; rename_i hHeld
    try simp only [Act.put, lay]
    refine rdy 3 (fun KK hKK => ?_)
    go_simp
    refine (HY.out _).mono ?_
    rintro e w2 ⟨rfl, hb2⟩
    go_wp2_with fail
    refine hKK.out _ _ (⟨hHeld.1.keep hb2, hHeld.2.1.keep hb2, hHeld.2.2.1.keep hb2, hHeld.2.2.2.1.keep hb2, hHeld.2.2.2.2.trans (hb2.mono hHeld.2.2.2.2.size)⟩) (fun _ => ?_)
    clear hKK KK hHeld; rename_i hHeld
    try simp only [Act.put, lay]
    refine rdy 4 (fun KK hKK => ?_)
    have ha0 := hHeld.1.someCell (j := 0) (by simp); have hf0 := hHeld.1.frozen 0; have ha1 := hHeld.1.someCell (j := 1) (by simp); have hf1 := hHeld.1.frozen 1
    go_simp
    refine hKK.out _ _ (⟨by have h := Blk.sets [.float .f64 p1, .float .f64 p2] 0 _ _ hHeld.1; simpa [laid, sets] using h, hHeld.2.1.other (by omega) 0 [.float .f64 p1, .float .f64 p2], hHeld.2.2.1.other (by omega) 0 [.float .f64 p1, .float .f64 p2], hHeld.2.2.2.1.other (by omega) 0 [.float .f64 p1, .float .f64 p2], below_sets (by omega) [.float .f64 p1, .float .f64 p2] 0 _ hHeld.2.2.2.2⟩) (fun _ => ?_)
    clear hKK KK hHeld; rename_i hHeld
    try simp only [Act.put, lay]
    refine rdy 5 (fun KK hKK => ?_)
    clear ha0 hf0 ha1 hf1; have ha0 := hHeld.2.1.someCell (j := 0) (by simp); have hf0 := hHeld.2.1.frozen 0; have ha1 := hHeld.2.1.someCell (j := 1) (by simp); have hf1 := hHeld.2.1.frozen 1
    go_simp
    refine hKK.out _ _ (⟨hHeld.1.other (by omega) 0 [.float .f64 q1, .float .f64 q2], by have h := Blk.sets [.float .f64 q1, .float .f64 q2] 0 _ _ hHeld.2.1; simpa [laid, sets] using h, hHeld.2.2.1.other (by omega) 0 [.float .f64 q1, .float .f64 q2], hHeld.2.2.2.1.other (by omega) 0 [.float .f64 q1, .float .f64 q2], below_sets (by omega) [.float .f64 q1, .float .f64 q2] 0 _ hHeld.2.2.2.2⟩) (fun _ => ?_)
    clear hKK KK hHeld; rename_i hHeld
    try simp only [Act.put, lay]
    refine wpAnyH_done (by kernel_rfl) ?_ _
    obtain ⟨V1, hV1⟩ : ∃ X, ((((w2.setCell ⟨w.heap.size, 0, none⟩ (.float .f64 p1)).setCell ⟨w.heap.size, 1, none⟩ (.float .f64 p2)).setCell ⟨w.heap.size + 1, 0, none⟩ (.float .f64 q1)).setCell ⟨w.heap.size + 1, 1, none⟩ (.float .f64 q2)) = X := ⟨_, rfl⟩
    rw [hV1] at hHeld ⊢
    clear hV1 ha0 ha1 hf0 hf1 hb1 hb2 LB0 LG0_0 LG1_0 LG2_0 LG3_0
    have LG0_1 := Lib.hid hHeld.1
    have LG1_1 := Lib.hid hHeld.2.1
    have LG2_1 := Lib.hid hHeld.2.2.1
    have LG3_1 := Lib.hid hHeld.2.2.2.1
    have LB1 := Lib.hid hHeld.2.2.2.2
    clear hHeld
    go_wp2_with fail
    refine wp_region_held_drew (S := fun W' => Blk W' w.heap.size 28 #[.float .f64 p1, .float .f64 p2] ∧ Blk W' (w.heap.size + 1) 28 #[.float .f64 q1, .float .f64 q2] ∧ Blk W' (w.heap.size + 2) 28 #[.float .f64 0, .float .f64 0] ∧ Blk W' (w.heap.size + 3) 28 #[.float .f64 0, .float .f64 0] ∧ Below w.heap.size w W') (by kernel_rfl) (by exact ⟨LG0_1.out.drew, LG1_1.out.drew, LG2_1.out.drew, LG3_1.out.drew, LB1.out.drew⟩) (fun hHeld => ?_)
    refine tk 0 ?_ (hv := by intro W2 hSw; obtain ⟨q0, q1⟩ := hSw.1.c2; go_simp; (try with_reducible rfl))
    try simp only [Act.put, lay]
    refine rdy 1 (fun KK hKK => ?_)
    go_simp
    refine (HE.out _).mono ?_
    rintro e wc ⟨rfl, hbwc⟩
    go_wp2_with fail
    refine hKK.out _ _ (⟨hHeld.1.keep hbwc, hHeld.2.1.keep hbwc, hHeld.2.2.1.keep hbwc, hHeld.2.2.2.1.keep hbwc, hHeld.2.2.2.2.trans (hbwc.mono hHeld.2.2.2.2.size)⟩) (fun _ => ?_)
    clear hKK KK hHeld; rename_i hHeld
    try simp only [Act.put, lay]
    refine tk 2 ?_
    try simp only [Act.put, lay]
    refine wpAnyH_done (by kernel_rfl) ?_ _
    have LG0_2 := Lib.hid hHeld.1
    have LG1_2 := Lib.hid hHeld.2.1
    have LG2_2 := Lib.hid hHeld.2.2.1
    have LG3_2 := Lib.hid hHeld.2.2.2.1
    have LB2 := Lib.hid hHeld.2.2.2.2
    clear hHeld hbwc LB1 LG0_1 LG1_1 LG2_1 LG3_1
    go_wp2_with fail
    refine wp_region_held_drew (S := fun W' => Blk W' w.heap.size 28 #[.float .f64 p1, .float .f64 p2] ∧ Blk W' (w.heap.size + 1) 28 #[.float .f64 q1, .float .f64 q2] ∧ Blk W' (w.heap.size + 2) 28 #[.float .f64 0, .float .f64 0] ∧ Blk W' (w.heap.size + 3) 28 #[.float .f64 0, .float .f64 0] ∧ Below w.heap.size w W') (by kernel_rfl) (by exact ⟨LG0_2.out.drew, LG1_2.out.drew, LG2_2.out.drew, LG3_2.out.drew, LB2.out.drew⟩) (fun hHeld => ?_)
    refine tk 0 ?_ (hv := by intro W2 hSw; obtain ⟨q0, q1⟩ := hSw.2.1.c2; go_simp; (try with_reducible rfl))
    try simp only [Act.put, lay]
    refine rdy 1 (fun KK hKK => ?_)
    go_simp
    refine (HE.out _).mono ?_
    rintro e wd ⟨rfl, hbwd⟩
    go_wp2_with fail
    refine hKK.out _ _ (⟨hHeld.1.keep hbwd, hHeld.2.1.keep hbwd, hHeld.2.2.1.keep hbwd, hHeld.2.2.2.1.keep hbwd, hHeld.2.2.2.2.trans (hbwd.mono hHeld.2.2.2.2.size)⟩) (fun _ => ?_)
    clear hKK KK hHeld; rename_i hHeld
    try simp only [Act.put, lay]
    refine tk 2 ?_
    try simp only [Act.put, lay]
    refine wpAnyH_done (by kernel_rfl) ?_ _
    have LG0_3 := Lib.hid hHeld.1
    have LG1_3 := Lib.hid hHeld.2.1
    have LG2_3 := Lib.hid hHeld.2.2.1
    have LG3_3 := Lib.hid hHeld.2.2.2.1
    have LB3 := Lib.hid hHeld.2.2.2.2
    clear hHeld hbwd LB2 LG0_2 LG1_2 LG2_2 LG3_2
    go_wp2_with fail
    obtain ⟨q0_0, q0_1⟩ := LG0_3.out.c2
    obtain ⟨q1_0, q1_1⟩ := LG1_3.out.c2
    have ha20 := LG2_3.out.cell 0
    have hf20 := LG2_3.out.frozen 0
    have ha21 := LG2_3.out.cell 1
    have hf21 := LG2_3.out.frozen 1
    have ha30 := LG3_3.out.cell 0
    have hf30 := LG3_3.out.frozen 0
    have ha31 := LG3_3.out.cell 1
    have hf31 := LG3_3.out.frozen 1
    simp at ha20 ha21 ha30 ha31
    go_region
    have Z2 : Blk (sets wd (w.heap.size + 1 + 1) 0 [.float .f64 p1, .float .f64 p2]) (w.heap.size + 1 + 1) 28 #[.float .f64 p1, .float .f64 p2] := by
      have h := Blk.sets [.float .f64 p1, .float .f64 p2] 0 _ _ LG2_3.out
      simpa [laid] using h
    have Z2b := Z2.other (r := (w.heap.size + 1 + 1 + 1)) (by omega) 0 [.float .f64 q1, .float .f64 q2]
    have Z3 : Blk (sets (sets wd (w.heap.size + 1 + 1) 0 [.float .f64 p1, .float .f64 p2]) (w.heap.size + 1 + 1 + 1) 0 [.float .f64 q1, .float .f64 q2]) (w.heap.size + 1 + 1 + 1) 28 #[.float .f64 q1, .float .f64 q2] := by
      have h := Blk.sets [.float .f64 q1, .float .f64 q2] 0 _ _ (LG3_3.out.other (r := (w.heap.size + 1 + 1)) (by omega) 0 [.float .f64 p1, .float .f64 p2])
      simpa [laid] using h
    have k0 := Z2b.drew.cell 0
    have k1 := Z2b.drew.cell 1
    have k2 := Z3.drew.cell 0
    have k3 := Z3.drew.cell 1
    have F := Lib.hid ((below_sets (w0 := w) (r := (w.heap.size + 1 + 1 + 1)) (by omega) [.float .f64 q1, .float .f64 q2] 0 _ (below_sets (w0 := w) (r := (w.heap.size + 1 + 1)) (by omega) [.float .f64 p1, .float .f64 p2] 0 _ LB3.out)).drew)
    simp [sets] at k0 k1 k2 k3
    clear Z2 Z2b Z3 ha20 ha21 ha30 ha31 hf20 hf21 hf30 hf31
    go_wp2
    first
      | exact bodyPost_ret (v := .tuple #[.agg #[.float .f64 p1, .float .f64 p2], .agg #[.float .f64 q1, .float .f64 q2], .int .i64 0]) (by simp [results, Tryz.results138, go_sem, k0, k1, k2, k3]) rfl ⟨rfl, F.out⟩
      | exact bodyPost_ret (v := .tuple #[.agg #[.float .f64 p1, .float .f64 p2], .agg #[.float .f64 q1, .float .f64 q2], .int .i64 1]) (by simp [results, Tryz.results138, go_sem, k0, k1, k2, k3]) rfl ⟨rfl, F.out⟩
      | exact bodyPost_ret (v := .tuple #[.agg #[.float .f64 p1, .float .f64 p2], .agg #[.float .f64 q1, .float .f64 q2], .int .i64 2]) (by simp [results, Tryz.results138, go_sem, k0, k1, k2, k3]) rfl ⟨rfl, F.out⟩
      | exact bodyPost_ret (v := .tuple #[.agg #[.float .f64 p1, .float .f64 p2], .agg #[.float .f64 q1, .float .f64 q2], .int .i64 3]) (by simp [results, Tryz.results138, go_sem, k0, k1, k2, k3]) rfl ⟨rfl, F.out⟩
end Go.Proofs.YthlmlmfebpjgdaaGreatDoor

namespace Go.Proofs.YthlmlmfebpjgdaaGreatDoor
open Go.RowKit
def Lies (w W : World) (l : List (Nat × TypeId × Array Value)) (r : List (Nat × TypeId × Nat)) : Prop :=
  Below w.heap.size w W ∧ (∀ x ∈ l, Blk W x.1 x.2.1 x.2.2) ∧ ∀ x ∈ r, HasBlk W x.1 x.2.1 x.2.2
section
variable {w W W' : World} {l l' : List (Nat × TypeId × Array Value)} {r : List (Nat × TypeId × Nat)} {g n : Nat} {t : TypeId} {cs : Array Value}
theorem Lies.b (h : Lies w W l r) : Below w.heap.size w W := h.1
theorem Lies.blk (h : Lies w W l r) (i : Nat) (hi : l[i]? = some (g, t, cs)) : Blk W g t cs := h.2.1 _ (List.mem_of_getElem? hi)
theorem Lies.has (h : Lies w W l r) (i : Nat) (hi : r[i]? = some (g, t, n)) : HasBlk W g t n := h.2.2 _ (List.mem_of_getElem? hi)
theorem Lies.keep (h : Lies w W l r) (hb : Below W.heap.size W W') : Lies w W' l r :=
  ⟨h.1.trans (hb.mono h.1.size), fun x hx => (h.2.1 x hx).keep hb, fun x hx => (h.2.2 x hx).keep hb⟩
theorem Lies.alloc (h : Lies w W l r) (o : Obj) : Lies w (W.alloc o) l r :=
  ⟨h.1.alloc h.1.size o, fun x hx => (h.2.1 x hx).alloc o, fun x hx => (h.2.2 x hx).alloc o⟩
theorem Lies.drew (h : Lies w W l r) : Lies w W.drew l r := ⟨h.1.drew, fun x hx => (h.2.1 x hx).drew, fun x hx => (h.2.2 x hx).drew⟩
theorem Lies.put (h : Lies w W l r) (hb : Blk W g t cs) : Lies w W (l ++ [(g, t, cs)]) r :=
  ⟨h.1, fun x hx => by
    rcases List.mem_append.1 hx with hx | hx
    · exact h.2.1 x hx
    · rw [List.mem_singleton.1 hx]; exact hb, h.2.2⟩
theorem Lies.new (h : Lies w W l r) (t : TypeId) (cs : Array Value) : Lies w (W.alloc (.cells cs t)) (l ++ [(W.heap.size, t, cs)]) r := (h.alloc _).put (Blk.new W t cs)
theorem Lies.loose (h : Lies w W l r) (i : Nat) (hi : l[i]? = some (g, t, cs)) (hc : cs.toList.all notWd = true) : Lies w W (l.eraseIdx i) ((g, t, cs.size) :: r) :=
  ⟨h.1, fun x hx => h.2.1 x (List.mem_of_mem_eraseIdx hx), fun x hx => by
    rcases List.mem_cons.1 hx with rfl | hx
    · exact HasBlk.of (h.blk i hi) rfl hc
    · exact h.2.2 x hx⟩
theorem Lies.write (h : Lies w W l ((g, t, n) :: r)) (vs : List Value) (hl : vs.length = n) (hg : w.heap.size ≤ g) (h1 : ∀ x ∈ l, x.1 ≠ g) (h2 : ∀ x ∈ r, x.1 ≠ g) : Lies w (sets W g 0 vs) (l ++ [(g, t, vs.toArray)]) r :=
  ⟨below_sets hg vs 0 _ h.1, fun x hx => by
    rcases List.mem_append.1 hx with hx | hx
    · exact (h.2.1 x hx).other (h1 x hx) 0 vs
    · rw [List.mem_singleton.1 hx]; exact (h.2.2 _ (List.mem_cons_self ..)).laid vs hl, fun x hx => (h.2.2 x (List.mem_cons_of_mem _ hx)).other (h2 x hx) 0 vs⟩
theorem Lies.part (h : Lies w W l r) (k : Nat) (hk : l[k]? = some (g, t, cs)) (i : Nat) (vs : List Value) (hg : w.heap.size ≤ g) (h1 : ∀ x ∈ l.eraseIdx k, x.1 ≠ g) (h2 : ∀ x ∈ r, x.1 ≠ g) : Lies w (sets W g i vs) (l.eraseIdx k ++ [(g, t, laid cs i vs)]) r :=
  ⟨below_sets hg vs i _ h.1, fun x hx => by
    rcases List.mem_append.1 hx with hx | hx
    · exact (h.2.1 x (List.mem_of_mem_eraseIdx hx)).other (h1 x hx) i vs
    · rw [List.mem_singleton.1 hx]; exact (h.blk k hk).sets vs i _ _, fun x hx => (h.2.2 x hx).other (h2 x hx) i vs⟩
theorem Lies.over (h : Lies w W l r) (k : Nat) (hk : r[k]? = some (g, t, n)) (vs : List Value) (hl : vs.length = n) (hv : vs.all notWd = true) (hg : w.heap.size ≤ g) (h1 : ∀ x ∈ l, x.1 ≠ g) (h2 : ∀ x ∈ r.eraseIdx k, x.1 ≠ g) : Lies w (sets W g 0 vs) l r :=
  ⟨below_sets hg vs 0 _ h.1, fun x hx => (h.2.1 x hx).other (h1 x hx) 0 vs, fun x hx => by
    obtain ⟨i, hi⟩ := List.mem_iff_getElem?.1 hx
    by_cases e : i = k
    · subst e; rw [hk] at hi; cases hi; exact (h.has i hk).sets vs hl hv
    · exact (h.2.2 x hx).other (h2 x (by rw [List.mem_iff_getElem?]; rcases Nat.lt_or_ge i k with hlt | hge
                                         · exact ⟨i, by rw [List.getElem?_eraseIdx_of_lt hlt]; exact hi⟩
                                         · exact ⟨i - 1, by rw [List.getElem?_eraseIdx_of_ge (by omega), show i - 1 + 1 = i from by omega]; exact hi⟩)) 0 vs⟩
theorem Lies.far (h : Lies w W l r) (vs : List Value) (i : Nat) (hg : w.heap.size ≤ g) (h1 : ∀ x ∈ l, x.1 ≠ g) (h2 : ∀ x ∈ r, x.1 ≠ g) : Lies w (sets W g i vs) l r :=
  ⟨below_sets hg vs i _ h.1, fun x hx => (h.2.1 x hx).other (h1 x hx) i vs, fun x hx => (h.2.2 x hx).other (h2 x hx) i vs⟩
theorem Lies.fresh (h : Lies w W l r) (t : TypeId) (cs : Array Value) : ∃ g, W.heap.size = g ∧ w.heap.size ≤ g ∧ (∀ x ∈ l, x.1 < g) ∧ (∀ x ∈ r, x.1 < g) ∧ Blk (W.alloc (.cells cs t)) g t cs :=
  ⟨_, rfl, h.1.size, fun x hx => (h.2.1 x hx).lt, fun x hx => (h.2.2 x hx).lt, Blk.new W t cs⟩
theorem Lies.tight (h : Lies w W l ((g, t, n) :: r)) (hb : Blk W g t cs) : Lies w W (l ++ [(g, t, cs)]) r :=
  ⟨h.1, fun x hx => by
    rcases List.mem_append.1 hx with hx | hx
    · exact h.2.1 x hx
    · rw [List.mem_singleton.1 hx]; exact hb, fun x hx => h.2.2 x (List.mem_cons_of_mem _ hx)⟩
theorem Lies.perm {r' : List (Nat × TypeId × Nat)} (h : Lies w W l r) (hl : ∀ x ∈ l', x ∈ l) (hr : ∀ x ∈ r', x ∈ r) : Lies w W l' r' := ⟨h.1, fun x hx => h.2.1 x (hl x hx), fun x hx => h.2.2 x (hr x hx)⟩
theorem Lies.lts (h : Lies w W l r) : w.heap.size ≤ W.heap.size ∧ (∀ x ∈ l, x.1 < W.heap.size) ∧ ∀ x ∈ r, x.1 < W.heap.size := ⟨h.1.size, fun x hx => (h.2.1 x hx).lt, fun x hx => (h.2.2 x hx).lt⟩
theorem Lies.newE (h : Lies w W l r) (e : W.alloc (.cells cs t) = W') : Lies w W' (l ++ [(W.heap.size, t, cs)]) r := e ▸ h.new t cs
theorem below_allocE {o : Obj} (e : W.alloc o = W') : Below W.heap.size W W' := e ▸ below_alloc W o
theorem Blk.newE (e : W.alloc (.cells cs t) = W') : Blk W' W.heap.size t cs := e ▸ Blk.new W t cs
theorem Blk.setsE {i : Nat} {vs : List Value} (h : Blk W g t cs) (e : Proofs.YthlmlmfebpjgdaaGreatDoor.sets W g i vs = W') : Blk W' g t (laid cs i vs) := e ▸ h.sets vs i W cs
theorem Blk.otherE {k i : Nat} {vs : List Value} (h : Blk W g t cs) (e : Proofs.YthlmlmfebpjgdaaGreatDoor.sets W k i vs = W') (hk : g ≠ k) : Blk W' g t cs := e ▸ h.other hk i vs
theorem RatV.setsE {K : Nat} {neg : Bool} {vn vd : Value} {x : Rat} {i : Nat} {vs : List Value} (h : RatV W K neg vn vd x) (hb : Blk W g t cs) (hc : NoWd cs) (e : Proofs.YthlmlmfebpjgdaaGreatDoor.sets W g i vs = W') : RatV W' K neg vn vd x := e ▸ h.sets hb hc i vs
theorem U32s.setsE {A : Option Addr} {k c : Nat} {xs : List Nat} {i : Nat} {vs : List Value} (h : U32s W A k c xs) (hb : Blk W g t cs) (hc : NoWd cs) (e : Proofs.YthlmlmfebpjgdaaGreatDoor.sets W g i vs = W') : U32s W' A k c xs := e ▸ h.sets hb hc i vs
theorem stL (h : Hid (Lies w W l r)) (hb : Below W.heap.size W W') : Hid (Lies w W' l r) := Lib.hid (h.out.keep hb)
end
section
variable {P : Program} {ops : Array Oper} {Q : Exit → Act → World → Prop} {md : Region.Mode} {S : World → Prop} {fuel : Nat} {listed : Array Bool} {a : Act} {w : World}
theorem rd2 (i j : Nat) {o o' : Oper} (h : ∀ K' : Act → World → Prop, Shut (∀ a w, S w → (S w → wpAnyH P md ops Q S fuel (listed.setIfInBounds i true) a w) → K' a w) → if Region.wanted o (yielded ops a.tmps) = true then Oper.wp P o a w K' Q else K' (a.put o.dst undef) w)
    (h' : ∀ K' : Act → World → Prop, Shut (∀ a w, S w → (S w → wpAnyH P md ops Q S fuel (listed.setIfInBounds j true) a w) → K' a w) → if Region.wanted o' (yielded ops a.tmps) = true then Oper.wp P o' a w K' Q else K' (a.put o'.dst undef) w)
    (hr : Region.ready md ops listed = [i, j] := by kernel_rfl) (ho : ops[i]? = some o := by rfl) (ho' : ops[j]? = some o' := by rfl) : wpAnyH P md ops Q S (fuel + 1) listed a w :=
  wpAnyH_ready hr (by simp) (AllReadyH.cons ho h (AllReadyH.cons ho' h' AllReadyH.nil))
theorem rd3 (i j k : Nat) {o o' o2 : Oper} (h : ∀ K' : Act → World → Prop, Shut (∀ a w, S w → (S w → wpAnyH P md ops Q S fuel (listed.setIfInBounds i true) a w) → K' a w) → if Region.wanted o (yielded ops a.tmps) = true then Oper.wp P o a w K' Q else K' (a.put o.dst undef) w)
    (h' : ∀ K' : Act → World → Prop, Shut (∀ a w, S w → (S w → wpAnyH P md ops Q S fuel (listed.setIfInBounds j true) a w) → K' a w) → if Region.wanted o' (yielded ops a.tmps) = true then Oper.wp P o' a w K' Q else K' (a.put o'.dst undef) w)
    (h2 : ∀ K' : Act → World → Prop, Shut (∀ a w, S w → (S w → wpAnyH P md ops Q S fuel (listed.setIfInBounds k true) a w) → K' a w) → if Region.wanted o2 (yielded ops a.tmps) = true then Oper.wp P o2 a w K' Q else K' (a.put o2.dst undef) w)
    (hr : Region.ready md ops listed = [i, j, k] := by kernel_rfl) (ho : ops[i]? = some o := by rfl) (ho' : ops[j]? = some o' := by rfl) (ho2 : ops[k]? = some o2 := by rfl) : wpAnyH P md ops Q S (fuel + 1) listed a w :=
  wpAnyH_ready hr (by simp) (AllReadyH.cons ho h (AllReadyH.cons ho' h' (AllReadyH.cons ho2 h2 AllReadyH.nil)))
end
theorem regL {P : Program} {ops : Array Oper} {Q : Exit → Act → World → Prop} {id : Nat} {a : Act} {w W : World} {l : List (Nat × TypeId × Array Value)} {r : List (Nat × TypeId × Nat)} (h : Hid (Lies w W l r))
    (k : Lies w W.drew l r → wpAnyH P .any ops Q (fun W' => Lies w W' l r) ops.size (Array.replicate ops.size false) a W.drew) (hm : P.follows .mixedOrders = true := by kernel_rfl) : (Code.region id ops true).wp P Q a W :=
  wp_region_held_drew (S := fun W' => Lies w W' l r) hm h.out.drew k
theorem li1 (w : World) (c0 : Array Value) (t0 : TypeId) : Hid (Lies w (w.alloc (.cells c0 t0)) [(w.heap.size, t0, c0)] []) := by
  obtain ⟨hb, h0⟩ := bx1 w c0 t0
  exact Lib.hid ⟨hb.out, by simp only [List.mem_cons, List.not_mem_nil, or_false, forall_eq_or_imp, forall_eq]; exact h0.out, by simp⟩
theorem li2 (w : World) (c0 : Array Value) (t0 : TypeId) (c1 : Array Value) (t1 : TypeId) : Hid (Lies w ((w.alloc (.cells c0 t0)).alloc (.cells c1 t1)) [(w.heap.size, t0, c0), (w.heap.size + 1, t1, c1)] []) := by
  obtain ⟨hb, h0, h1⟩ := bx2 w c0 t0 c1 t1
  exact Lib.hid ⟨hb.out, by simp only [List.mem_cons, List.not_mem_nil, or_false, forall_eq_or_imp, forall_eq]; exact ⟨h0.out, h1.out⟩, by simp⟩
theorem li3 (w : World) (c0 : Array Value) (t0 : TypeId) (c1 : Array Value) (t1 : TypeId) (c2 : Array Value) (t2 : TypeId) : Hid (Lies w (((w.alloc (.cells c0 t0)).alloc (.cells c1 t1)).alloc (.cells c2 t2)) [(w.heap.size, t0, c0), (w.heap.size + 1, t1, c1), (w.heap.size + 2, t2, c2)] []) := by
  obtain ⟨hb, h0, h1, h2⟩ := bx3 w c0 t0 c1 t1 c2 t2
  exact Lib.hid ⟨hb.out, by simp only [List.mem_cons, List.not_mem_nil, or_false, forall_eq_or_imp, forall_eq]; exact ⟨h0.out, h1.out, h2.out⟩, by simp⟩
theorem li4 (w : World) (c0 : Array Value) (t0 : TypeId) (c1 : Array Value) (t1 : TypeId) (c2 : Array Value) (t2 : TypeId) (c3 : Array Value) (t3 : TypeId) : Hid (Lies w ((((w.alloc (.cells c0 t0)).alloc (.cells c1 t1)).alloc (.cells c2 t2)).alloc (.cells c3 t3)) [(w.heap.size, t0, c0), (w.heap.size + 1, t1, c1), (w.heap.size + 2, t2, c2), (w.heap.size + 3, t3, c3)] []) := by
  obtain ⟨hb, h0, h1, h2, h3⟩ := bx4 w c0 t0 c1 t1 c2 t2 c3 t3
  exact Lib.hid ⟨hb.out, by simp only [List.mem_cons, List.not_mem_nil, or_false, forall_eq_or_imp, forall_eq]; exact ⟨h0.out, h1.out, h2.out, h3.out⟩, by simp⟩
theorem li5 (w : World) (c0 : Array Value) (t0 : TypeId) (c1 : Array Value) (t1 : TypeId) (c2 : Array Value) (t2 : TypeId) (c3 : Array Value) (t3 : TypeId) (c4 : Array Value) (t4 : TypeId) : Hid (Lies w (((((w.alloc (.cells c0 t0)).alloc (.cells c1 t1)).alloc (.cells c2 t2)).alloc (.cells c3 t3)).alloc (.cells c4 t4)) [(w.heap.size, t0, c0), (w.heap.size + 1, t1, c1), (w.heap.size + 2, t2, c2), (w.heap.size + 3, t3, c3), (w.heap.size + 4, t4, c4)] []) := by
  obtain ⟨hb, h0, h1, h2, h3, h4⟩ := bx5 w c0 t0 c1 t1 c2 t2 c3 t3 c4 t4
  exact Lib.hid ⟨hb.out, by simp only [List.mem_cons, List.not_mem_nil, or_false, forall_eq_or_imp, forall_eq]; exact ⟨h0.out, h1.out, h2.out, h3.out, h4.out⟩, by simp⟩
end Go.Proofs.YthlmlmfebpjgdaaGreatDoor
