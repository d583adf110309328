/-
Walks: package rev, product, dividend, DivRev1.
Plain: products, as the program cuts them and as the reference has them; DivRev1 by indexes.
DivRev1 by indexes, the program's.
-/
import Derived.Test.YthlmlmfebpjgdaaGreatDoorM26
import Derived.Test.YthlmlmfebpjgdaaGreatDoorPPairT
import Derived.Deep.DeepCutAuto
import Derived.Deep.CutBlock
set_option linter.unusedSimpArgs false
set_option linter.unusedVariables false
set_option maxHeartbeats 12800000

namespace Go.Proofs.YthlmlmfebpjgdaaGreatDoor
open Go.RowKit
attribute [local go_sem] run_store_float
set_option maxRecDepth 8000 in
theorem product_walk (x y p1 p2 : Nat) (w : World) (h1 : ∀ W, Calls Tryz.prog 119 #[.int .i64 (-1), .float .f64 x, .float .f64 y] W fun e w' => e = .returned (.float .f64 p1) ∧ Below W.heap.size W w') (h2 : ∀ W, Calls Tryz.prog 119 #[.int .i64 1, .float .f64 x, .float .f64 y] W fun e w' => e = .returned (.float .f64 p2) ∧ Below W.heap.size W w') :
    Calls Tryz.prog 78 #[.float .f64 x, .float .f64 y] w fun e w' => e = .returned (.agg #[.float .f64 p1, .float .f64 p2]) ∧ Below w.heap.size w w' := by
  have H1 := Lib.hid h1
  have H2 := Lib.hid h2
  clear h1 h2
  have LL := li1 w #[.float .f64 0, .float .f64 0] 78
  go_enter Tryz.func78, Tryz.ntmps78
  go_wp2_with fail
  refine (H1.out _).mono ?_
  rintro e wk ⟨rfl, hb⟩
  replace LL := stL LL hb
  clear hb
  go_wp2_with fail
  refine (H2.out _).mono ?_
  rintro e wk ⟨rfl, hb⟩
  replace LL := stL LL hb
  clear hb
  replace LL := Lib.hid (LL.out.loose 0 rfl rfl)
  simp only [List.eraseIdx, List.size_toArray, List.length_cons, List.length_nil, Nat.zero_add, Nat.reduceAdd] at LL
  obtain ⟨ha4_0, hf4_0, ha4_1, hf4_1⟩ := (LL.out.has 0 rfl).sf2
  have LF := Lib.hid (LL.out.write [.float .f64 p1, .float .f64 p2] rfl (by omega) (by simp <;> omega) (by simp <;> omega))
  obtain ⟨hk4_0, hk4_1⟩ := (LF.out.blk 0 rfl).c2
  simp [sets] at hk4_0 hk4_1
  clear LL
  go_wp2
  refine bodyPost_ret (v := .agg #[.float .f64 p1, .float .f64 p2]) (by simp [results, Tryz.results78, go_sem, hk4_0, hk4_1]) rfl ?_
  exact ⟨rfl, LF.out.b⟩
set_option maxRecDepth 8000 in
theorem dividend_none (B1 B2 C1 C2 x1 x2 : Nat) (w : World) (h : FloatKind.f64.format.order B2 0 = some .eq ∨ FloatKind.f64.format.order B2 0 = some .lt) :
    Calls Tryz.prog 86 #[.agg #[.float .f64 B1, .float .f64 B2], .agg #[.float .f64 C1, .float .f64 C2], .agg #[.float .f64 x1, .float .f64 x2]] w fun e w' => e = .returned (.agg #[.float .f64 9218868437227405312, .float .f64 18442240474082181120]) ∧ Below w.heap.size w w' := by
  have HE := Lib.hid emptyf
  rcases h with h | h
  all_goals
    have LL := li4 w #[.float .f64 B1, .float .f64 B2] 28 #[.float .f64 C1, .float .f64 C2] 28 #[.float .f64 x1, .float .f64 x2] 28 #[.float .f64 0, .float .f64 0] 28
    go_enter Tryz.func86, Tryz.ntmps86
    obtain ⟨q1_0, q1_1⟩ := (LL.out.blk 0 rfl).c2
    go_wp2_with fail
    refine (HE.out _).mono ?_
    rintro e wk ⟨rfl, hb⟩
    replace LL := stL LL hb
    clear hb q1_0 q1_1 h
    replace LL := Lib.hid (LL.out.loose 3 rfl rfl)
    simp only [List.eraseIdx, List.size_toArray, List.length_cons, List.length_nil, Nat.zero_add, Nat.reduceAdd] at LL
    obtain ⟨ha6_0, hf6_0, ha6_1, hf6_1⟩ := (LL.out.has 0 rfl).sf2
    have LF := Lib.hid (LL.out.write [.float .f64 9218868437227405312, .float .f64 18442240474082181120] rfl (by omega) (by simp <;> omega) (by simp <;> omega))
    obtain ⟨hk6_0, hk6_1⟩ := (LF.out.blk 3 rfl).c2
    simp [sets] at hk6_0 hk6_1
    clear LL
    go_wp2
    refine bodyPost_ret (v := .agg #[.float .f64 9218868437227405312, .float .f64 18442240474082181120]) (by simp [results, Tryz.results86, go_sem, hk6_0, hk6_1]) rfl ?_
    exact ⟨rfl, LF.out.b⟩
set_option maxRecDepth 8000 in
theorem dividend_walk (B1 B2 C1 C2 x1 x2 F P1 P2 Q1 Q2 r1 r2 : Nat) (oF o1 o2 : Ordering) (hz : Bool) (w : World) (h1 : FloatKind.f64.format.order B2 0 = some .gt) (hm : ∀ W ts t, (Builtin.max_ ts t #[.float .f64 B1, .float .f64 0]).run Tryz.prog W = .ok (.float .f64 F) W)
    (hf : FloatKind.f64.format.order F 0 = some oF) (hc1 : FloatKind.f64.format.order C1 0 = some o1) (hc2 : FloatKind.f64.format.order C2 0 = some o2)
    (hp : (o1 = .lt ∧ ∀ W, Calls Tryz.prog 78 #[.float .f64 C1, .float .f64 B2] W fun e w' => e = .returned (.agg #[.float .f64 P1, .float .f64 P2]) ∧ Below W.heap.size W w') ∨ (o1 = .gt ∧ oF = .gt ∧ ∀ W, Calls Tryz.prog 78 #[.float .f64 C1, .float .f64 F] W fun e w' => e = .returned (.agg #[.float .f64 P1, .float .f64 P2]) ∧ Below W.heap.size W w') ∨ ((o1 = .eq ∨ o1 = .gt ∧ oF = .eq) ∧ P1 = 0 ∧ P2 = 0))
    (hq : (o2 = .gt ∧ ∀ W, Calls Tryz.prog 78 #[.float .f64 C2, .float .f64 B2] W fun e w' => e = .returned (.agg #[.float .f64 Q1, .float .f64 Q2]) ∧ Below W.heap.size W w') ∨ (o2 = .lt ∧ oF = .gt ∧ ∀ W, Calls Tryz.prog 78 #[.float .f64 C2, .float .f64 F] W fun e w' => e = .returned (.agg #[.float .f64 Q1, .float .f64 Q2]) ∧ Below W.heap.size W w') ∨ ((o2 = .eq ∨ o2 = .lt ∧ oF = .eq) ∧ Q1 = 0 ∧ Q2 = 0))
    (hh : ∀ W, Calls Tryz.prog 87 #[.agg #[.float .f64 C1, .float .f64 C2]] W fun e w' => e = .returned (.bool hz) ∧ Below W.heap.size W w') (hcut : ∀ W, Calls Tryz.prog 77 #[.agg #[.float .f64 x1, .float .f64 x2], .agg #[.float .f64 P1, .float .f64 P2], .agg #[.float .f64 Q1, .float .f64 Q2], .bool (!hz)] W fun e w' => e = .returned (.agg #[.float .f64 r1, .float .f64 r2]) ∧ Below W.heap.size W w') :
    Calls Tryz.prog 86 #[.agg #[.float .f64 B1, .float .f64 B2], .agg #[.float .f64 C1, .float .f64 C2], .agg #[.float .f64 x1, .float .f64 x2]] w fun e w' => e = .returned (.agg #[.float .f64 r1, .float .f64 r2]) ∧ Below w.heap.size w w' := by
  have HZ := Lib.hid fun W => at_any 0 W
  have H1 := Lib.hid h1
  have HM := Lib.hid hm
  have HF := Lib.hid hf
  have HC1 := Lib.hid hc1
  have HC2 := Lib.hid hc2
  have HP := Lib.hid hp
  have HQ := Lib.hid hq
  have HH := Lib.hid hh
  have HCUT := Lib.hid hcut
  clear h1 hm hf hc1 hc2 hp hq hh hcut
  have LL := li4 w #[.float .f64 B1, .float .f64 B2] 28 #[.float .f64 C1, .float .f64 C2] 28 #[.float .f64 x1, .float .f64 x2] 28 #[.float .f64 0, .float .f64 0] 28
  go_enter Tryz.func86, Tryz.ntmps86
  obtain ⟨q1_0, q1_1⟩ := (LL.out.blk 0 rfl).c2
  have h1 := H1.out
  go_upto_region 3 with fail
  clear h1 H1 q1_0 q1_1
  have hm := HM.out
  refine regL LL (fun hHeld => ?_)
  clear LL
  generalize World.drew _ = wk at hHeld  ⊢
  refine tk 0 ?_
  try simp only [Act.put, lay]
  refine tk 1 ?_ (hv := by intro W2 hSw; obtain ⟨q0, q1⟩ := (hSw.blk 0 rfl).c2; go_simp; (try with_reducible rfl))
  try simp only [Act.put, lay]
  refine tk 3 ?_
  try simp only [Act.put, lay]
  refine tk 4 ?_ (hv := by intro W2 hSw; obtain ⟨q0, q1⟩ := (hSw.blk 0 rfl).c2; go_simp; (try with_reducible rfl))
  try simp only [Act.put, lay]
  refine rdy 2 (fun KK hKK => ?_)
  go_simp
  refine hKK.out _ _ hHeld (fun _ => ?_)
  clear hKK KK hHeld
  rename_i hHeld
  try simp only [Act.put, lay]
  refine tk 5 ?_
  try simp only [Act.put, lay]
  refine tk 6 ?_
  try simp only [Act.put, lay]
  refine wpAnyH_done (by kernel_rfl) ?_ _
  have LL := Lib.hid hHeld
  clear hHeld
  clear hm HM
  go_wp2_with fail
  refine (HZ.out _).mono ?_
  rintro e wk ⟨rfl, hb⟩
  replace LL := stL LL hb
  clear hb
  go_wp2_with fail
  refine (HZ.out _).mono ?_
  rintro e wk ⟨rfl, hb⟩
  replace LL := stL LL hb
  clear hb
  go_upto_block 0 with fail
  have hl_j9 := LL.out.lts
  generalize hwm : World.alloc wk _ = wm
  replace LL := Lib.hid (LL.out.newE hwm)
  have hz : wm.heap.size = wk.heap.size + 1 := by rw [← hwm]; simp
  clear hwm
  generalize hwn : World.alloc wm _ = wn
  replace LL := Lib.hid (LL.out.newE hwn)
  rw [hz] at LL
  simp only [List.cons_append, List.nil_append] at LL
  simp only [List.mem_cons, List.not_mem_nil, or_false, forall_eq_or_imp, forall_eq, false_imp_iff, implies_true, and_true] at hl_j9
  clear hwn hz
  generalize wk.heap.size = j9 at LL hl_j9 ⊢
  go_cut [] (fun wx => Lies w wx [(w.heap.size, 28, #[.float .f64 B1, .float .f64 B2]), ((w.heap.size + 1), 28, #[.float .f64 C1, .float .f64 C2]), ((w.heap.size + 2), 28, #[.float .f64 x1, .float .f64 x2]), ((w.heap.size + 3), 28, #[.float .f64 0, .float .f64 0]), ((j9 + 1), 78, #[.float .f64 0, .float .f64 0]), (j9, 78, #[.float .f64 P1, .float .f64 P2])] [])
  case first =>
    rcases HP.out with ⟨e, k⟩ | ⟨e, e2, k⟩ | ⟨e | ⟨e, e2⟩, e3, e4⟩
    · skip
      subst e
      have oc := HC1.out
      obtain ⟨q2_0, q2_1⟩ := (LL.out.blk 1 rfl).c2
      have K := Lib.hid k
      clear k
      go_wp2_with fail
      refine (K.out _).mono ?_
      rintro e wk ⟨rfl, hb⟩
      replace LL := stL LL hb
      clear hb q2_0 q2_1 oc K
      obtain ⟨q3_0, q3_1⟩ := (LL.out.blk 4 rfl).c2
      have fz0 := (LL.out.blk 4 rfl).frozen 0
      have fz1 := (LL.out.blk 4 rfl).frozen 1
      go_wp2_with fail
      clear q3_0 q3_1 fz0 fz1
      replace LL := Lib.hid (LL.out.part 4 rfl 0 [.float .f64 P1, .float .f64 P2] (by omega) (by simp <;> omega) (by simp <;> omega))
      simp only [List.eraseIdx, laid, List.cons_append, List.nil_append, List.setIfInBounds_toArray, List.set_cons_zero, List.set_cons_succ, Nat.zero_add, Nat.reduceAdd] at LL
      obtain ⟨wn, hwn⟩ : ∃ X, (sets wk j9 0 [.float .f64 P1, .float .f64 P2]) = X := ⟨_, rfl⟩
      rw [hwn] at LL 
      simp only [sets, Nat.reduceAdd] at hwn
      rw [hwn]
      clear hwn
      go_meet
      case rel => exact LL.out.perm (by simp) (by simp)
    · skip
      subst e
      subst e2
      have oc := HC1.out
      have of := HF.out
      obtain ⟨q2_0, q2_1⟩ := (LL.out.blk 1 rfl).c2
      have K := Lib.hid k
      clear k
      go_wp2_with fail
      refine (K.out _).mono ?_
      rintro e wk ⟨rfl, hb⟩
      replace LL := stL LL hb
      clear hb q2_0 q2_1 oc K of
      obtain ⟨q3_0, q3_1⟩ := (LL.out.blk 4 rfl).c2
      have fz0 := (LL.out.blk 4 rfl).frozen 0
      have fz1 := (LL.out.blk 4 rfl).frozen 1
      go_wp2_with fail
      clear q3_0 q3_1 fz0 fz1
      replace LL := Lib.hid (LL.out.part 4 rfl 0 [.float .f64 P1, .float .f64 P2] (by omega) (by simp <;> omega) (by simp <;> omega))
      simp only [List.eraseIdx, laid, List.cons_append, List.nil_append, List.setIfInBounds_toArray, List.set_cons_zero, List.set_cons_succ, Nat.zero_add, Nat.reduceAdd] at LL
      obtain ⟨wn, hwn⟩ : ∃ X, (sets wk j9 0 [.float .f64 P1, .float .f64 P2]) = X := ⟨_, rfl⟩
      rw [hwn] at LL 
      simp only [sets, Nat.reduceAdd] at hwn
      rw [hwn]
      clear hwn
      go_meet
      case rel => exact LL.out.perm (by simp) (by simp)
    · skip
      subst e
      subst e3
      subst e4
      have oc := HC1.out
      obtain ⟨q2_0, q2_1⟩ := (LL.out.blk 1 rfl).c2
      go_wp2_with fail
      go_meet
      case rel => exact LL.out.perm (by simp) (by simp)
    · skip
      subst e
      subst e2
      subst e3
      subst e4
      have oc := HC1.out
      have of := HF.out
      obtain ⟨q2_0, q2_1⟩ := (LL.out.blk 1 rfl).c2
      go_wp2_with fail
      go_meet
      case rel => exact LL.out.perm (by simp) (by simp)
  case rest =>
  have hcl := hcut
  rename World => wx
  clear hcut LL HP HC1
  have LL := Lib.hid hcl
  clear hcl
  go_upto_block 1 with fail
  go_cut [] (fun wx => Lies w wx [(w.heap.size, 28, #[.float .f64 B1, .float .f64 B2]), ((w.heap.size + 1), 28, #[.float .f64 C1, .float .f64 C2]), ((w.heap.size + 2), 28, #[.float .f64 x1, .float .f64 x2]), ((w.heap.size + 3), 28, #[.float .f64 0, .float .f64 0]), (j9, 78, #[.float .f64 P1, .float .f64 P2]), ((j9 + 1), 78, #[.float .f64 Q1, .float .f64 Q2])] [])
  case first =>
    rcases HQ.out with ⟨e, k⟩ | ⟨e, e2, k⟩ | ⟨e | ⟨e, e2⟩, e3, e4⟩
    · skip
      subst e
      have oc := HC2.out
      obtain ⟨q2_0, q2_1⟩ := (LL.out.blk 1 rfl).c2
      have K := Lib.hid k
      clear k
      go_wp2_with fail
      refine (K.out _).mono ?_
      rintro e wk ⟨rfl, hb⟩
      replace LL := stL LL hb
      clear hb q2_0 q2_1 oc K
      obtain ⟨q3_0, q3_1⟩ := (LL.out.blk 4 rfl).c2
      have fz0 := (LL.out.blk 4 rfl).frozen 0
      have fz1 := (LL.out.blk 4 rfl).frozen 1
      go_wp2_with fail
      clear q3_0 q3_1 fz0 fz1
      replace LL := Lib.hid (LL.out.part 4 rfl 0 [.float .f64 Q1, .float .f64 Q2] (by omega) (by simp <;> omega) (by simp <;> omega))
      simp only [List.eraseIdx, laid, List.cons_append, List.nil_append, List.setIfInBounds_toArray, List.set_cons_zero, List.set_cons_succ, Nat.zero_add, Nat.reduceAdd] at LL
      obtain ⟨wn, hwn⟩ : ∃ X, (sets wk (j9 + 1) 0 [.float .f64 Q1, .float .f64 Q2]) = X := ⟨_, rfl⟩
      rw [hwn] at LL 
      simp only [sets, Nat.reduceAdd] at hwn
      rw [hwn]
      clear hwn
      go_meet
      case rel => exact LL.out.perm (by simp) (by simp)
    · skip
      subst e
      subst e2
      have oc := HC2.out
      have of := HF.out
      obtain ⟨q2_0, q2_1⟩ := (LL.out.blk 1 rfl).c2
      have K := Lib.hid k
      clear k
      go_wp2_with fail
      refine (K.out _).mono ?_
      rintro e wk ⟨rfl, hb⟩
      replace LL := stL LL hb
      clear hb q2_0 q2_1 oc K of
      obtain ⟨q3_0, q3_1⟩ := (LL.out.blk 4 rfl).c2
      have fz0 := (LL.out.blk 4 rfl).frozen 0
      have fz1 := (LL.out.blk 4 rfl).frozen 1
      go_wp2_with fail
      clear q3_0 q3_1 fz0 fz1
      replace LL := Lib.hid (LL.out.part 4 rfl 0 [.float .f64 Q1, .float .f64 Q2] (by omega) (by simp <;> omega) (by simp <;> omega))
      simp only [List.eraseIdx, laid, List.cons_append, List.nil_append, List.setIfInBounds_toArray, List.set_cons_zero, List.set_cons_succ, Nat.zero_add, Nat.reduceAdd] at LL
      obtain ⟨wn, hwn⟩ : ∃ X, (sets wk (j9 + 1) 0 [.float .f64 Q1, .float .f64 Q2]) = X := ⟨_, rfl⟩
      rw [hwn] at LL 
      simp only [sets, Nat.reduceAdd] at hwn
      rw [hwn]
      clear hwn
      go_meet
      case rel => exact LL.out.perm (by simp) (by simp)
    · skip
      subst e
      subst e3
      subst e4
      have oc := HC2.out
      obtain ⟨q2_0, q2_1⟩ := (LL.out.blk 1 rfl).c2
      go_wp2_with fail
      go_meet
      case rel => exact LL.out.perm (by simp) (by simp)
    · skip
      subst e
      subst e2
      subst e3
      subst e4
      have oc := HC2.out
      have of := HF.out
      obtain ⟨q2_0, q2_1⟩ := (LL.out.blk 1 rfl).c2
      go_wp2_with fail
      go_meet
      case rel => exact LL.out.perm (by simp) (by simp)
  case rest =>
  have hcl := hcut
  rename World => wx
  clear hcut LL HQ HC2
  have LL := Lib.hid hcl
  clear hcl
  clear HF
  go_wp2_with fail
  replace LL := Lib.hid (LL.out.loose 3 rfl rfl)
  simp only [List.eraseIdx, List.size_toArray, List.length_cons, List.length_nil, Nat.zero_add, Nat.reduceAdd] at LL
  refine regL LL (fun hHeld => ?_)
  clear LL
  generalize World.drew _ = wk at hHeld  ⊢
  refine tk 0 ?_ (hv := by intro W2 hSw; obtain ⟨q0, q1⟩ := (hSw.blk 2 rfl).c2; go_simp; (try with_reducible rfl))
  try simp only [Act.put, lay]
  refine tk 1 ?_ (hv := by intro W2 hSw; obtain ⟨q0, q1⟩ := (hSw.blk 3 rfl).c2; go_simp; (try with_reducible rfl))
  try simp only [Act.put, lay]
  refine tk 2 ?_ (hv := by intro W2 hSw; obtain ⟨q0, q1⟩ := (hSw.blk 4 rfl).c2; go_simp; (try with_reducible rfl))
  try simp only [Act.put, lay]
  refine tk 3 ?_ (hv := by intro W2 hSw; obtain ⟨q0, q1⟩ := (hSw.blk 1 rfl).c2; go_simp; (try with_reducible rfl))
  try simp only [Act.put, lay]
  refine rdy 4 (fun KK hKK => ?_)
  go_simp
  refine (HH.out _).mono ?_
  rintro e wk ⟨rfl, hb1⟩
  go_wp2_with fail
  refine hKK.out _ _ (hHeld.keep hb1) (fun _ => ?_)
  clear hKK KK hHeld
  rename_i hHeld
  try simp only [Act.put, lay]
  clear hb1
  refine tk 5 ?_
  try simp only [Act.put, lay]
  refine rdy 6 (fun KK hKK => ?_)
  go_simp
  refine (HCUT.out _).mono ?_
  rintro e wk ⟨rfl, hb2⟩
  go_wp2_with fail
  refine hKK.out _ _ (hHeld.keep hb2) (fun _ => ?_)
  clear hKK KK hHeld
  rename_i hHeld
  try simp only [Act.put, lay]
  clear hb2
  refine rdy 7 (fun KK hKK => ?_)
  obtain ⟨ha0, hf0, ha1, hf1⟩ := (hHeld.has 0 rfl).sf2
  go_simp
  have HS_0 := (hHeld.has 0 rfl).laid [.float .f64 r1, .float .f64 r2] rfl
  refine hKK.out _ _ (hHeld.over 0 rfl [.float .f64 r1, .float .f64 r2] rfl rfl (by first | omega | exact hHeld.le_of 0 rfl) (by simp <;> omega) (by simp <;> omega)) (fun _ => ?_)
  clear hKK KK hHeld
  rename_i hHeld
  try simp only [Act.put, lay]
  refine wpAnyH_done (by kernel_rfl) ?_ _
  have LB := Lib.hid hHeld.b
  clear hHeld
  obtain ⟨hk6_0, hk6_1⟩ := HS_0.c2
  clear HS_0
  simp [sets] at hk6_0 hk6_1
  go_wp2
  refine bodyPost_ret (v := .agg #[.float .f64 r1, .float .f64 r2]) (by simp [results, Tryz.results86, go_sem, hk6_0, hk6_1]) rfl ?_
  exact ⟨rfl, LB.out⟩
set_option maxRecDepth 8000 in
theorem divrev1_none (b1 b2 c1 c2 y1 y2 A1 A2 C1 C2 x1 x2 : Nat) (d1 d2 d3 : Bool) (w : World) (t1 : ∀ W, Calls Tryz.prog 102 #[.agg #[.float .f64 b1, .float .f64 b2]] W fun e w' => e = .returned (.agg #[.float .f64 A1, .float .f64 A2]) ∧ Below W.heap.size W w') (m1 : Em d1 A1 A2) (t2 : ∀ W, Calls Tryz.prog 102 #[.agg #[.float .f64 c1, .float .f64 c2]] W fun e w' => e = .returned (.agg #[.float .f64 C1, .float .f64 C2]) ∧ Below W.heap.size W w') (m2 : Em d2 C1 C2) (t3 : ∀ W, Calls Tryz.prog 102 #[.agg #[.float .f64 y1, .float .f64 y2]] W fun e w' => e = .returned (.agg #[.float .f64 x1, .float .f64 x2]) ∧ Below W.heap.size W w') (m3 : Em d3 x1 x2) (hnn : (d1 || d2 || d3) = true) :
    Calls Tryz.prog 26 #[.agg #[.float .f64 b1, .float .f64 b2], .agg #[.float .f64 c1, .float .f64 c2], .agg #[.float .f64 y1, .float .f64 y2]] w fun e w' => e = .returned (.agg #[.float .f64 9218868437227405312, .float .f64 18442240474082181120]) ∧ Below w.heap.size w w' := by
  have HE := Lib.hid emptyf
  have LL := li4 w #[.float .f64 b1, .float .f64 b2] 28 #[.float .f64 c1, .float .f64 c2] 28 #[.float .f64 y1, .float .f64 y2] 28 #[.float .f64 0, .float .f64 0] 28
  have hrow := Blk.at (W := ((((w.alloc (.cells #[.float .f64 b1, .float .f64 b2] 28)).alloc (.cells #[.float .f64 c1, .float .f64 c2] 28)).alloc (.cells #[.float .f64 y1, .float .f64 y2] 28)).alloc (.cells #[.float .f64 0, .float .f64 0] 28))) (g := w.heap.size + 1 + 1 + 1 + 1) (by simp) 75 #[.pointer (some ⟨w.heap.size, 0, none⟩), .pointer (some ⟨w.heap.size + 1, 0, none⟩), .pointer (some ⟨w.heap.size + 1 + 1, 0, none⟩)]
  have HRD := Lib.hid (read_n w.heap.size 3 (w.heap.size + 1 + 1 + 1 + 1) 3 (fun k : Nat => if k = 0 then (b1, b2) else if k = 1 then (c1, c2) else (y1, y2)) (fun k : Nat => if k = 0 then (A1, A2) else if k = 1 then (C1, C2) else (x1, x2)) (fun k : Nat => if k = 0 then d1 else if k = 1 then d2 else d3) _ (by omega) (by omega)
    (fun k hk => by match k, hk with | 0, _ => exact hrow.cell 0 | 1, _ => exact hrow.cell 1 | 2, _ => exact hrow.cell 2) (fun k hk => by match k, hk with | 0, _ => exact (LL.out.blk 0 rfl).alloc (.cells #[.pointer (some ⟨w.heap.size, 0, none⟩), .pointer (some ⟨w.heap.size + 1, 0, none⟩), .pointer (some ⟨w.heap.size + 1 + 1, 0, none⟩)] 75) | 1, _ => exact (LL.out.blk 1 rfl).alloc (.cells #[.pointer (some ⟨w.heap.size, 0, none⟩), .pointer (some ⟨w.heap.size + 1, 0, none⟩), .pointer (some ⟨w.heap.size + 1 + 1, 0, none⟩)] 75) | 2, _ => exact (LL.out.blk 2 rfl).alloc (.cells #[.pointer (some ⟨w.heap.size, 0, none⟩), .pointer (some ⟨w.heap.size + 1, 0, none⟩), .pointer (some ⟨w.heap.size + 1 + 1, 0, none⟩)] 75)) (fun k hk => by match k, hk with | 0, _ => exact t1 | 1, _ => exact t2 | 2, _ => exact t3) (fun k hk => by match k, hk with | 0, _ => exact m1 | 1, _ => exact m2 | 2, _ => exact m3))
  rw [show anyB (fun k : Nat => if k = 0 then d1 else if k = 1 then d2 else d3) 3 = (d1 || d2 || d3) from by simp [anyB], hnn] at HRD
  have LLR := Lib.hid (LL.out.alloc (.cells #[.pointer (some ⟨w.heap.size, 0, none⟩), .pointer (some ⟨w.heap.size + 1, 0, none⟩), .pointer (some ⟨w.heap.size + 1 + 1, 0, none⟩)] 75))
  have HSZ := Lib.hid (show w.heap.size ≤ ((((((w.alloc (.cells #[.float .f64 b1, .float .f64 b2] 28)).alloc (.cells #[.float .f64 c1, .float .f64 c2] 28)).alloc (.cells #[.float .f64 y1, .float .f64 y2] 28)).alloc (.cells #[.float .f64 0, .float .f64 0] 28))).alloc (.cells #[.pointer (some ⟨w.heap.size, 0, none⟩), .pointer (some ⟨w.heap.size + 1, 0, none⟩), .pointer (some ⟨w.heap.size + 1 + 1, 0, none⟩)] 75)).heap.size by simp; omega)
  clear t1 m1 t2 m2 t3 m3 hrow hnn LL
  go_enter Tryz.func26, Tryz.ntmps26
  go_wp2_with fail
  refine HRD.out.mono ?_
  rintro e wk ⟨rfl, hd, kp⟩
  have LL := Lib.hid (show Lies w wk [(w.heap.size, 28, #[.float .f64 A1, .float .f64 A2]), ((w.heap.size + 1), 28, #[.float .f64 C1, .float .f64 C2]), ((w.heap.size + 2), 28, #[.float .f64 x1, .float .f64 x2]), ((w.heap.size + 3), 28, #[.float .f64 0, .float .f64 0])] [] from ⟨kp.toBl LLR.out.b HSZ.out (Nat.le_refl _), by simp only [List.mem_cons, List.not_mem_nil, or_false, forall_eq_or_imp, forall_eq]; exact ⟨show Blk wk w.heap.size 28 #[.float .f64 A1, .float .f64 A2] from hd 0 (by omega), show Blk wk (w.heap.size + 1) 28 #[.float .f64 C1, .float .f64 C2] from hd 1 (by omega), show Blk wk (w.heap.size + 2) 28 #[.float .f64 x1, .float .f64 x2] from hd 2 (by omega), kp.blk (LLR.out.blk 3 rfl) (by omega)⟩, by simp⟩)
  clear hd kp LLR HSZ HRD
  go_wp2_with fail
  refine (HE.out _).mono ?_
  rintro e wk ⟨rfl, hb⟩
  replace LL := stL LL hb
  clear hb
  replace LL := Lib.hid (LL.out.loose 3 rfl rfl)
  simp only [List.eraseIdx, List.size_toArray, List.length_cons, List.length_nil, Nat.zero_add, Nat.reduceAdd] at LL
  obtain ⟨ha6_0, hf6_0, ha6_1, hf6_1⟩ := (LL.out.has 0 rfl).sf2
  have LF := Lib.hid (LL.out.write [.float .f64 9218868437227405312, .float .f64 18442240474082181120] rfl (by omega) (by simp <;> omega) (by simp <;> omega))
  obtain ⟨hk6_0, hk6_1⟩ := (LF.out.blk 3 rfl).c2
  simp [sets] at hk6_0 hk6_1
  clear LL
  go_wp2
  refine bodyPost_ret (v := .agg #[.float .f64 9218868437227405312, .float .f64 18442240474082181120]) (by simp [results, Tryz.results26, go_sem, hk6_0, hk6_1]) rfl ?_
  exact ⟨rfl, LF.out.b⟩
set_option maxRecDepth 8000 in
theorem divrev1_some (b1 b2 c1 c2 y1 y2 A1 A2 C1 C2 x1 x2 a1 a2 z1 z2 p1 q1 p2 q2 p3 q3 p4 q4 : Nat) (d1 d2 d3 : Bool) (w : World) (t1 : ∀ W, Calls Tryz.prog 102 #[.agg #[.float .f64 b1, .float .f64 b2]] W fun e w' => e = .returned (.agg #[.float .f64 A1, .float .f64 A2]) ∧ Below W.heap.size W w') (m1 : Em d1 A1 A2) (t2 : ∀ W, Calls Tryz.prog 102 #[.agg #[.float .f64 c1, .float .f64 c2]] W fun e w' => e = .returned (.agg #[.float .f64 C1, .float .f64 C2]) ∧ Below W.heap.size W w') (m2 : Em d2 C1 C2) (t3 : ∀ W, Calls Tryz.prog 102 #[.agg #[.float .f64 y1, .float .f64 y2]] W fun e w' => e = .returned (.agg #[.float .f64 x1, .float .f64 x2]) ∧ Below W.heap.size W w') (m3 : Em d3 x1 x2) (hnn : (d1 || d2 || d3) = false)
    (hd1 : ∀ W, Calls Tryz.prog 86 #[.agg #[.float .f64 A1, .float .f64 A2], .agg #[.float .f64 C1, .float .f64 C2], .agg #[.float .f64 x1, .float .f64 x2]] W fun e w' => e = .returned (.agg #[.float .f64 p1, .float .f64 q1]) ∧ Below W.heap.size W w') (hm1 : ∀ W, Calls Tryz.prog 85 #[.agg #[.float .f64 A1, .float .f64 A2]] W fun e w' => e = .returned (.agg #[.float .f64 a1, .float .f64 a2]) ∧ Below W.heap.size W w') (hm2 : ∀ W, Calls Tryz.prog 85 #[.agg #[.float .f64 x1, .float .f64 x2]] W fun e w' => e = .returned (.agg #[.float .f64 z1, .float .f64 z2]) ∧ Below W.heap.size W w') (hd2 : ∀ W, Calls Tryz.prog 86 #[.agg #[.float .f64 a1, .float .f64 a2], .agg #[.float .f64 C1, .float .f64 C2], .agg #[.float .f64 z1, .float .f64 z2]] W fun e w' => e = .returned (.agg #[.float .f64 p2, .float .f64 q2]) ∧ Below W.heap.size W w') (hm3 : ∀ W, Calls Tryz.prog 85 #[.agg #[.float .f64 p2, .float .f64 q2]] W fun e w' => e = .returned (.agg #[.float .f64 p3, .float .f64 q3]) ∧ Below W.heap.size W w') (hu : ∀ W, Calls Tryz.prog 63 #[.agg #[.float .f64 p1, .float .f64 q1], .agg #[.float .f64 p3, .float .f64 q3]] W fun e w' => e = .returned (.agg #[.float .f64 p4, .float .f64 q4]) ∧ Below W.heap.size W w') :
    Calls Tryz.prog 26 #[.agg #[.float .f64 b1, .float .f64 b2], .agg #[.float .f64 c1, .float .f64 c2], .agg #[.float .f64 y1, .float .f64 y2]] w fun e w' => e = .returned (.agg #[.float .f64 p4, .float .f64 q4]) ∧ Below w.heap.size w w' := by
  have HD1 := Lib.hid hd1
  have HM1 := Lib.hid hm1
  have HM2 := Lib.hid hm2
  have HD2 := Lib.hid hd2
  have HM3 := Lib.hid hm3
  have HU := Lib.hid hu
  clear hd1 hm1 hm2 hd2 hm3 hu
  have LL := li4 w #[.float .f64 b1, .float .f64 b2] 28 #[.float .f64 c1, .float .f64 c2] 28 #[.float .f64 y1, .float .f64 y2] 28 #[.float .f64 0, .float .f64 0] 28
  have hrow := Blk.at (W := ((((w.alloc (.cells #[.float .f64 b1, .float .f64 b2] 28)).alloc (.cells #[.float .f64 c1, .float .f64 c2] 28)).alloc (.cells #[.float .f64 y1, .float .f64 y2] 28)).alloc (.cells #[.float .f64 0, .float .f64 0] 28))) (g := w.heap.size + 1 + 1 + 1 + 1) (by simp) 75 #[.pointer (some ⟨w.heap.size, 0, none⟩), .pointer (some ⟨w.heap.size + 1, 0, none⟩), .pointer (some ⟨w.heap.size + 1 + 1, 0, none⟩)]
  have HRD := Lib.hid (read_n w.heap.size 3 (w.heap.size + 1 + 1 + 1 + 1) 3 (fun k : Nat => if k = 0 then (b1, b2) else if k = 1 then (c1, c2) else (y1, y2)) (fun k : Nat => if k = 0 then (A1, A2) else if k = 1 then (C1, C2) else (x1, x2)) (fun k : Nat => if k = 0 then d1 else if k = 1 then d2 else d3) _ (by omega) (by omega)
    (fun k hk => by match k, hk with | 0, _ => exact hrow.cell 0 | 1, _ => exact hrow.cell 1 | 2, _ => exact hrow.cell 2) (fun k hk => by match k, hk with | 0, _ => exact (LL.out.blk 0 rfl).alloc (.cells #[.pointer (some ⟨w.heap.size, 0, none⟩), .pointer (some ⟨w.heap.size + 1, 0, none⟩), .pointer (some ⟨w.heap.size + 1 + 1, 0, none⟩)] 75) | 1, _ => exact (LL.out.blk 1 rfl).alloc (.cells #[.pointer (some ⟨w.heap.size, 0, none⟩), .pointer (some ⟨w.heap.size + 1, 0, none⟩), .pointer (some ⟨w.heap.size + 1 + 1, 0, none⟩)] 75) | 2, _ => exact (LL.out.blk 2 rfl).alloc (.cells #[.pointer (some ⟨w.heap.size, 0, none⟩), .pointer (some ⟨w.heap.size + 1, 0, none⟩), .pointer (some ⟨w.heap.size + 1 + 1, 0, none⟩)] 75)) (fun k hk => by match k, hk with | 0, _ => exact t1 | 1, _ => exact t2 | 2, _ => exact t3) (fun k hk => by match k, hk with | 0, _ => exact m1 | 1, _ => exact m2 | 2, _ => exact m3))
  rw [show anyB (fun k : Nat => if k = 0 then d1 else if k = 1 then d2 else d3) 3 = (d1 || d2 || d3) from by simp [anyB], hnn] at HRD
  have LLR := Lib.hid (LL.out.alloc (.cells #[.pointer (some ⟨w.heap.size, 0, none⟩), .pointer (some ⟨w.heap.size + 1, 0, none⟩), .pointer (some ⟨w.heap.size + 1 + 1, 0, none⟩)] 75))
  have HSZ := Lib.hid (show w.heap.size ≤ ((((((w.alloc (.cells #[.float .f64 b1, .float .f64 b2] 28)).alloc (.cells #[.float .f64 c1, .float .f64 c2] 28)).alloc (.cells #[.float .f64 y1, .float .f64 y2] 28)).alloc (.cells #[.float .f64 0, .float .f64 0] 28))).alloc (.cells #[.pointer (some ⟨w.heap.size, 0, none⟩), .pointer (some ⟨w.heap.size + 1, 0, none⟩), .pointer (some ⟨w.heap.size + 1 + 1, 0, none⟩)] 75)).heap.size by simp; omega)
  clear t1 m1 t2 m2 t3 m3 hrow hnn LL
  go_enter Tryz.func26, Tryz.ntmps26
  go_wp2_with fail
  refine HRD.out.mono ?_
  rintro e wk ⟨rfl, hd, kp⟩
  have LL := Lib.hid (show Lies w wk [(w.heap.size, 28, #[.float .f64 A1, .float .f64 A2]), ((w.heap.size + 1), 28, #[.float .f64 C1, .float .f64 C2]), ((w.heap.size + 2), 28, #[.float .f64 x1, .float .f64 x2]), ((w.heap.size + 3), 28, #[.float .f64 0, .float .f64 0])] [] from ⟨kp.toBl LLR.out.b HSZ.out (Nat.le_refl _), by simp only [List.mem_cons, List.not_mem_nil, or_false, forall_eq_or_imp, forall_eq]; exact ⟨show Blk wk w.heap.size 28 #[.float .f64 A1, .float .f64 A2] from hd 0 (by omega), show Blk wk (w.heap.size + 1) 28 #[.float .f64 C1, .float .f64 C2] from hd 1 (by omega), show Blk wk (w.heap.size + 2) 28 #[.float .f64 x1, .float .f64 x2] from hd 2 (by omega), kp.blk (LLR.out.blk 3 rfl) (by omega)⟩, by simp⟩)
  clear hd kp LLR HSZ HRD
  go_wp2_with fail
  replace LL := Lib.hid (LL.out.loose 3 rfl rfl)
  simp only [List.eraseIdx, List.size_toArray, List.length_cons, List.length_nil, Nat.zero_add, Nat.reduceAdd] at LL
  refine regL LL (fun hHeld => ?_)
  clear LL
  generalize World.drew _ = wk at hHeld  ⊢
  refine tk 0 ?_ (hv := by intro W2 hSw; obtain ⟨q0, q1⟩ := (hSw.blk 0 rfl).c2; go_simp; (try with_reducible rfl))
  try simp only [Act.put, lay]
  refine tk 1 ?_ (hv := by intro W2 hSw; obtain ⟨q0, q1⟩ := (hSw.blk 1 rfl).c2; go_simp; (try with_reducible rfl))
  try simp only [Act.put, lay]
  refine tk 2 ?_ (hv := by intro W2 hSw; obtain ⟨q0, q1⟩ := (hSw.blk 2 rfl).c2; go_simp; (try with_reducible rfl))
  try simp only [Act.put, lay]
  refine tk 4 ?_ (hv := by intro W2 hSw; obtain ⟨q0, q1⟩ := (hSw.blk 0 rfl).c2; go_simp; (try with_reducible rfl))
  try simp only [Act.put, lay]
  refine tk 6 ?_ (hv := by intro W2 hSw; obtain ⟨q0, q1⟩ := (hSw.blk 1 rfl).c2; go_simp; (try with_reducible rfl))
  try simp only [Act.put, lay]
  refine tk 7 ?_ (hv := by intro W2 hSw; obtain ⟨q0, q1⟩ := (hSw.blk 2 rfl).c2; go_simp; (try with_reducible rfl))
  try simp only [Act.put, lay]
  refine rdy 3 (fun KK hKK => ?_)
  go_simp
  refine (HD1.out _).mono ?_
  rintro e wk ⟨rfl, hb1⟩
  go_wp2_with fail
  refine hKK.out _ _ (hHeld.keep hb1) (fun _ => ?_)
  clear hKK KK hHeld
  rename_i hHeld
  try simp only [Act.put, lay]
  clear hb1
  refine rdy 5 (fun KK hKK => ?_)
  go_simp
  refine (HM1.out _).mono ?_
  rintro e wk ⟨rfl, hb2⟩
  go_wp2_with fail
  refine hKK.out _ _ (hHeld.keep hb2) (fun _ => ?_)
  clear hKK KK hHeld
  rename_i hHeld
  try simp only [Act.put, lay]
  clear hb2
  refine rdy 8 (fun KK hKK => ?_)
  go_simp
  refine (HM2.out _).mono ?_
  rintro e wk ⟨rfl, hb3⟩
  go_wp2_with fail
  refine hKK.out _ _ (hHeld.keep hb3) (fun _ => ?_)
  clear hKK KK hHeld
  rename_i hHeld
  try simp only [Act.put, lay]
  clear hb3
  refine rdy 9 (fun KK hKK => ?_)
  go_simp
  refine (HD2.out _).mono ?_
  rintro e wk ⟨rfl, hb4⟩
  go_wp2_with fail
  refine hKK.out _ _ (hHeld.keep hb4) (fun _ => ?_)
  clear hKK KK hHeld
  rename_i hHeld
  try simp only [Act.put, lay]
  clear hb4
  refine rdy 10 (fun KK hKK => ?_)
  go_simp
  refine (HM3.out _).mono ?_
  rintro e wk ⟨rfl, hb5⟩
  go_wp2_with fail
  refine hKK.out _ _ (hHeld.keep hb5) (fun _ => ?_)
  clear hKK KK hHeld
  rename_i hHeld
  try simp only [Act.put, lay]
  clear hb5
  refine rdy 11 (fun KK hKK => ?_)
  go_simp
  refine (HU.out _).mono ?_
  rintro e wk ⟨rfl, hb6⟩
  go_wp2_with fail
  refine hKK.out _ _ (hHeld.keep hb6) (fun _ => ?_)
  clear hKK KK hHeld
  rename_i hHeld
  try simp only [Act.put, lay]
  clear hb6
  refine rdy 12 (fun KK hKK => ?_)
  obtain ⟨ha0, hf0, ha1, hf1⟩ := (hHeld.has 0 rfl).sf2
  go_simp
  have HS_0 := (hHeld.has 0 rfl).laid [.float .f64 p4, .float .f64 q4] rfl
  refine hKK.out _ _ (hHeld.over 0 rfl [.float .f64 p4, .float .f64 q4] rfl rfl (by first | omega | exact hHeld.le_of 0 rfl) (by simp <;> omega) (by simp <;> omega)) (fun _ => ?_)
  clear hKK KK hHeld
  rename_i hHeld
  try simp only [Act.put, lay]
  refine wpAnyH_done (by kernel_rfl) ?_ _
  have LB := Lib.hid hHeld.b
  clear hHeld
  obtain ⟨hk6_0, hk6_1⟩ := HS_0.c2
  clear HS_0
  simp [sets] at hk6_0 hk6_1
  go_wp2
  refine bodyPost_ret (v := .agg #[.float .f64 p4, .float .f64 q4]) (by simp [results, Tryz.results26, go_sem, hk6_0, hk6_1]) rfl ?_
  exact ⟨rfl, LB.out⟩
end Go.Proofs.YthlmlmfebpjgdaaGreatDoor

namespace Go.Proofs.YthlmlmfebpjgdaaGreatDoor
open Go.RowKit
def prb (a b : Int) : Int × Rat × Bool := if a = 0 then (0, 0, false) else if b = 0 then (0, 0, true) else if es a ≠ 0 ∨ es b ≠ 0 then ((if 0 < a then 1 else -1), 0, true) else (0, fl a * fl b, false)
def vdA (i1 j1 i2 : Int) : Int × Rat × Bool := if 0 < i2 then prb i2 (max i1 0) else prb i2 j1
def vdB (i1 j1 j2 : Int) : Int × Rat × Bool := if j2 < 0 then prb j2 (max i1 0) else prb j2 j1
def FV (i1 j1 i2 j2 : Int) (i j : Int) : Int × Int :=
  if j1 ≤ 0 ∨ j2 < i2 then ((M : Int), -(M : Int)) else pf (vdA i1 j1 i2).1 (vdA i1 j1 i2).2.1 (vdA i1 j1 i2).2.2 (vdB i1 j1 j2).1 (vdB i1 j1 j2).2.1 (vdB i1 j1 j2).2.2 i j
def pdP (i1 j1 i2 : Int) : Int × Int := if i2 < 0 then (mu (-1) i2 j1, mu 1 i2 j1) else if 0 < i2 ∧ 0 < i1 then (mu (-1) i2 i1, mu 1 i2 i1) else (0, 0)
def pdQ (i1 j1 j2 : Int) : Int × Int := if 0 < j2 then (mu (-1) j2 j1, mu 1 j2 j1) else if j2 < 0 ∧ 0 < i1 then (mu (-1) j2 i1, mu 1 j2 i1) else (0, 0)
def dvd (i1 j1 i2 j2 : Int) (i j : Int) : Int × Int :=
  if j1 ≤ 0 then ((M : Int), -(M : Int)) else ctO (!decide (i2 ≤ 0 ∧ 0 ≤ j2)) i j (pdP i1 j1 i2).1 (pdP i1 j1 i2).2 (pdQ i1 j1 j2).1 (pdQ i1 j1 j2).2
theorem fl_neg_lt {j : Int} (h : j < 0) : fl j < 0 := by have := fl_lt_iff.2 h; rwa [fl_zero] at this
theorem mu_prb {a b : Int} (ha : -(M : Int) ≤ a ∧ a ≤ M) (hb : 0 < b ∧ b ≤ M) (na : a ≠ 0) : mu (-1) a b = dn (prb a b).1 (prb a b).2.1 ∧ mu 1 a b = up (prb a b).1 (prb a b).2.1 := by
  have hM : (M : Int) = 9218868437227405312 := rfl
  unfold prb mu
  rw [if_neg na, if_neg (show ¬ b = 0 by omega)]
  by_cases h : a = M ∨ a = -(M : Int) ∨ b = M ∨ b = -(M : Int)
  · have h2 : es a ≠ 0 ∨ es b ≠ 0 := by
      rcases h with h | h | h | h
      · left; rw [h, es_max]; omega
      · left; rw [h, es_min]; omega
      · right; rw [h, es_max]; omega
      · omega
    rw [if_pos h, if_pos h, if_pos h2]
    rw [decide_eq_false (show ¬ b < 0 by omega)]
    by_cases h3 : 0 < a
    · rw [decide_eq_false (show ¬ a < 0 by omega), if_pos h3]
      have d1 : (M : Int) = dn 1 0 := by unfold dn; rw [if_neg (by omega)]; omega
      have u1 : (M : Int) = up 1 0 := by unfold up; rw [if_neg (by omega)]; omega
      exact ⟨d1, u1⟩
    · rw [decide_eq_true (show a < 0 by omega), if_neg h3]
      have d1 : -(M : Int) = dn (-1) 0 := by unfold dn; rw [if_neg (by omega)]; omega
      have u1 : -(M : Int) = up (-1) 0 := by unfold up; rw [if_neg (by omega)]; omega
      exact ⟨d1, u1⟩
  · have h2 : ¬ (es a ≠ 0 ∨ es b ≠ 0) := by
      rw [es_mid (by omega) (by omega), es_mid (by omega) (by omega)]; omega
    rw [if_neg h, if_neg h, if_neg h2]
    exact ⟨rfl, rfl⟩
theorem prb_kind {a b : Int} (hb : 0 ≤ b) : (a = 0 ∧ prb a b = (0, 0, false)) ∨ (a ≠ 0 ∧ b = 0 ∧ prb a b = (0, 0, true)) ∨ (a ≠ 0 ∧ 0 < b ∧ (es a ≠ 0 ∨ es b ≠ 0) ∧ prb a b = ((if 0 < a then 1 else -1), 0, true)) ∨ (a ≠ 0 ∧ 0 < b ∧ es a = 0 ∧ es b = 0 ∧ prb a b = (0, fl a * fl b, false)) := by
  unfold prb
  by_cases h : a = 0
  · exact .inl ⟨h, if_pos h⟩
  · rw [if_neg h]
    by_cases h2 : b = 0
    · exact .inr (.inl ⟨h, h2, if_pos h2⟩)
    · rw [if_neg h2]
      by_cases h3 : es a ≠ 0 ∨ es b ≠ 0
      · exact .inr (.inr (.inl ⟨h, by omega, h3, if_pos h3⟩))
      · exact .inr (.inr (.inr ⟨h, by omega, by omega, by omega, if_neg h3⟩))
theorem prb_val {a b : Int} (h : (prb a b).1 = 0) : (prb a b).2.1 = fl a * fl b := by
  revert h
  unfold prb
  by_cases h1 : a = 0
  · subst h1; rw [if_pos rfl, fl_zero]; intro _; grind
  · rw [if_neg h1]
    by_cases h2 : b = 0
    · subst h2; rw [if_pos rfl, fl_zero]; intro _; grind
    · rw [if_neg h2]
      by_cases h3 : es a ≠ 0 ∨ es b ≠ 0
      · rw [if_pos h3]
        intro h
        exfalso
        dsimp only at h
        split at h <;> omega
      · rw [if_neg h3]; intro _; rfl
theorem mul_mono_r {a b c : Rat} (h : a ≤ b) (hc : 0 ≤ c) : a * c ≤ b * c := by
  by_cases h0 : c = 0
  · subst h0; grind
  · exact (mul_le_pos (by grind)).2 h
theorem mul_pos2 {a b : Rat} (ha : 0 < a) (hb : 0 < b) : 0 < a * b := by
  have h := (mul_le_pos (a := a * b) (b := 0) hb)
  have h2 := (mul_le_pos (a := a) (b := 0) hb)
  by_cases c : a * b ≤ 0
  · exfalso
    have := h2.1 (by grind)
    grind
  · grind
theorem vdA_kind {i1 j1 i2 : Int} (h1 : Ne i1 j1) (p1 : 0 < j1) (h2 : i2 < M) :
    ((vdA i1 j1 i2).1 = 0 ∨ (vdA i1 j1 i2).1 = -1) ∧ ((vdA i1 j1 i2).2.2 = true → (vdA i1 j1 i2).1 = -1 ∨ (vdA i1 j1 i2).1 = 0 ∧ (vdA i1 j1 i2).2.1 = 0) := by
  have hM : (M : Int) = 9218868437227405312 := rfl
  unfold Ne at h1
  unfold vdA
  by_cases h : 0 < i2
  · rw [if_pos h]
    rcases prb_kind (a := i2) (b := max i1 0) (by omega) with ⟨k, e⟩ | ⟨-, k, e⟩ | ⟨-, k, k2, e⟩ | ⟨-, k, k2, k3, e⟩
    · omega
    · rw [e]; exact ⟨.inl rfl, fun _ => .inr ⟨rfl, rfl⟩⟩
    · exfalso
      rcases k2 with k2 | k2
      · exact k2 (es_mid (by omega) (by omega))
      · exact k2 (es_mid (by omega) (by omega))
    · rw [e]; exact ⟨.inl rfl, fun h => by cases h⟩
  · rw [if_neg h]
    rcases prb_kind (a := i2) (b := j1) (by omega) with ⟨k, e⟩ | ⟨-, k, e⟩ | ⟨-, k, k2, e⟩ | ⟨-, k, k2, k3, e⟩
    · rw [e]; exact ⟨.inl rfl, fun h => by cases h⟩
    · omega
    · rw [e, if_neg h]; exact ⟨.inr rfl, fun _ => .inl rfl⟩
    · rw [e]; exact ⟨.inl rfl, fun h => by cases h⟩
theorem vdB_kind {i1 j1 j2 : Int} (h1 : Ne i1 j1) (p1 : 0 < j1) (h2 : -(M : Int) < j2) :
    ((vdB i1 j1 j2).1 = 0 ∨ (vdB i1 j1 j2).1 = 1) ∧ ((vdB i1 j1 j2).2.2 = true → (vdB i1 j1 j2).1 = 1 ∨ (vdB i1 j1 j2).1 = 0 ∧ (vdB i1 j1 j2).2.1 = 0) := by
  have hM : (M : Int) = 9218868437227405312 := rfl
  unfold Ne at h1
  unfold vdB
  by_cases h : j2 < 0
  · rw [if_pos h]
    rcases prb_kind (a := j2) (b := max i1 0) (by omega) with ⟨k, e⟩ | ⟨-, k, e⟩ | ⟨-, k, k2, e⟩ | ⟨-, k, k2, k3, e⟩
    · omega
    · rw [e]; exact ⟨.inl rfl, fun _ => .inr ⟨rfl, rfl⟩⟩
    · exfalso
      rcases k2 with k2 | k2
      · exact k2 (es_mid (by omega) (by omega))
      · exact k2 (es_mid (by omega) (by omega))
    · rw [e]; exact ⟨.inl rfl, fun h => by cases h⟩
  · rw [if_neg h]
    rcases prb_kind (a := j2) (b := j1) (by omega) with ⟨k, e⟩ | ⟨-, k, e⟩ | ⟨k0, k, k2, e⟩ | ⟨-, k, k2, k3, e⟩
    · rw [e]; exact ⟨.inl rfl, fun h => by cases h⟩
    · omega
    · rw [e, if_pos (by omega)]; exact ⟨.inr rfl, fun _ => .inl rfl⟩
    · rw [e]; exact ⟨.inl rfl, fun h => by cases h⟩
theorem vd_le {i1 j1 i2 j2 : Int} (h1 : Ne i1 j1) (h2 : Ne i2 j2) (p1 : 0 < j1) : dn (vdA i1 j1 i2).1 (vdA i1 j1 i2).2.1 ≤ up (vdB i1 j1 j2).1 (vdB i1 j1 j2).2.1 := by
  have hM : (M : Int) = 9218868437227405312 := rfl
  have n1 := h1
  have n2 := h2
  unfold Ne at n1 n2
  obtain ⟨ka, -⟩ := vdA_kind h1 p1 n2.2.2.2.1
  obtain ⟨kb, -⟩ := vdB_kind h1 p1 n2.2.2.2.2
  rcases ka with ka | ka
  · rcases kb with kb | kb
    · rw [ka, kb, dn_zero, up_zero]
      refine Int.le_trans (rndI_le _) (rndI_mono (.inr rfl) ?_)
      have ga := fl_nonneg (j := max i1 0) (by omega)
      have gb := fl_pos p1
      have gc := fl_le_iff.2 (show max i1 0 ≤ j1 by omega)
      have gd := fl_le_iff.2 n2.2.1
      revert ka kb
      unfold vdA vdB
      by_cases hi : 0 < i2
      · rw [if_pos hi, if_neg (show ¬ j2 < 0 by omega)]
        intro ka kb
        rw [prb_val ka, prb_val kb]
        have ci := fl_pos hi
        have m1 := mul_mono_r (c := fl i2) gc (by grind)
        have m2 := mul_mono_r (c := fl j1) gd (by grind)
        grind
      · rw [if_neg hi]
        have ci : fl i2 ≤ 0 := by have := fl_le_iff.2 (show i2 ≤ 0 by omega); rwa [fl_zero] at this
        by_cases hj : j2 < 0
        · rw [if_pos hj]
          intro ka kb
          rw [prb_val ka, prb_val kb]
          have cj : fl j2 ≤ 0 := by have := fl_le_iff.2 (show j2 ≤ 0 by omega); rwa [fl_zero] at this
          have m1 := mul_mono_r (c := -fl j2) gc (by grind)
          have m2 := mul_mono_r (c := fl j1) gd (by grind)
          grind
        · rw [if_neg hj]
          intro ka kb
          rw [prb_val ka, prb_val kb]
          have m2 := mul_mono_r (c := fl j1) gd (by grind)
          exact m2
    · rw [kb]
      have := dn_lt (s := (vdA i1 j1 i2).1) (x := (vdA i1 j1 i2).2.1) (.inl ka)
      unfold up
      rw [if_neg (by omega)]; omega
  · rw [ka]
    unfold dn
    rw [if_neg (by omega)]
    rcases kb with kb | kb
    · rw [kb, up_zero]
      have := rndI_up (vdB i1 j1 j2).2.1
      omega
    · unfold up
      rw [kb, if_neg (by omega)]; omega
theorem FV_iv {i1 j1 i2 j2 : Int} (h1 : Ne i1 j1) (h2 : Iv i2 j2) (i j : Int) (hx : Iv i j) : Iv (FV i1 j1 i2 j2 i j).1 (FV i1 j1 i2 j2 i j).2 := by
  unfold FV
  by_cases h : j1 ≤ 0 ∨ j2 < i2
  · rw [if_pos h]; exact Iv.none
  · rw [if_neg h]
    have n2 := ne_or h2 (by omega)
    have n2' := n2
    unfold Ne at n2'
    exact pf_iv (vdA_kind h1 (by omega) (by omega)).1 (vdB_kind h1 (by omega) (by omega)).1 (vd_le h1 n2 (by omega)) i j hx
theorem dvd_FV {i1 j1 i2 j2 i j : Int} (h1 : Ne i1 j1) (h2 : Ne i2 j2) (hx : Ne i j) : dvd i1 j1 i2 j2 i j = FV i1 j1 i2 j2 i j := by
  have hM : (M : Int) = 9218868437227405312 := rfl
  have n1 := h1
  have n2 := h2
  unfold Ne at n1 n2
  unfold dvd FV
  by_cases h : j1 ≤ 0
  · rw [if_pos h, if_pos (.inl h)]
  · rw [if_neg h, if_neg (by omega)]
    have z1 := rndI_zero (d := -1) (.inl rfl)
    have z2 := rndI_zero (d := 1) (.inr rfl)
    have eA : pdP i1 j1 i2 = (dn (vdA i1 j1 i2).1 (vdA i1 j1 i2).2.1, up (vdA i1 j1 i2).1 (vdA i1 j1 i2).2.1) := by
      unfold pdP vdA
      by_cases a : i2 < 0
      · rw [if_pos a, if_neg (show ¬ 0 < i2 by omega)]
        have m := mu_prb (a := i2) (b := j1) (by omega) (by omega) (by omega)
        rw [m.1, m.2]
      · rw [if_neg a]
        by_cases c : 0 < i2
        · rw [if_pos c]
          by_cases f : 0 < i1
          · rw [if_pos ⟨c, f⟩, show max i1 0 = i1 from by omega]
            have m := mu_prb (a := i2) (b := i1) (by omega) (by omega) (by omega)
            rw [m.1, m.2]
          · rw [if_neg (by omega), show max i1 0 = 0 from by omega]
            have e : prb i2 0 = (0, 0, true) := by unfold prb; rw [if_neg (by omega), if_pos rfl]
            rw [e, dn_zero, up_zero, z1, z2]
        · rw [if_neg (by omega), if_neg c, show i2 = 0 from by omega]
          have e : prb 0 j1 = (0, 0, false) := by unfold prb; rw [if_pos rfl]
          rw [e, dn_zero, up_zero, z1, z2]
    have eB : pdQ i1 j1 j2 = (dn (vdB i1 j1 j2).1 (vdB i1 j1 j2).2.1, up (vdB i1 j1 j2).1 (vdB i1 j1 j2).2.1) := by
      unfold pdQ vdB
      by_cases a : 0 < j2
      · rw [if_pos a, if_neg (show ¬ j2 < 0 by omega)]
        have m := mu_prb (a := j2) (b := j1) (by omega) (by omega) (by omega)
        rw [m.1, m.2]
      · rw [if_neg a]
        by_cases c : j2 < 0
        · rw [if_pos c]
          by_cases f : 0 < i1
          · rw [if_pos ⟨c, f⟩, show max i1 0 = i1 from by omega]
            have m := mu_prb (a := j2) (b := i1) (by omega) (by omega) (by omega)
            rw [m.1, m.2]
          · rw [if_neg (by omega), show max i1 0 = 0 from by omega]
            have e : prb j2 0 = (0, 0, true) := by unfold prb; rw [if_neg (by omega), if_pos rfl]
            rw [e, dn_zero, up_zero, z1, z2]
        · rw [if_neg (by omega), if_neg c, show j2 = 0 from by omega]
          have e : prb 0 j1 = (0, 0, false) := by unfold prb; rw [if_pos rfl]
          rw [e, dn_zero, up_zero, z1, z2]
    rw [eA, eB]
    obtain ⟨ka, wa⟩ := vdA_kind h1 (by omega) n2.2.2.2.1
    obtain ⟨kb, wb⟩ := vdB_kind h1 (by omega) n2.2.2.2.2
    have hop : (!decide (i2 ≤ 0 ∧ 0 ≤ j2)) = true ↔ (0 < i2 ∨ j2 < 0) := by simp <;> omega
    refine ct_tail hx ka kb wa wb ?_ ?_
    · rw [hop]
      unfold vdA
      by_cases a : 0 < i2
      · rw [if_pos a]
        by_cases f : 0 < i1
        · have m := prb_kind (a := i2) (b := max i1 0) (by omega)
          rw [show max i1 0 = i1 from by omega] at m ⊢
          rcases m with ⟨k, e⟩ | ⟨-, k, e⟩ | ⟨-, k, k2, e⟩ | ⟨-, k, k2, k3, e⟩
          · omega
          · omega
          · exfalso
            rcases k2 with k2 | k2
            · exact k2 (es_mid (by omega) (by omega))
            · exact k2 (es_mid (by omega) (by omega))
          · rw [e]
            have p := mul_pos2 (fl_pos a) (fl_pos f)
            have q := rndI_pos p
            constructor
            · rintro ⟨-, -, u⟩; rw [up_zero] at u; dsimp only at u; omega
            · rintro ⟨-, -, u⟩; cases u
        · rw [show max i1 0 = 0 from by omega]
          have e : prb i2 0 = (0, 0, true) := by unfold prb; rw [if_neg (by omega), if_pos rfl]
          rw [e]
          exact ⟨fun _ => ⟨rfl, rfl, rfl⟩, fun _ => ⟨.inl a, by rw [dn_zero]; exact z1, by rw [up_zero]; exact z2⟩⟩
      · rw [if_neg a]
        rcases prb_kind (a := i2) (b := j1) (by omega) with ⟨k, e⟩ | ⟨-, k, e⟩ | ⟨k0, k, k2, e⟩ | ⟨k0, k, k2, k3, e⟩
        · rw [e]
          constructor
          · rintro ⟨u, -⟩; omega
          · rintro ⟨-, -, u⟩; cases u
        · omega
        · rw [e, if_neg a]
          constructor
          · rintro ⟨-, u, -⟩; unfold dn at u; rw [if_neg (by omega)] at u; omega
          · rintro ⟨u, -⟩; omega
        · rw [e]
          constructor
          · rintro ⟨-, u, -⟩
            have p := mul_pos2 (a := -fl i2) (by have := fl_neg_lt (show i2 < 0 by omega); grind) (fl_pos k)
            have q := rndI_neg' (x := fl i2 * fl j1) (by grind)
            rw [dn_zero] at u; dsimp only at u; omega
          · rintro ⟨-, -, u⟩; cases u
    · rw [hop]
      unfold vdB
      by_cases a : j2 < 0
      · rw [if_pos a]
        by_cases f : 0 < i1
        · have m := prb_kind (a := j2) (b := max i1 0) (by omega)
          rw [show max i1 0 = i1 from by omega] at m ⊢
          rcases m with ⟨k, e⟩ | ⟨-, k, e⟩ | ⟨-, k, k2, e⟩ | ⟨-, k, k2, k3, e⟩
          · omega
          · omega
          · exfalso
            rcases k2 with k2 | k2
            · exact k2 (es_mid (by omega) (by omega))
            · exact k2 (es_mid (by omega) (by omega))
          · rw [e]
            have p := mul_pos2 (a := -fl j2) (by have := fl_neg_lt a; grind) (fl_pos f)
            have q := rndI_neg' (x := fl j2 * fl i1) (by grind)
            constructor
            · rintro ⟨-, u, -⟩; rw [dn_zero] at u; dsimp only at u; omega
            · rintro ⟨-, -, u⟩; cases u
        · rw [show max i1 0 = 0 from by omega]
          have e : prb j2 0 = (0, 0, true) := by unfold prb; rw [if_neg (by omega), if_pos rfl]
          rw [e]
          exact ⟨fun _ => ⟨rfl, rfl, rfl⟩, fun _ => ⟨.inr a, by rw [dn_zero]; exact z1, by rw [up_zero]; exact z2⟩⟩
      · rw [if_neg a]
        rcases prb_kind (a := j2) (b := j1) (by omega) with ⟨k, e⟩ | ⟨-, k, e⟩ | ⟨k0, k, k2, e⟩ | ⟨k0, k, k2, k3, e⟩
        · rw [e]
          constructor
          · rintro ⟨u, -⟩; omega
          · rintro ⟨-, -, u⟩; cases u
        · omega
        · rw [e, if_pos (show 0 < j2 by omega)]
          constructor
          · rintro ⟨-, u, -⟩; unfold dn at u; rw [if_neg (by omega)] at u; omega
          · rintro ⟨u, -⟩; omega
        · rw [e]
          constructor
          · rintro ⟨-, -, u⟩
            have q := rndI_pos (mul_pos2 (fl_pos (show 0 < j2 by omega)) (fl_pos k))
            rw [up_zero] at u; dsimp only at u; omega
          · rintro ⟨-, -, u⟩; cases u
end Go.Proofs.YthlmlmfebpjgdaaGreatDoor

namespace Go.Proofs.YthlmlmfebpjgdaaGreatDoor
open Go.RowKit
theorem mu_rng {d a b : Int} (hd : d = -1 ∨ d = 1) : -(M : Int) ≤ mu d a b ∧ mu d a b ≤ M := by
  have hM : (M : Int) = 9218868437227405312 := rfl
  unfold mu
  have h1 := rndI_down (fl a * fl b)
  have h2 := rndI_up (fl a * fl b)
  split
  · split <;> omega
  · rcases hd with rfl | rfl <;> omega
theorem product_any (a b : Int) (w : World) (ha : -(M : Int) ≤ a ∧ a ≤ M) (hb : -(M : Int) ≤ b ∧ b ≤ M) (na : a ≠ 0) (nb : b ≠ 0) :
    Calls Tryz.prog 78 #[.float .f64 (pat a), .float .f64 (pat b)] w fun e w' => e = .returned (.agg #[.float .f64 (pat (mu (-1) a b)), .float .f64 (pat (mu 1 a b))]) ∧ Below w.heap.size w w' :=
  product_walk _ _ _ _ w (fun W => rmul_pat (-1) a b W (.inl rfl) ha hb na nb) (fun W => rmul_pat 1 a b W (.inr rfl) ha hb na nb)
theorem dividend_any (i1 j1 i2 j2 i j : Int) (w : World) (h1 : Ne i1 j1) (h2 : Ne i2 j2) (hx : Ne i j) :
    Calls Tryz.prog 86 #[.agg #[.float .f64 (pat i1), .float .f64 (pat j1)], .agg #[.float .f64 (pat i2), .float .f64 (pat j2)], .agg #[.float .f64 (pat i), .float .f64 (pat j)]] w fun e w' =>
      e = .returned (.agg #[.float .f64 (pat (FV i1 j1 i2 j2 i j).1), .float .f64 (pat (FV i1 j1 i2 j2 i j).2)]) ∧ Below w.heap.size w w' := by
  have hM : (M : Int) = 9218868437227405312 := rfl
  rw [← dvd_FV h1 h2 hx]
  have r1 := h1.iv.lo
  have r2 := h1.iv.hi
  have r3 := h2.iv.lo
  have r4 := h2.iv.hi
  unfold dvd
  by_cases h : j1 ≤ 0
  · rw [if_pos h, pat_max, pat_min]
    refine dividend_none _ _ _ _ _ _ w ?_
    by_cases h0 : j1 = 0
    · exact .inl (ord0_eq h0)
    · exact .inr (ord0_lt r2 (by omega))
  · rw [if_neg h]
    have hmx := fun W ts t => run_maxf r1 (show -(M : Int) ≤ 0 ∧ (0 : Int) ≤ M by omega) W ts t
    rw [pat_zero] at hmx
    have rF : -(M : Int) ≤ max i1 0 ∧ max i1 0 ≤ M := by omega
    have gP : (-(M : Int) ≤ (pdP i1 j1 i2).1 ∧ (pdP i1 j1 i2).1 ≤ M) ∧ (-(M : Int) ≤ (pdP i1 j1 i2).2 ∧ (pdP i1 j1 i2).2 ≤ M) := by
      have a1 := mu_rng (d := -1) (a := i2) (b := j1) (.inl rfl)
      have a2 := mu_rng (d := 1) (a := i2) (b := j1) (.inr rfl)
      have a3 := mu_rng (d := -1) (a := i2) (b := i1) (.inl rfl)
      have a4 := mu_rng (d := 1) (a := i2) (b := i1) (.inr rfl)
      unfold pdP
      split
      · exact ⟨a1, a2⟩
      · split
        · exact ⟨a3, a4⟩
        · dsimp only; omega
    have gQ : (-(M : Int) ≤ (pdQ i1 j1 j2).1 ∧ (pdQ i1 j1 j2).1 ≤ M) ∧ (-(M : Int) ≤ (pdQ i1 j1 j2).2 ∧ (pdQ i1 j1 j2).2 ≤ M) := by
      have a1 := mu_rng (d := -1) (a := j2) (b := j1) (.inl rfl)
      have a2 := mu_rng (d := 1) (a := j2) (b := j1) (.inr rfl)
      have a3 := mu_rng (d := -1) (a := j2) (b := i1) (.inl rfl)
      have a4 := mu_rng (d := 1) (a := j2) (b := i1) (.inr rfl)
      unfold pdQ
      split
      · exact ⟨a1, a2⟩
      · split
        · exact ⟨a3, a4⟩
        · dsimp only; omega
    refine dividend_walk _ _ _ _ _ _ (pat (max i1 0)) (pat (pdP i1 j1 i2).1) (pat (pdP i1 j1 i2).2) (pat (pdQ i1 j1 j2).1) (pat (pdQ i1 j1 j2).2) _ _ (compare (max i1 0) 0) (compare i2 0) (compare j2 0) _ w (ord0_gt r2 (by omega)) hmx (ord0 rF) (ord0 r3) (ord0 r4) ?_ ?_ (fun W => has_any i2 j2 W r3 r4) (fun W => rcut2_any _ i j _ _ _ _ W hx.iv.lo hx.iv.hi gP.1 gP.2 gQ.1 gQ.2)
    · by_cases a : i2 < 0
      · have e : pdP i1 j1 i2 = (mu (-1) i2 j1, mu 1 i2 j1) := if_pos a
        rw [e]
        exact .inl ⟨Int.compare_eq_lt.2 a, fun W => product_any i2 j1 W r3 r2 (by omega) (by omega)⟩
      · by_cases c : 0 < i2 ∧ 0 < i1
        · have e : pdP i1 j1 i2 = (mu (-1) i2 i1, mu 1 i2 i1) := by unfold pdP; rw [if_neg a, if_pos c]
          rw [e, show max i1 0 = i1 from by omega]
          exact .inr (.inl ⟨Int.compare_eq_gt.2 c.1, Int.compare_eq_gt.2 c.2, fun W => product_any i2 i1 W r3 r1 (by omega) (by omega)⟩)
        · have e : pdP i1 j1 i2 = (0, 0) := by unfold pdP; rw [if_neg a, if_neg c]
          rw [e]
          refine .inr (.inr ⟨?_, pat_zero, pat_zero⟩)
          by_cases z : i2 = 0
          · exact .inl (Int.compare_eq_eq.2 z)
          · exact .inr ⟨Int.compare_eq_gt.2 (by omega), Int.compare_eq_eq.2 (by omega)⟩
    · by_cases a : 0 < j2
      · have e : pdQ i1 j1 j2 = (mu (-1) j2 j1, mu 1 j2 j1) := if_pos a
        rw [e]
        exact .inl ⟨Int.compare_eq_gt.2 a, fun W => product_any j2 j1 W r4 r2 (by omega) (by omega)⟩
      · by_cases c : j2 < 0 ∧ 0 < i1
        · have e : pdQ i1 j1 j2 = (mu (-1) j2 i1, mu 1 j2 i1) := by unfold pdQ; rw [if_neg a, if_pos c]
          rw [e, show max i1 0 = i1 from by omega]
          exact .inr (.inl ⟨Int.compare_eq_lt.2 c.1, Int.compare_eq_gt.2 c.2, fun W => product_any j2 i1 W r4 r1 (by omega) (by omega)⟩)
        · have e : pdQ i1 j1 j2 = (0, 0) := by unfold pdQ; rw [if_neg a, if_neg c]
          rw [e]
          refine .inr (.inr ⟨?_, pat_zero, pat_zero⟩)
          by_cases z : j2 = 0
          · exact .inl (Int.compare_eq_eq.2 z)
          · exact .inr ⟨Int.compare_eq_lt.2 (by omega), Int.compare_eq_eq.2 (by omega)⟩
def dr1 (i1 j1 i2 j2 i j : Int) : Int × Int :=
  if j1 < i1 ∨ j2 < i2 ∨ j < i then ((M : Int), -(M : Int))
  else (min (FV i1 j1 i2 j2 i j).1 (-(FV (-j1) (-i1) i2 j2 (-j) (-i)).2), max (FV i1 j1 i2 j2 i j).2 (-(FV (-j1) (-i1) i2 j2 (-j) (-i)).1))
theorem divrev1_any (b1 b2 c1 c2 x y : Nat) (w : World) (hb1 : b1 < 18446744073709551616) (hb2 : b2 < 18446744073709551616) (hc1 : c1 < 18446744073709551616) (hc2 : c2 < 18446744073709551616) (hx : x < 18446744073709551616) (hy : y < 18446744073709551616) :
    Calls Tryz.prog 26 #[.agg #[.float .f64 b1, .float .f64 b2], .agg #[.float .f64 c1, .float .f64 c2], .agg #[.float .f64 x, .float .f64 y]] w fun e w' =>
      e = .returned (.agg #[.float .f64 (pat (dr1 (rd b1 b2).1 (rd b1 b2).2 (rd c1 c2).1 (rd c1 c2).2 (rd x y).1 (rd x y).2).1), .float .f64 (pat (dr1 (rd b1 b2).1 (rd b1 b2).2 (rd c1 c2).1 (rd c1 c2).2 (rd x y).1 (rd x y).2).2)]) ∧ Below w.heap.size w w' := by
  have hM : (M : Int) = 9218868437227405312 := rfl
  have v1 := rd_iv b1 b2
  have v2 := rd_iv c1 c2
  have v3 := rd_iv x y
  have t1 := fun W => readf b1 b2 W hb1 hb2
  have t2 := fun W => readf c1 c2 W hc1 hc2
  have t3 := fun W => readf x y W hx hy
  obtain ⟨⟨i1, j1⟩, r1⟩ : ∃ z, rd b1 b2 = z := ⟨_, rfl⟩
  obtain ⟨⟨i2, j2⟩, r2⟩ : ∃ z, rd c1 c2 = z := ⟨_, rfl⟩
  obtain ⟨⟨i3, j3⟩, r3⟩ : ∃ z, rd x y = z := ⟨_, rfl⟩
  rw [r1] at v1 t1
  rw [r2] at v2 t2
  rw [r3] at v3 t3
  rw [r1, r2, r3]
  dsimp only at *
  have m1 := em_idx v1
  have m2 := em_idx v2
  have m3 := em_idx v3
  unfold dr1
  by_cases hno : j1 < i1 ∨ j2 < i2 ∨ j3 < i3
  · rw [if_pos hno, pat_max, pat_min]
    exact divrev1_none _ _ _ _ _ _ _ _ _ _ _ _ _ _ _ w t1 m1 t2 m2 t3 m3 (by simp; omega)
  · rw [if_neg hno]
    have hnn : (decide (j1 < i1) || decide (j2 < i2) || decide (j3 < i3)) = false := by simp; omega
    have n1 := ne_or v1 (by omega)
    have n2 := ne_or v2 (by omega)
    have n3 := ne_or v3 (by omega)
    have f1 := FV_iv n1 v2 i3 j3 v3
    have f2 := FV_iv n1.neg v2 (-j3) (-i3) v3.negg
    exact divrev1_some _ _ _ _ _ _ _ _ _ _ _ _ _ _ _ _ _ _ _ _ _ _ _ _ _ _ _ w t1 m1 t2 m2 t3 m3 hnn (fun W => dividend_any i1 j1 i2 j2 i3 j3 W n1 n2 n3) (fun W => mirror_idx i1 j1 W v1) (fun W => mirror_idx i3 j3 W v3) (fun W => dividend_any (-j1) (-i1) i2 j2 (-j3) (-i3) W n1.neg n2 n3.neg) (fun W => mirror_idx _ _ W f2) (fun W => hullf _ _ _ _ W f1 f2.negg)
end Go.Proofs.YthlmlmfebpjgdaaGreatDoor
