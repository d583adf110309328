/-
Walks: package rev, MulPair.
Walks: package rev, product, dividend, DivRev1.
Walks: package vergeref10, power (of exponent one).
-/
import Derived.Test.YtmjkmoahkanblaaGreatPAddT
import Derived.Test.YtmjkmoahkanblaaGreatPLessT
import Derived.Deep.DeepCutAuto
import Derived.Test.YtmjkmoahkanblaaGreatM19
import Derived.Deep.CutBlock
import Derived.Test.YtmjkmoahkanblaaGreatM04
import Derived.Test.YtmjkmoahkanblaaGreatM07
import Derived.Test.YtmjkmoahkanblaaGreatM02
set_option linter.unusedSimpArgs false
set_option linter.unusedVariables false
set_option maxHeartbeats 12800000

namespace Go.Proofs.YtmjkmoahkanblaaGreat
open Go.RowKit
attribute [local go_sem] run_store_float
theorem ExI.setB {w : World} {s : Int} {g : Bool} {A : Option Addr} {n c : Nat} {E : Int} {x : Rat} (h : ExI w s g A n c E x) {r : Nat} {t : TypeId} {cs : Array Value} (hb : Blk w r t cs) (hc : NoWd cs) (i : Nat) (vs : List Value) : ExI (Proofs.YtmjkmoahkanblaaGreat.sets w r i vs) s g A n c E x :=
  h.keep fun _ hu => hu.sets hb hc i vs
theorem ExI.setsE {w W' : World} {s : Int} {g : Bool} {A : Option Addr} {n c : Nat} {E : Int} {x : Rat} (h : ExI w s g A n c E x) {r : Nat} {t : TypeId} {cs : Array Value} {i : Nat} {vs : List Value} (hb : Blk w r t cs) (hc : NoWd cs) (e : Proofs.YtmjkmoahkanblaaGreat.sets w r i vs = W') : ExI W' s g A n c E x := e ▸ h.setB hb hc i vs
theorem KeepN.blk {G n r : Nat} {t : TypeId} {cs : Array Value} {w w' : World} (h : KeepN G n w w') (hr : Blk w r t cs) (h0 : r < G ∨ G + n ≤ r) : Blk w' r t cs := (h.block r hr.lt h0).trans hr
end Go.Proofs.YtmjkmoahkanblaaGreat

namespace Go.Proofs.YtmjkmoahkanblaaGreat
open Go.RowKit
attribute [local go_sem] run_store_float
set_option maxRecDepth 8000 in
theorem product_walk (x y p1 p2 : Nat) (w : World) (h1 : ∀ W, Calls Tryz.prog 220 #[.int .i64 (-1), .float .f64 x, .float .f64 y] W fun e w' => e = .returned (.float .f64 p1) ∧ Below W.heap.size W w') (h2 : ∀ W, Calls Tryz.prog 220 #[.int .i64 1, .float .f64 x, .float .f64 y] W fun e w' => e = .returned (.float .f64 p2) ∧ Below W.heap.size W w') :
    Calls Tryz.prog 172 #[.float .f64 x, .float .f64 y] w fun e w' => e = .returned (.agg #[.float .f64 p1, .float .f64 p2]) ∧ Below w.heap.size w w' := by
  have H1 := Lib.hid h1
  have H2 := Lib.hid h2
  clear h1 h2
  have LL := li1 w #[.float .f64 0, .float .f64 0] 56
  go_enter Tryz.func172, Tryz.ntmps172
  go_wp2_with fail
  refine (H1.out _).mono ?_
  rintro e wk ⟨rfl, hb⟩
  replace LL := stL LL hb
  clear hb
  go_wp2_with fail
  refine (H2.out _).mono ?_
  rintro e wk ⟨rfl, hb⟩
  replace LL := stL LL hb
  clear hb
  replace LL := Lib.hid (LL.out.loose 0 rfl rfl)
  simp only [List.eraseIdx, List.size_toArray, List.length_cons, List.length_nil, Nat.zero_add, Nat.reduceAdd] at LL
  obtain ⟨ha4_0, hf4_0, ha4_1, hf4_1⟩ := (LL.out.has 0 rfl).sf2
  have LF := Lib.hid (LL.out.write [.float .f64 p1, .float .f64 p2] rfl (by omega) (by simp <;> omega) (by simp <;> omega))
  obtain ⟨hk4_0, hk4_1⟩ := (LF.out.blk 0 rfl).c2
  simp [sets] at hk4_0 hk4_1
  clear LL
  go_wp2
  refine bodyPost_ret (v := .agg #[.float .f64 p1, .float .f64 p2]) (by simp [results, Tryz.results172, go_sem, hk4_0, hk4_1]) rfl ?_
  exact ⟨rfl, LF.out.b⟩
set_option maxRecDepth 8000 in
theorem dividend_none (B1 B2 C1 C2 x1 x2 : Nat) (w : World) (h : FloatKind.f64.format.order B2 0 = some .eq ∨ FloatKind.f64.format.order B2 0 = some .lt) :
    Calls Tryz.prog 112 #[.agg #[.float .f64 B1, .float .f64 B2], .agg #[.float .f64 C1, .float .f64 C2], .agg #[.float .f64 x1, .float .f64 x2]] w fun e w' => e = .returned (.agg #[.float .f64 9218868437227405312, .float .f64 18442240474082181120]) ∧ Below w.heap.size w w' := by
  have HE := Lib.hid emptyf
  rcases h with h | h
  all_goals
    have LL := li4 w #[.float .f64 B1, .float .f64 B2] 29 #[.float .f64 C1, .float .f64 C2] 29 #[.float .f64 x1, .float .f64 x2] 29 #[.float .f64 0, .float .f64 0] 29
    go_enter Tryz.func112, Tryz.ntmps112
    obtain ⟨q1_0, q1_1⟩ := (LL.out.blk 0 rfl).c2
    go_wp2_with fail
    refine (HE.out _).mono ?_
    rintro e wk ⟨rfl, hb⟩
    replace LL := stL LL hb
    clear hb q1_0 q1_1 h
    replace LL := Lib.hid (LL.out.loose 3 rfl rfl)
    simp only [List.eraseIdx, List.size_toArray, List.length_cons, List.length_nil, Nat.zero_add, Nat.reduceAdd] at LL
    obtain ⟨ha6_0, hf6_0, ha6_1, hf6_1⟩ := (LL.out.has 0 rfl).sf2
    have LF := Lib.hid (LL.out.write [.float .f64 9218868437227405312, .float .f64 18442240474082181120] rfl (by omega) (by simp <;> omega) (by simp <;> omega))
    obtain ⟨hk6_0, hk6_1⟩ := (LF.out.blk 3 rfl).c2
    simp [sets] at hk6_0 hk6_1
    clear LL
    go_wp2
    refine bodyPost_ret (v := .agg #[.float .f64 9218868437227405312, .float .f64 18442240474082181120]) (by simp [results, Tryz.results112, go_sem, hk6_0, hk6_1]) rfl ?_
    exact ⟨rfl, LF.out.b⟩
set_option maxRecDepth 8000 in
theorem dividend_walk (B1 B2 C1 C2 x1 x2 F P1 P2 Q1 Q2 r1 r2 : Nat) (oF o1 o2 : Ordering) (hz : Bool) (w : World) (h1 : FloatKind.f64.format.order B2 0 = some .gt) (hm : ∀ W ts t, (Builtin.max_ ts t #[.float .f64 B1, .float .f64 0]).run Tryz.prog W = .ok (.float .f64 F) W)
    (hf : FloatKind.f64.format.order F 0 = some oF) (hc1 : FloatKind.f64.format.order C1 0 = some o1) (hc2 : FloatKind.f64.format.order C2 0 = some o2)
    (hp : (o1 = .lt ∧ ∀ W, Calls Tryz.prog 172 #[.float .f64 C1, .float .f64 B2] W fun e w' => e = .returned (.agg #[.float .f64 P1, .float .f64 P2]) ∧ Below W.heap.size W w') ∨ (o1 = .gt ∧ oF = .gt ∧ ∀ W, Calls Tryz.prog 172 #[.float .f64 C1, .float .f64 F] W fun e w' => e = .returned (.agg #[.float .f64 P1, .float .f64 P2]) ∧ Below W.heap.size W w') ∨ ((o1 = .eq ∨ o1 = .gt ∧ oF = .eq) ∧ P1 = 0 ∧ P2 = 0))
    (hq : (o2 = .gt ∧ ∀ W, Calls Tryz.prog 172 #[.float .f64 C2, .float .f64 B2] W fun e w' => e = .returned (.agg #[.float .f64 Q1, .float .f64 Q2]) ∧ Below W.heap.size W w') ∨ (o2 = .lt ∧ oF = .gt ∧ ∀ W, Calls Tryz.prog 172 #[.float .f64 C2, .float .f64 F] W fun e w' => e = .returned (.agg #[.float .f64 Q1, .float .f64 Q2]) ∧ Below W.heap.size W w') ∨ ((o2 = .eq ∨ o2 = .lt ∧ oF = .eq) ∧ Q1 = 0 ∧ Q2 = 0))
    (hh : ∀ W, Calls Tryz.prog 82 #[.agg #[.float .f64 C1, .float .f64 C2]] W fun e w' => e = .returned (.bool hz) ∧ Below W.heap.size W w') (hcut : ∀ W, Calls Tryz.prog 52 #[.agg #[.float .f64 x1, .float .f64 x2], .agg #[.float .f64 P1, .float .f64 P2], .agg #[.float .f64 Q1, .float .f64 Q2], .bool (!hz)] W fun e w' => e = .returned (.agg #[.float .f64 r1, .float .f64 r2]) ∧ Below W.heap.size W w') :
    Calls Tryz.prog 112 #[.agg #[.float .f64 B1, .float .f64 B2], .agg #[.float .f64 C1, .float .f64 C2], .agg #[.float .f64 x1, .float .f64 x2]] w fun e w' => e = .returned (.agg #[.float .f64 r1, .float .f64 r2]) ∧ Below w.heap.size w w' := by
  have HZ := Lib.hid fun W => at_any 0 W
  have H1 := Lib.hid h1
  have HM := Lib.hid hm
  have HF := Lib.hid hf
  have HC1 := Lib.hid hc1
  have HC2 := Lib.hid hc2
  have HP := Lib.hid hp
  have HQ := Lib.hid hq
  have HH := Lib.hid hh
  have HCUT := Lib.hid hcut
  clear h1 hm hf hc1 hc2 hp hq hh hcut
  have LL := li4 w #[.float .f64 B1, .float .f64 B2] 29 #[.float .f64 C1, .float .f64 C2] 29 #[.float .f64 x1, .float .f64 x2] 29 #[.float .f64 0, .float .f64 0] 29
  go_enter Tryz.func112, Tryz.ntmps112
  obtain ⟨q1_0, q1_1⟩ := (LL.out.blk 0 rfl).c2
  have h1 := H1.out
  go_upto_region 3 with fail
  clear h1 H1 q1_0 q1_1
  have hm := HM.out
  refine regL LL (fun hHeld => ?_)
  clear LL
  generalize World.drew _ = wk at hHeld  ⊢
  refine tk 0 ?_
  try simp only [Act.put, lay]
  refine tk 1 ?_ (hv := by intro W2 hSw; obtain ⟨q0, q1⟩ := (hSw.blk 0 rfl).c2; go_simp; (try with_reducible rfl))
  try simp only [Act.put, lay]
  refine tk 3 ?_
  try simp only [Act.put, lay]
  refine tk 4 ?_ (hv := by intro W2 hSw; obtain ⟨q0, q1⟩ := (hSw.blk 0 rfl).c2; go_simp; (try with_reducible rfl))
  try simp only [Act.put, lay]
  refine rdy 2 (fun KK hKK => ?_)
  go_simp
  refine hKK.out _ _ hHeld (fun _ => ?_)
  clear hKK KK hHeld
  rename_i hHeld
  try simp only [Act.put, lay]
  refine tk 5 ?_
  try simp only [Act.put, lay]
  refine tk 6 ?_
  try simp only [Act.put, lay]
  refine wpAnyH_done (by kernel_rfl) ?_ _
  have LL := Lib.hid hHeld
  clear hHeld
  clear hm HM
  go_wp2_with fail
  refine (HZ.out _).mono ?_
  rintro e wk ⟨rfl, hb⟩
  replace LL := stL LL hb
  clear hb
  go_wp2_with fail
  refine (HZ.out _).mono ?_
  rintro e wk ⟨rfl, hb⟩
  replace LL := stL LL hb
  clear hb
  go_upto_block 0 with fail
  have hl_j9 := LL.out.lts
  generalize hwm : World.alloc wk _ = wm
  replace LL := Lib.hid (LL.out.newE hwm)
  have hz : wm.heap.size = wk.heap.size + 1 := by rw [← hwm]; simp
  clear hwm
  generalize hwn : World.alloc wm _ = wn
  replace LL := Lib.hid (LL.out.newE hwn)
  rw [hz] at LL
  simp only [List.cons_append, List.nil_append] at LL
  simp only [List.mem_cons, List.not_mem_nil, or_false, forall_eq_or_imp, forall_eq, false_imp_iff, implies_true, and_true] at hl_j9
  clear hwn hz
  generalize wk.heap.size = j9 at LL hl_j9 ⊢
  go_cut [] (fun wx => Lies w wx [(w.heap.size, 29, #[.float .f64 B1, .float .f64 B2]), ((w.heap.size + 1), 29, #[.float .f64 C1, .float .f64 C2]), ((w.heap.size + 2), 29, #[.float .f64 x1, .float .f64 x2]), ((w.heap.size + 3), 29, #[.float .f64 0, .float .f64 0]), ((j9 + 1), 56, #[.float .f64 0, .float .f64 0]), (j9, 56, #[.float .f64 P1, .float .f64 P2])] [])
  case first =>
    rcases HP.out with ⟨e, k⟩ | ⟨e, e2, k⟩ | ⟨e | ⟨e, e2⟩, e3, e4⟩
    · skip
      subst e
      have oc := HC1.out
      obtain ⟨q2_0, q2_1⟩ := (LL.out.blk 1 rfl).c2
      have K := Lib.hid k
      clear k
      go_wp2_with fail
      refine (K.out _).mono ?_
      rintro e wk ⟨rfl, hb⟩
      replace LL := stL LL hb
      clear hb q2_0 q2_1 oc K
      obtain ⟨q3_0, q3_1⟩ := (LL.out.blk 4 rfl).c2
      have fz0 := (LL.out.blk 4 rfl).frozen 0
      have fz1 := (LL.out.blk 4 rfl).frozen 1
      go_wp2_with fail
      clear q3_0 q3_1 fz0 fz1
      replace LL := Lib.hid (LL.out.part 4 rfl 0 [.float .f64 P1, .float .f64 P2] (by omega) (by simp <;> omega) (by simp <;> omega))
      simp only [List.eraseIdx, laid, List.cons_append, List.nil_append, List.setIfInBounds_toArray, List.set_cons_zero, List.set_cons_succ, Nat.zero_add, Nat.reduceAdd] at LL
      obtain ⟨wn, hwn⟩ : ∃ X, (sets wk j9 0 [.float .f64 P1, .float .f64 P2]) = X := ⟨_, rfl⟩
      rw [hwn] at LL 
      simp only [sets, Nat.reduceAdd] at hwn
      rw [hwn]
      clear hwn
      go_meet
      case rel => exact LL.out.perm (by simp) (by simp)
    · skip
      subst e
      subst e2
      have oc := HC1.out
      have of := HF.out
      obtain ⟨q2_0, q2_1⟩ := (LL.out.blk 1 rfl).c2
      have K := Lib.hid k
      clear k
      go_wp2_with fail
      refine (K.out _).mono ?_
      rintro e wk ⟨rfl, hb⟩
      replace LL := stL LL hb
      clear hb q2_0 q2_1 oc K of
      obtain ⟨q3_0, q3_1⟩ := (LL.out.blk 4 rfl).c2
      have fz0 := (LL.out.blk 4 rfl).frozen 0
      have fz1 := (LL.out.blk 4 rfl).frozen 1
      go_wp2_with fail
      clear q3_0 q3_1 fz0 fz1
      replace LL := Lib.hid (LL.out.part 4 rfl 0 [.float .f64 P1, .float .f64 P2] (by omega) (by simp <;> omega) (by simp <;> omega))
      simp only [List.eraseIdx, laid, List.cons_append, List.nil_append, List.setIfInBounds_toArray, List.set_cons_zero, List.set_cons_succ, Nat.zero_add, Nat.reduceAdd] at LL
      obtain ⟨wn, hwn⟩ : ∃ X, (sets wk j9 0 [.float .f64 P1, .float .f64 P2]) = X := ⟨_, rfl⟩
      rw [hwn] at LL 
      simp only [sets, Nat.reduceAdd] at hwn
      rw [hwn]
      clear hwn
      go_meet
      case rel => exact LL.out.perm (by simp) (by simp)
    · skip
      subst e
      subst e3
      subst e4
      have oc := HC1.out
      obtain ⟨q2_0, q2_1⟩ := (LL.out.blk 1 rfl).c2
      go_wp2_with fail
      go_meet
      case rel => exact LL.out.perm (by simp) (by simp)
    · skip
      subst e
      subst e2
      subst e3
      subst e4
      have oc := HC1.out
      have of := HF.out
      obtain ⟨q2_0, q2_1⟩ := (LL.out.blk 1 rfl).c2
      go_wp2_with fail
      go_meet
      case rel => exact LL.out.perm (by simp) (by simp)
  case rest =>
  have hcl := hcut
  rename World => wx
  clear hcut LL HP HC1
  have LL := Lib.hid hcl
  clear hcl
  go_upto_block 1 with fail
  go_cut [] (fun wx => Lies w wx [(w.heap.size, 29, #[.float .f64 B1, .float .f64 B2]), ((w.heap.size + 1), 29, #[.float .f64 C1, .float .f64 C2]), ((w.heap.size + 2), 29, #[.float .f64 x1, .float .f64 x2]), ((w.heap.size + 3), 29, #[.float .f64 0, .float .f64 0]), (j9, 56, #[.float .f64 P1, .float .f64 P2]), ((j9 + 1), 56, #[.float .f64 Q1, .float .f64 Q2])] [])
  case first =>
    rcases HQ.out with ⟨e, k⟩ | ⟨e, e2, k⟩ | ⟨e | ⟨e, e2⟩, e3, e4⟩
    · skip
      subst e
      have oc := HC2.out
      obtain ⟨q2_0, q2_1⟩ := (LL.out.blk 1 rfl).c2
      have K := Lib.hid k
      clear k
      go_wp2_with fail
      refine (K.out _).mono ?_
      rintro e wk ⟨rfl, hb⟩
      replace LL := stL LL hb
      clear hb q2_0 q2_1 oc K
      obtain ⟨q3_0, q3_1⟩ := (LL.out.blk 4 rfl).c2
      have fz0 := (LL.out.blk 4 rfl).frozen 0
      have fz1 := (LL.out.blk 4 rfl).frozen 1
      go_wp2_with fail
      clear q3_0 q3_1 fz0 fz1
      replace LL := Lib.hid (LL.out.part 4 rfl 0 [.float .f64 Q1, .float .f64 Q2] (by omega) (by simp <;> omega) (by simp <;> omega))
      simp only [List.eraseIdx, laid, List.cons_append, List.nil_append, List.setIfInBounds_toArray, List.set_cons_zero, List.set_cons_succ, Nat.zero_add, Nat.reduceAdd] at LL
      obtain ⟨wn, hwn⟩ : ∃ X, (sets wk (j9 + 1) 0 [.float .f64 Q1, .float .f64 Q2]) = X := ⟨_, rfl⟩
      rw [hwn] at LL 
      simp only [sets, Nat.reduceAdd] at hwn
      rw [hwn]
      clear hwn
      go_meet
      case rel => exact LL.out.perm (by simp) (by simp)
    · skip
      subst e
      subst e2
      have oc := HC2.out
      have of := HF.out
      obtain ⟨q2_0, q2_1⟩ := (LL.out.blk 1 rfl).c2
      have K := Lib.hid k
      clear k
      go_wp2_with fail
      refine (K.out _).mono ?_
      rintro e wk ⟨rfl, hb⟩
      replace LL := stL LL hb
      clear hb q2_0 q2_1 oc K of
      obtain ⟨q3_0, q3_1⟩ := (LL.out.blk 4 rfl).c2
      have fz0 := (LL.out.blk 4 rfl).frozen 0
      have fz1 := (LL.out.blk 4 rfl).frozen 1
      go_wp2_with fail
      clear q3_0 q3_1 fz0 fz1
      replace LL := Lib.hid (LL.out.part 4 rfl 0 [.float .f64 Q1, .float .f64 Q2] (by omega) (by simp <;> omega) (by simp <;> omega))
      simp only [List.eraseIdx, laid, List.cons_append, List.nil_append, List.setIfInBounds_toArray, List.set_cons_zero, List.set_cons_succ, Nat.zero_add, Nat.reduceAdd] at LL
      obtain ⟨wn, hwn⟩ : ∃ X, (sets wk (j9 + 1) 0 [.float .f64 Q1, .float .f64 Q2]) = X := ⟨_, rfl⟩
      rw [hwn] at LL 
      simp only [sets, Nat.reduceAdd] at hwn
      rw [hwn]
      clear hwn
      go_meet
      case rel => exact LL.out.perm (by simp) (by simp)
    · skip
      subst e
      subst e3
      subst e4
      have oc := HC2.out
      obtain ⟨q2_0, q2_1⟩ := (LL.out.blk 1 rfl).c2
      go_wp2_with fail
      go_meet
      case rel => exact LL.out.perm (by simp) (by simp)
    · skip
      subst e
      subst e2
      subst e3
      subst e4
      have oc := HC2.out
      have of := HF.out
      obtain ⟨q2_0, q2_1⟩ := (LL.out.blk 1 rfl).c2
      go_wp2_with fail
      go_meet
      case rel => exact LL.out.perm (by simp) (by simp)
  case rest =>
  have hcl := hcut
  rename World => wx
  clear hcut LL HQ HC2
  have LL := Lib.hid hcl
  clear hcl
  clear HF
  go_wp2_with fail
  replace LL := Lib.hid (LL.out.loose 3 rfl rfl)
  simp only [List.eraseIdx, List.size_toArray, List.length_cons, List.length_nil, Nat.zero_add, Nat.reduceAdd] at LL
  refine regL LL (fun hHeld => ?_)
  clear LL
  generalize World.drew _ = wk at hHeld  ⊢
  refine tk 0 ?_ (hv := by intro W2 hSw; obtain ⟨q0, q1⟩ := (hSw.blk 2 rfl).c2; go_simp; (try with_reducible rfl))
  try simp only [Act.put, lay]
  refine tk 1 ?_ (hv := by intro W2 hSw; obtain ⟨q0, q1⟩ := (hSw.blk 3 rfl).c2; go_simp; (try with_reducible rfl))
  try simp only [Act.put, lay]
  refine tk 2 ?_ (hv := by intro W2 hSw; obtain ⟨q0, q1⟩ := (hSw.blk 4 rfl).c2; go_simp; (try with_reducible rfl))
  try simp only [Act.put, lay]
  refine tk 3 ?_ (hv := by intro W2 hSw; obtain ⟨q0, q1⟩ := (hSw.blk 1 rfl).c2; go_simp; (try with_reducible rfl))
  try simp only [Act.put, lay]
  refine rdy 4 (fun KK hKK => ?_)
  go_simp
  refine (HH.out _).mono ?_
  rintro e wk ⟨rfl, hb1⟩
  go_wp2_with fail
  refine hKK.out _ _ (hHeld.keep hb1) (fun _ => ?_)
  clear hKK KK hHeld
  rename_i hHeld
  try simp only [Act.put, lay]
  clear hb1
  refine tk 5 ?_
  try simp only [Act.put, lay]
  refine rdy 6 (fun KK hKK => ?_)
  go_simp
  refine (HCUT.out _).mono ?_
  rintro e wk ⟨rfl, hb2⟩
  go_wp2_with fail
  refine hKK.out _ _ (hHeld.keep hb2) (fun _ => ?_)
  clear hKK KK hHeld
  rename_i hHeld
  try simp only [Act.put, lay]
  clear hb2
  refine rdy 7 (fun KK hKK => ?_)
  obtain ⟨ha0, hf0, ha1, hf1⟩ := (hHeld.has 0 rfl).sf2
  go_simp
  have HS_0 := (hHeld.has 0 rfl).laid [.float .f64 r1, .float .f64 r2] rfl
  refine hKK.out _ _ (hHeld.over 0 rfl [.float .f64 r1, .float .f64 r2] rfl rfl (by first | omega | exact hHeld.le_of 0 rfl) (by simp <;> omega) (by simp <;> omega)) (fun _ => ?_)
  clear hKK KK hHeld
  rename_i hHeld
  try simp only [Act.put, lay]
  refine wpAnyH_done (by kernel_rfl) ?_ _
  have LB := Lib.hid hHeld.b
  clear hHeld
  obtain ⟨hk6_0, hk6_1⟩ := HS_0.c2
  clear HS_0
  simp [sets] at hk6_0 hk6_1
  go_wp2
  refine bodyPost_ret (v := .agg #[.float .f64 r1, .float .f64 r2]) (by simp [results, Tryz.results112, go_sem, hk6_0, hk6_1]) rfl ?_
  exact ⟨rfl, LB.out⟩
set_option maxRecDepth 8000 in
theorem divrev1_none (b1 b2 c1 c2 y1 y2 A1 A2 C1 C2 x1 x2 : Nat) (d1 d2 d3 : Bool) (w : World) (t1 : ∀ W, Calls Tryz.prog 119 #[.agg #[.float .f64 b1, .float .f64 b2]] W fun e w' => e = .returned (.agg #[.float .f64 A1, .float .f64 A2]) ∧ Below W.heap.size W w') (m1 : Em d1 A1 A2) (t2 : ∀ W, Calls Tryz.prog 119 #[.agg #[.float .f64 c1, .float .f64 c2]] W fun e w' => e = .returned (.agg #[.float .f64 C1, .float .f64 C2]) ∧ Below W.heap.size W w') (m2 : Em d2 C1 C2) (t3 : ∀ W, Calls Tryz.prog 119 #[.agg #[.float .f64 y1, .float .f64 y2]] W fun e w' => e = .returned (.agg #[.float .f64 x1, .float .f64 x2]) ∧ Below W.heap.size W w') (m3 : Em d3 x1 x2) (hnn : (d1 || d2 || d3) = true) :
    Calls Tryz.prog 40 #[.agg #[.float .f64 b1, .float .f64 b2], .agg #[.float .f64 c1, .float .f64 c2], .agg #[.float .f64 y1, .float .f64 y2]] w fun e w' => e = .returned (.agg #[.float .f64 9218868437227405312, .float .f64 18442240474082181120]) ∧ Below w.heap.size w w' := by
  have HE := Lib.hid emptyf
  have LL := li4 w #[.float .f64 b1, .float .f64 b2] 29 #[.float .f64 c1, .float .f64 c2] 29 #[.float .f64 y1, .float .f64 y2] 29 #[.float .f64 0, .float .f64 0] 29
  have hrow := Blk.at (W := ((((w.alloc (.cells #[.float .f64 b1, .float .f64 b2] 29)).alloc (.cells #[.float .f64 c1, .float .f64 c2] 29)).alloc (.cells #[.float .f64 y1, .float .f64 y2] 29)).alloc (.cells #[.float .f64 0, .float .f64 0] 29))) (g := w.heap.size + 1 + 1 + 1 + 1) (by simp) 51 #[.pointer (some ⟨w.heap.size, 0, none⟩), .pointer (some ⟨w.heap.size + 1, 0, none⟩), .pointer (some ⟨w.heap.size + 1 + 1, 0, none⟩)]
  have HRD := Lib.hid (read_n w.heap.size 3 (w.heap.size + 1 + 1 + 1 + 1) 3 (fun k : Nat => if k = 0 then (b1, b2) else if k = 1 then (c1, c2) else (y1, y2)) (fun k : Nat => if k = 0 then (A1, A2) else if k = 1 then (C1, C2) else (x1, x2)) (fun k : Nat => if k = 0 then d1 else if k = 1 then d2 else d3) _ (by omega) (by omega)
    (fun k hk => by match k, hk with | 0, _ => exact hrow.cell 0 | 1, _ => exact hrow.cell 1 | 2, _ => exact hrow.cell 2) (fun k hk => by match k, hk with | 0, _ => exact (LL.out.blk 0 rfl).alloc (.cells #[.pointer (some ⟨w.heap.size, 0, none⟩), .pointer (some ⟨w.heap.size + 1, 0, none⟩), .pointer (some ⟨w.heap.size + 1 + 1, 0, none⟩)] 51) | 1, _ => exact (LL.out.blk 1 rfl).alloc (.cells #[.pointer (some ⟨w.heap.size, 0, none⟩), .pointer (some ⟨w.heap.size + 1, 0, none⟩), .pointer (some ⟨w.heap.size + 1 + 1, 0, none⟩)] 51) | 2, _ => exact (LL.out.blk 2 rfl).alloc (.cells #[.pointer (some ⟨w.heap.size, 0, none⟩), .pointer (some ⟨w.heap.size + 1, 0, none⟩), .pointer (some ⟨w.heap.size + 1 + 1, 0, none⟩)] 51)) (fun k hk => by match k, hk with | 0, _ => exact t1 | 1, _ => exact t2 | 2, _ => exact t3) (fun k hk => by match k, hk with | 0, _ => exact m1 | 1, _ => exact m2 | 2, _ => exact m3))
  rw [show anyB (fun k : Nat => if k = 0 then d1 else if k = 1 then d2 else d3) 3 = (d1 || d2 || d3) from by simp [anyB], hnn] at HRD
  have LLR := Lib.hid (LL.out.alloc (.cells #[.pointer (some ⟨w.heap.size, 0, none⟩), .pointer (some ⟨w.heap.size + 1, 0, none⟩), .pointer (some ⟨w.heap.size + 1 + 1, 0, none⟩)] 51))
  have HSZ := Lib.hid (show w.heap.size ≤ ((((((w.alloc (.cells #[.float .f64 b1, .float .f64 b2] 29)).alloc (.cells #[.float .f64 c1, .float .f64 c2] 29)).alloc (.cells #[.float .f64 y1, .float .f64 y2] 29)).alloc (.cells #[.float .f64 0, .float .f64 0] 29))).alloc (.cells #[.pointer (some ⟨w.heap.size, 0, none⟩), .pointer (some ⟨w.heap.size + 1, 0, none⟩), .pointer (some ⟨w.heap.size + 1 + 1, 0, none⟩)] 51)).heap.size by simp; omega)
  clear t1 m1 t2 m2 t3 m3 hrow hnn LL
  go_enter Tryz.func40, Tryz.ntmps40
  go_wp2_with fail
  refine HRD.out.mono ?_
  rintro e wk ⟨rfl, hd, kp⟩
  have LL := Lib.hid (show Lies w wk [(w.heap.size, 29, #[.float .f64 A1, .float .f64 A2]), ((w.heap.size + 1), 29, #[.float .f64 C1, .float .f64 C2]), ((w.heap.size + 2), 29, #[.float .f64 x1, .float .f64 x2]), ((w.heap.size + 3), 29, #[.float .f64 0, .float .f64 0])] [] from ⟨kp.toBl LLR.out.b HSZ.out (Nat.le_refl _), by simp only [List.mem_cons, List.not_mem_nil, or_false, forall_eq_or_imp, forall_eq]; exact ⟨show Blk wk w.heap.size 29 #[.float .f64 A1, .float .f64 A2] from hd 0 (by omega), show Blk wk (w.heap.size + 1) 29 #[.float .f64 C1, .float .f64 C2] from hd 1 (by omega), show Blk wk (w.heap.size + 2) 29 #[.float .f64 x1, .float .f64 x2] from hd 2 (by omega), kp.blk (LLR.out.blk 3 rfl) (by omega)⟩, by simp⟩)
  clear hd kp LLR HSZ HRD
  go_wp2_with fail
  refine (HE.out _).mono ?_
  rintro e wk ⟨rfl, hb⟩
  replace LL := stL LL hb
  clear hb
  replace LL := Lib.hid (LL.out.loose 3 rfl rfl)
  simp only [List.eraseIdx, List.size_toArray, List.length_cons, List.length_nil, Nat.zero_add, Nat.reduceAdd] at LL
  obtain ⟨ha6_0, hf6_0, ha6_1, hf6_1⟩ := (LL.out.has 0 rfl).sf2
  have LF := Lib.hid (LL.out.write [.float .f64 9218868437227405312, .float .f64 18442240474082181120] rfl (by omega) (by simp <;> omega) (by simp <;> omega))
  obtain ⟨hk6_0, hk6_1⟩ := (LF.out.blk 3 rfl).c2
  simp [sets] at hk6_0 hk6_1
  clear LL
  go_wp2
  refine bodyPost_ret (v := .agg #[.float .f64 9218868437227405312, .float .f64 18442240474082181120]) (by simp [results, Tryz.results40, go_sem, hk6_0, hk6_1]) rfl ?_
  exact ⟨rfl, LF.out.b⟩
set_option maxRecDepth 8000 in
theorem divrev1_some (b1 b2 c1 c2 y1 y2 A1 A2 C1 C2 x1 x2 a1 a2 z1 z2 p1 q1 p2 q2 p3 q3 p4 q4 : Nat) (d1 d2 d3 : Bool) (w : World) (t1 : ∀ W, Calls Tryz.prog 119 #[.agg #[.float .f64 b1, .float .f64 b2]] W fun e w' => e = .returned (.agg #[.float .f64 A1, .float .f64 A2]) ∧ Below W.heap.size W w') (m1 : Em d1 A1 A2) (t2 : ∀ W, Calls Tryz.prog 119 #[.agg #[.float .f64 c1, .float .f64 c2]] W fun e w' => e = .returned (.agg #[.float .f64 C1, .float .f64 C2]) ∧ Below W.heap.size W w') (m2 : Em d2 C1 C2) (t3 : ∀ W, Calls Tryz.prog 119 #[.agg #[.float .f64 y1, .float .f64 y2]] W fun e w' => e = .returned (.agg #[.float .f64 x1, .float .f64 x2]) ∧ Below W.heap.size W w') (m3 : Em d3 x1 x2) (hnn : (d1 || d2 || d3) = false)
    (hd1 : ∀ W, Calls Tryz.prog 112 #[.agg #[.float .f64 A1, .float .f64 A2], .agg #[.float .f64 C1, .float .f64 C2], .agg #[.float .f64 x1, .float .f64 x2]] W fun e w' => e = .returned (.agg #[.float .f64 p1, .float .f64 q1]) ∧ Below W.heap.size W w') (hm1 : ∀ W, Calls Tryz.prog 59 #[.agg #[.float .f64 A1, .float .f64 A2]] W fun e w' => e = .returned (.agg #[.float .f64 a1, .float .f64 a2]) ∧ Below W.heap.size W w') (hm2 : ∀ W, Calls Tryz.prog 59 #[.agg #[.float .f64 x1, .float .f64 x2]] W fun e w' => e = .returned (.agg #[.float .f64 z1, .float .f64 z2]) ∧ Below W.heap.size W w') (hd2 : ∀ W, Calls Tryz.prog 112 #[.agg #[.float .f64 a1, .float .f64 a2], .agg #[.float .f64 C1, .float .f64 C2], .agg #[.float .f64 z1, .float .f64 z2]] W fun e w' => e = .returned (.agg #[.float .f64 p2, .float .f64 q2]) ∧ Below W.heap.size W w') (hm3 : ∀ W, Calls Tryz.prog 59 #[.agg #[.float .f64 p2, .float .f64 q2]] W fun e w' => e = .returned (.agg #[.float .f64 p3, .float .f64 q3]) ∧ Below W.heap.size W w') (hu : ∀ W, Calls Tryz.prog 111 #[.agg #[.float .f64 p1, .float .f64 q1], .agg #[.float .f64 p3, .float .f64 q3]] W fun e w' => e = .returned (.agg #[.float .f64 p4, .float .f64 q4]) ∧ Below W.heap.size W w') :
    Calls Tryz.prog 40 #[.agg #[.float .f64 b1, .float .f64 b2], .agg #[.float .f64 c1, .float .f64 c2], .agg #[.float .f64 y1, .float .f64 y2]] w fun e w' => e = .returned (.agg #[.float .f64 p4, .float .f64 q4]) ∧ Below w.heap.size w w' := by
  have HD1 := Lib.hid hd1
  have HM1 := Lib.hid hm1
  have HM2 := Lib.hid hm2
  have HD2 := Lib.hid hd2
  have HM3 := Lib.hid hm3
  have HU := Lib.hid hu
  clear hd1 hm1 hm2 hd2 hm3 hu
  have LL := li4 w #[.float .f64 b1, .float .f64 b2] 29 #[.float .f64 c1, .float .f64 c2] 29 #[.float .f64 y1, .float .f64 y2] 29 #[.float .f64 0, .float .f64 0] 29
  have hrow := Blk.at (W := ((((w.alloc (.cells #[.float .f64 b1, .float .f64 b2] 29)).alloc (.cells #[.float .f64 c1, .float .f64 c2] 29)).alloc (.cells #[.float .f64 y1, .float .f64 y2] 29)).alloc (.cells #[.float .f64 0, .float .f64 0] 29))) (g := w.heap.size + 1 + 1 + 1 + 1) (by simp) 51 #[.pointer (some ⟨w.heap.size, 0, none⟩), .pointer (some ⟨w.heap.size + 1, 0, none⟩), .pointer (some ⟨w.heap.size + 1 + 1, 0, none⟩)]
  have HRD := Lib.hid (read_n w.heap.size 3 (w.heap.size + 1 + 1 + 1 + 1) 3 (fun k : Nat => if k = 0 then (b1, b2) else if k = 1 then (c1, c2) else (y1, y2)) (fun k : Nat => if k = 0 then (A1, A2) else if k = 1 then (C1, C2) else (x1, x2)) (fun k : Nat => if k = 0 then d1 else if k = 1 then d2 else d3) _ (by omega) (by omega)
    (fun k hk => by match k, hk with | 0, _ => exact hrow.cell 0 | 1, _ => exact hrow.cell 1 | 2, _ => exact hrow.cell 2) (fun k hk => by match k, hk with | 0, _ => exact (LL.out.blk 0 rfl).alloc (.cells #[.pointer (some ⟨w.heap.size, 0, none⟩), .pointer (some ⟨w.heap.size + 1, 0, none⟩), .pointer (some ⟨w.heap.size + 1 + 1, 0, none⟩)] 51) | 1, _ => exact (LL.out.blk 1 rfl).alloc (.cells #[.pointer (some ⟨w.heap.size, 0, none⟩), .pointer (some ⟨w.heap.size + 1, 0, none⟩), .pointer (some ⟨w.heap.size + 1 + 1, 0, none⟩)] 51) | 2, _ => exact (LL.out.blk 2 rfl).alloc (.cells #[.pointer (some ⟨w.heap.size, 0, none⟩), .pointer (some ⟨w.heap.size + 1, 0, none⟩), .pointer (some ⟨w.heap.size + 1 + 1, 0, none⟩)] 51)) (fun k hk => by match k, hk with | 0, _ => exact t1 | 1, _ => exact t2 | 2, _ => exact t3) (fun k hk => by match k, hk with | 0, _ => exact m1 | 1, _ => exact m2 | 2, _ => exact m3))
  rw [show anyB (fun k : Nat => if k = 0 then d1 else if k = 1 then d2 else d3) 3 = (d1 || d2 || d3) from by simp [anyB], hnn] at HRD
  have LLR := Lib.hid (LL.out.alloc (.cells #[.pointer (some ⟨w.heap.size, 0, none⟩), .pointer (some ⟨w.heap.size + 1, 0, none⟩), .pointer (some ⟨w.heap.size + 1 + 1, 0, none⟩)] 51))
  have HSZ := Lib.hid (show w.heap.size ≤ ((((((w.alloc (.cells #[.float .f64 b1, .float .f64 b2] 29)).alloc (.cells #[.float .f64 c1, .float .f64 c2] 29)).alloc (.cells #[.float .f64 y1, .float .f64 y2] 29)).alloc (.cells #[.float .f64 0, .float .f64 0] 29))).alloc (.cells #[.pointer (some ⟨w.heap.size, 0, none⟩), .pointer (some ⟨w.heap.size + 1, 0, none⟩), .pointer (some ⟨w.heap.size + 1 + 1, 0, none⟩)] 51)).heap.size by simp; omega)
  clear t1 m1 t2 m2 t3 m3 hrow hnn LL
  go_enter Tryz.func40, Tryz.ntmps40
  go_wp2_with fail
  refine HRD.out.mono ?_
  rintro e wk ⟨rfl, hd, kp⟩
  have LL := Lib.hid (show Lies w wk [(w.heap.size, 29, #[.float .f64 A1, .float .f64 A2]), ((w.heap.size + 1), 29, #[.float .f64 C1, .float .f64 C2]), ((w.heap.size + 2), 29, #[.float .f64 x1, .float .f64 x2]), ((w.heap.size + 3), 29, #[.float .f64 0, .float .f64 0])] [] from ⟨kp.toBl LLR.out.b HSZ.out (Nat.le_refl _), by simp only [List.mem_cons, List.not_mem_nil, or_false, forall_eq_or_imp, forall_eq]; exact ⟨show Blk wk w.heap.size 29 #[.float .f64 A1, .float .f64 A2] from hd 0 (by omega), show Blk wk (w.heap.size + 1) 29 #[.float .f64 C1, .float .f64 C2] from hd 1 (by omega), show Blk wk (w.heap.size + 2) 29 #[.float .f64 x1, .float .f64 x2] from hd 2 (by omega), kp.blk (LLR.out.blk 3 rfl) (by omega)⟩, by simp⟩)
  clear hd kp LLR HSZ HRD
  go_wp2_with fail
  replace LL := Lib.hid (LL.out.loose 3 rfl rfl)
  simp only [List.eraseIdx, List.size_toArray, List.length_cons, List.length_nil, Nat.zero_add, Nat.reduceAdd] at LL
  refine regL LL (fun hHeld => ?_)
  clear LL
  generalize World.drew _ = wk at hHeld  ⊢
  refine tk 0 ?_ (hv := by intro W2 hSw; obtain ⟨q0, q1⟩ := (hSw.blk 0 rfl).c2; go_simp; (try with_reducible rfl))
  try simp only [Act.put, lay]
  refine tk 1 ?_ (hv := by intro W2 hSw; obtain ⟨q0, q1⟩ := (hSw.blk 1 rfl).c2; go_simp; (try with_reducible rfl))
  try simp only [Act.put, lay]
  refine tk 2 ?_ (hv := by intro W2 hSw; obtain ⟨q0, q1⟩ := (hSw.blk 2 rfl).c2; go_simp; (try with_reducible rfl))
  try simp only [Act.put, lay]
  refine tk 4 ?_ (hv := by intro W2 hSw; obtain ⟨q0, q1⟩ := (hSw.blk 0 rfl).c2; go_simp; (try with_reducible rfl))
  try simp only [Act.put, lay]
  refine tk 6 ?_ (hv := by intro W2 hSw; obtain ⟨q0, q1⟩ := (hSw.blk 1 rfl).c2; go_simp; (try with_reducible rfl))
  try simp only [Act.put, lay]
  refine tk 7 ?_ (hv := by intro W2 hSw; obtain ⟨q0, q1⟩ := (hSw.blk 2 rfl).c2; go_simp; (try with_reducible rfl))
  try simp only [Act.put, lay]
  refine rdy 3 (fun KK hKK => ?_)
  go_simp
  refine (HD1.out _).mono ?_
  rintro e wk ⟨rfl, hb1⟩
  go_wp2_with fail
  refine hKK.out _ _ (hHeld.keep hb1) (fun _ => ?_)
  clear hKK KK hHeld
  rename_i hHeld
  try simp only [Act.put, lay]
  clear hb1
  refine rdy 5 (fun KK hKK => ?_)
  go_simp
  refine (HM1.out _).mono ?_
  rintro e wk ⟨rfl, hb2⟩
  go_wp2_with fail
  refine hKK.out _ _ (hHeld.keep hb2) (fun _ => ?_)
  clear hKK KK hHeld
  rename_i hHeld
  try simp only [Act.put, lay]
  clear hb2
  refine rdy 8 (fun KK hKK => ?_)
  go_simp
  refine (HM2.out _).mono ?_
  rintro e wk ⟨rfl, hb3⟩
  go_wp2_with fail
  refine hKK.out _ _ (hHeld.keep hb3) (fun _ => ?_)
  clear hKK KK hHeld
  rename_i hHeld
  try simp only [Act.put, lay]
  clear hb3
  refine rdy 9 (fun KK hKK => ?_)
  go_simp
  refine (HD2.out _).mono ?_
  rintro e wk ⟨rfl, hb4⟩
  go_wp2_with fail
  refine hKK.out _ _ (hHeld.keep hb4) (fun _ => ?_)
  clear hKK KK hHeld
  rename_i hHeld
  try simp only [Act.put, lay]
  clear hb4
  refine rdy 10 (fun KK hKK => ?_)
  go_simp
  refine (HM3.out _).mono ?_
  rintro e wk ⟨rfl, hb5⟩
  go_wp2_with fail
  refine hKK.out _ _ (hHeld.keep hb5) (fun _ => ?_)
  clear hKK KK hHeld
  rename_i hHeld
  try simp only [Act.put, lay]
  clear hb5
  refine rdy 11 (fun KK hKK => ?_)
  go_simp
  refine (HU.out _).mono ?_
  rintro e wk ⟨rfl, hb6⟩
  go_wp2_with fail
  refine hKK.out _ _ (hHeld.keep hb6) (fun _ => ?_)
  clear hKK KK hHeld
  rename_i hHeld
  try simp only [Act.put, lay]
  clear hb6
  refine rdy 12 (fun KK hKK => ?_)
  obtain ⟨ha0, hf0, ha1, hf1⟩ := (hHeld.has 0 rfl).sf2
  go_simp
  have HS_0 := (hHeld.has 0 rfl).laid [.float .f64 p4, .float .f64 q4] rfl
  refine hKK.out _ _ (hHeld.over 0 rfl [.float .f64 p4, .float .f64 q4] rfl rfl (by first | omega | exact hHeld.le_of 0 rfl) (by simp <;> omega) (by simp <;> omega)) (fun _ => ?_)
  clear hKK KK hHeld
  rename_i hHeld
  try simp only [Act.put, lay]
  refine wpAnyH_done (by kernel_rfl) ?_ _
  have LB := Lib.hid hHeld.b
  clear hHeld
  obtain ⟨hk6_0, hk6_1⟩ := HS_0.c2
  clear HS_0
  simp [sets] at hk6_0 hk6_1
  go_wp2
  refine bodyPost_ret (v := .agg #[.float .f64 p4, .float .f64 q4]) (by simp [results, Tryz.results40, go_sem, hk6_0, hk6_1]) rfl ?_
  exact ⟨rfl, LB.out⟩
end Go.Proofs.YtmjkmoahkanblaaGreat

namespace Go.Proofs.YtmjkmoahkanblaaGreat
open Go.RowKit
theorem rc_false {p q p' q' : Nat} (hq : 0 < q) (hq' : 0 < q') : rc (rv false p q) (rv false p' q') = cmp3 (p * q') (p' * q) := by
  have h1 := rv_lt_false (p := p) (p' := p') hq hq'
  have h2 := rv_lt_false (p := p') (p' := p) hq' hq
  unfold rc cmp3
  by_cases a : p * q' < p' * q
  · rw [if_pos (h1.2 a), if_pos a]
  · rw [if_neg (fun h => a (h1.1 h)), if_neg a]
    by_cases b : p' * q < p * q'
    · rw [if_pos (h2.2 b), if_pos b]
    · rw [if_neg (fun h => b (h2.1 h)), if_neg b]
theorem pw_above {a b : Nat} {E : Int} (ha : 0 < a) (h : (blen b : Int) + 1 < (blen a : Int) + E) : cmp3 (a * 2^E.toNat) (b * 2^(-E).toNat) = 1 := by
  refine cmp3_gt ?_
  obtain ⟨L, e1, a1, a2⟩ := blen_bounds ha
  have b2 := lt_pow_blen b
  rcases Int.lt_or_le E 0 with h0 | h0
  · rw [show E.toNat = 0 from by omega, Nat.pow_zero, Nat.mul_one]
    calc b * 2^(-E).toNat < 2^(blen b) * 2^(-E).toNat := Nat.mul_lt_mul_of_pos_right b2 (Nat.two_pow_pos _)
      _ = 2^(blen b + (-E).toNat) := by rw [← Nat.pow_add]
      _ ≤ 2^L := Nat.pow_le_pow_right (by omega) (by omega)
      _ ≤ a := a1
  · rw [show (-E).toNat = 0 from by omega, Nat.pow_zero, Nat.mul_one]
    calc b < 2^(blen b) := b2
      _ ≤ 2^(L + E.toNat) := Nat.pow_le_pow_right (by omega) (by omega)
      _ = 2^L * 2^E.toNat := by rw [Nat.pow_add]
      _ ≤ a * 2^E.toNat := Nat.mul_le_mul_right _ a1
theorem pw_below {a b : Nat} {E : Int} (h : (blen a : Int) + E < (blen b : Int) - 1) (hb : 0 < b) : cmp3 (a * 2^E.toNat) (b * 2^(-E).toNat) = -1 := by
  refine cmp3_lt ?_
  obtain ⟨L, e1, b1, b2⟩ := blen_bounds hb
  have a2 := lt_pow_blen a
  rcases Int.lt_or_le E 0 with h0 | h0
  · rw [show E.toNat = 0 from by omega, Nat.pow_zero, Nat.mul_one]
    calc a < 2^(blen a) := a2
      _ ≤ 2^(L + (-E).toNat) := Nat.pow_le_pow_right (by omega) (by omega)
      _ = 2^L * 2^(-E).toNat := by rw [Nat.pow_add]
      _ ≤ b * 2^(-E).toNat := Nat.mul_le_mul_right _ b1
  · rw [show (-E).toNat = 0 from by omega, Nat.pow_zero, Nat.mul_one]
    calc a * 2^E.toNat < 2^(blen a) * 2^E.toNat := Nat.mul_lt_mul_of_pos_right a2 (Nat.two_pow_pos _)
      _ = 2^(blen a + E.toNat) := by rw [← Nat.pow_add]
      _ ≤ 2^L := Nat.pow_le_pow_right (by omega) (by omega)
      _ ≤ b := b1
theorem pw_rc {F p q : Nat} {E : Int} {x : Rat} (hq : 0 < q) (hx : x = rv false F 1 * 2^E) : rc x (rv false p q) = cmp3 (F * q * 2^E.toNat) (p * 2^(-E).toNat) := by
  have := rv_scale false (p := F) (q := 1) (by omega) E
  rw [Nat.one_mul] at this
  rw [hx, ← this, rc_false (Nat.two_pow_pos _) hq]
  congr 1
  rw [Nat.mul_assoc, Nat.mul_comm (2^E.toNat) q, ← Nat.mul_assoc]
set_option maxRecDepth 4000 in
theorem power_fin (K b : Nat) (A B : Option Addr) (n c m d p q : Nat) (w : World) (hb : b < 9218868437227405312) (hb0 : 0 < b) (hu : U32s w A n c (digs p)) (hv : U32s w B m d (digs q)) (hp : 0 < p) (hq : 0 < q) (hpK : p < 2^(32 * K)) (hqK : q < 2^(32 * K)) (hK : K ≤ 1048576) :
    Calls Tryz.prog 214 #[.int .u64 (b : Int), .int .i64 1, .agg #[.bool false, .slice A n c, .slice B m d]] w fun e w' => e = .returned (.int .i64 (rc (fl (b : Int)) (rv false p q))) ∧ Below w.heap.size w w' := by
  have hc := pat_cases (b := b) (by omega)
  have hfin : fin b := by show rungOf b < M; rw [M_val]; omega
  have hidx : idx b = (b : Int) := by omega
  have hsg : sgn b = false := by
    rcases hc with h | h
    · exact h.2.2.1
    · omega
  obtain ⟨e0, he⟩ : ∃ e, b / 4503599627370496 % 2048 = e := ⟨_, rfl⟩
  obtain ⟨f0, hff⟩ : ∃ f, b % 4503599627370496 = f := ⟨_, rfl⟩
  obtain ⟨he1, hf1, v1, v2⟩ := fl_parts hfin he hff hsg
  rw [hidx] at v1 v2
  have he' : b / 4503599627370496 = e0 := by omega
  have m1 : (b : Int) / 4503599627370496 = (e0 : Int) := by omega
  have m2 := mask52_u64 (x := b) (by omega)
  rw [hff] at m2
  obtain ⟨F, E, hF0, hF, hE1, hE2, hfl, hFe⟩ : ∃ (F : Nat) (E : Int), 0 < F ∧ F < 9007199254740992 ∧ -1074 ≤ E ∧ E ≤ 971 ∧ fl (b : Int) = rv false F 1 * 2^E ∧ ((0 < e0 ∧ F = f0 + 4503599627370496 ∧ (e0 : Int) - 1 - 1074 = E) ∨ (e0 = 0 ∧ F = f0 ∧ (e0 : Int) - 1074 = E)) := by
    rcases Nat.eq_zero_or_pos e0 with h | h
    · exact ⟨f0, (e0 : Int) - 1074, by omega, by omega, by omega, by omega, v2 h, .inr ⟨h, rfl, rfl⟩⟩
    · exact ⟨f0 + 4503599627370496, (e0 : Int) - 1 - 1074, by omega, by omega, by omega, by omega, v1 h, .inl ⟨h, rfl, rfl⟩⟩
  rw [pw_rc hq hfl]
  have hn1 := hu.len_le hpK
  have hm1 := hv.len_le hqK
  have HU := Lib.hid hu
  have HV := Lib.hid hv
  have haK : F * q < 2^(32 * (K + 2)) := by
    calc F * q < 2^64 * 2^(32 * K) := Nat.mul_lt_mul'' (by omega) hqK
      _ = 2^(32 * (K + 2)) := by rw [← Nat.pow_add]; congr 1; omega
  have bp : blen p ≤ 33554432 := Nat.le_trans (blen_le_iff.2 hpK) (by omega)
  have ba : blen (F * q) ≤ 33554496 := Nat.le_trans (blen_le_iff.2 haK) (by omega)
  have hab : 0 < F * q := Nat.mul_pos hF0 hq
  have HSM := Lib.hid fun W => small_any F W (by omega)
  obtain ⟨a, ha⟩ : ∃ a, F * q = a := ⟨_, rfl⟩
  have T0 : ∀ (W : World) (A1 : Option Addr) (n1 c1 : Nat), Below w.heap.size w W → U32s W A1 n1 c1 (digs F) → Calls Tryz.prog 143 #[.slice A1 n1 c1, .slice B m d] W (NewU32 W (digs a)) := by
    intro W A1 n1 c1 hW h1
    have := times_any A1 B n1 c1 m d _ _ W h1 (HV.out.below hW) (by have := h1.len_le (k := 2) (Nat.lt_of_lt_of_le hF (by decide)); omega) (by omega)
    rw [num_digs, num_digs, ha] at this
    exact this
  have P0 : ∀ (W : World) (A1 : Option Addr) (n1 c1 : Nat), U32s W A1 n1 c1 (digs F) → Calls Tryz.prog 240 #[.slice A1 n1 c1, .int .i64 1] W (NewU32 W (digs F)) := by
    intro W A1 n1 c1 h1
    have h2 : F < 2^(32 * 2) := Nat.lt_of_lt_of_le hF (by decide)
    have := power_any A1 n1 c1 1 2 _ W h1 (by have := h1.len_le h2; omega) (by rw [num_digs]; exact hF0) (by rw [num_digs]; exact h2) (by rw [num_digs, Nat.pow_one]; exact h2) (by omega) (by omega)
    rw [num_digs, Nat.pow_one] at this
    exact this
  rw [ha] at haK ba hab ⊢
  have TT := Lib.hid T0
  have PT := Lib.hid P0
  have PA := Lib.hid fun h => pw_above (b := p) (E := E) hab h
  have PB := Lib.hid fun h => pw_below (a := a) (E := E) h hp
  obtain ⟨r, hr⟩ : ∃ r, cmp3 (a * 2^E.toNat) (p * 2^(-E).toNat) = r := ⟨_, rfl⟩
  rw [hr] at PA PB ⊢
  have HR := Lib.hid hr
  obtain ⟨K2, hK2⟩ : ∃ x, K + 2 = x := ⟨_, rfl⟩
  rw [hK2] at haK
  have hK3 : K2 ≤ 1048578 := by omega
  have HAK := Lib.hid haK
  clear hK2
  have HFE := Lib.hid hFe
  clear hr T0 P0 haK hab hFe hfl v1 v2 hc hfin hidx hsg he hff he' hu hv hp hq hpK hqK ha hF0
  rcases HFE.out with ⟨h0, hFF, hEE⟩ | ⟨h0, hFF, hEE⟩
  · skip
    obtain ⟨LB0, LG0_0⟩ := bx1 w #[.bool false, .slice A n c, .slice B m d] 60
    have h1 : (f0 : Int) + 4503599627370496 = (F : Int) := by omega
    have h3 : (0 : Int) < (e0 : Int) := by omega
    clear hFF h0
    clear HFE
    go_enter Tryz.func214, Tryz.ntmps214
    go_upto_region 7 with fail
    refine wp_region_held_drew (S := fun W' => Blk W' w.heap.size 60 #[.bool false, .slice A n c, .slice B m d] ∧ Below w.heap.size w W') (by kernel_rfl) (by exact ⟨LG0_0.out.drew, LB0.out.drew⟩) (fun hHeld => ?_)
    refine tk 0 ?_
    try simp only [Act.put, lay]
    refine tk 2 ?_
    try simp only [Act.put, lay]
    refine tk 4 ?_
    try simp only [Act.put, lay]
    refine tk 5 ?_ (hv := by intro W2 hSw; obtain ⟨q0, q1, q2⟩ := hSw.1.c3; go_simp; (try with_reducible rfl))
    try simp only [Act.put, lay]
    refine rdy 1 (fun KK hKK => ?_)
    go_simp
    refine (HSM.out _).mono ?_
    rintro e w1 ⟨A1, n1, c1, rfl, hu1, hb1⟩
    go_wp2_with fail
    refine hKK.out _ _ (⟨hHeld.1.keep hb1, hHeld.2.trans (hb1.mono hHeld.2.size)⟩) (fun _ => ?_)
    clear hKK KK hHeld; rename_i hHeld
    try simp only [Act.put, lay]
    refine rdy 3 (fun KK hKK => ?_)
    go_simp
    refine (PT.out _ A1 n1 c1 hu1).mono ?_
    rintro e w2 ⟨A2, n2, c2, rfl, hu2, hb2⟩
    go_wp2_with fail
    refine hKK.out _ _ (⟨hHeld.1.keep hb2, hHeld.2.trans (hb2.mono hHeld.2.size)⟩) (fun _ => ?_)
    clear hKK KK hHeld; rename_i hHeld
    try simp only [Act.put, lay]
    refine rdy 6 (fun KK hKK => ?_)
    go_simp
    refine (TT.out _ A2 n2 c2 ?_ hu2).mono ?_; exact hHeld.2
    rintro e w3 ⟨A3, n3, c3, rfl, hu3, hb3⟩
    go_wp2_with fail
    refine hKK.out _ _ (⟨hHeld.1.keep hb3, hHeld.2.trans (hb3.mono hHeld.2.size)⟩) (fun _ => ?_)
    clear hKK KK hHeld; rename_i hHeld
    try simp only [Act.put, lay]
    refine tk 7 ?_
    try simp only [Act.put, lay]
    refine wpAnyH_done (by kernel_rfl) ?_ _
    have LB3 := Lib.hid hHeld.2
    have LG0_3 := Lib.hid hHeld.1
    have HU3 := Lib.hid hu3
    have hn3 := hu3.len_le HAK.out
    clear hHeld hu1 hu2 hu3 hb1 hb2 hb3 HSM PT TT LB0 LG0_0
    obtain ⟨la, hla⟩ : ∃ x, blen a = x := ⟨_, rfl⟩
    obtain ⟨lp, hlp⟩ : ∃ x, blen p = x := ⟨_, rfl⟩
    have H1 := Lib.hid (len_v A3 n3 c3 w3 HU3.out)
    have H2 := Lib.hid (len_v A n c w3 (HU.out.below LB3.out))
    rw [hla] at H1 PA PB ba
    rw [hlp] at H2 PA PB bp
    clear hla hlp
    obtain ⟨q0_0, q0_1, q0_2⟩ := LG0_3.out.c3
    by_cases ho : (lp : Int) + 1 < (la : Int) + E
    · have hr := PA.out ho
      clear PA PB HR
      go_wp2_with fail
      refine H1.out.mono ?_
      rintro e w4 ⟨rfl, rfl⟩
      go_wp2_with fail
      refine H2.out.mono ?_
      rintro e w4 ⟨rfl, rfl⟩
      have HRR := Lib.hid hr
      clear hr
      go_wp2
      go_ret
      exact ⟨ret_int HRR.out.symm, LB3.out⟩
    · by_cases hu : (la : Int) + E < (lp : Int) - 1
      · have hr := PB.out hu
        clear PA PB HR
        go_wp2_with fail
        refine H1.out.mono ?_
        rintro e w4 ⟨rfl, rfl⟩
        go_wp2_with fail
        refine H2.out.mono ?_
        rintro e w4 ⟨rfl, rfl⟩
        go_wp2_with fail
        refine H1.out.mono ?_
        rintro e w4 ⟨rfl, rfl⟩
        go_wp2_with fail
        refine H2.out.mono ?_
        rintro e w4 ⟨rfl, rfl⟩
        have HRR := Lib.hid hr
        clear hr
        go_wp2
        go_ret
        exact ⟨ret_int HRR.out.symm, LB3.out⟩
      · clear PA PB
        go_wp2_with fail
        refine H1.out.mono ?_
        rintro e w4 ⟨rfl, rfl⟩
        go_wp2_with fail
        refine H2.out.mono ?_
        rintro e w4 ⟨rfl, rfl⟩
        go_wp2_with fail
        refine H1.out.mono ?_
        rintro e w4 ⟨rfl, rfl⟩
        go_wp2_with fail
        refine H2.out.mono ?_
        rintro e w4 ⟨rfl, rfl⟩
        clear H1 H2
        by_cases hE : 0 ≤ E
        · skip
          obtain ⟨g, hg⟩ : ∃ g : Nat, E = g := ⟨E.toNat, by omega⟩
          subst hg
          have hg2 : g ≤ 971 := by omega
          have hr := HR.out
          rw [show (-(g : Int)).toNat = 0 from by omega, Int.toNat_natCast, Nat.pow_zero, Nat.mul_one] at hr
          have HLL := Lib.hid (left_v (v := a) A3 n3 c3 g w3 HU3.out (by omega) (by omega))
          have HRR := Lib.hid hr
          clear hr HR
          go_wp2_with fail
          refine HLL.out.mono ?_
          rintro e w5 ⟨A5, n5, c5, rfl, hu5, hb5⟩
          have LB5 := stB LB3 hb5 LB3.out.size
          have HC := Lib.hid (cmp_v A5 A n5 c5 n c w5 hu5 (HU.out.below LB5.out))
          rw [HRR.out] at HC
          clear hb5 hu5 HLL
          go_wp2_with fail
          refine HC.out.mono ?_
          rintro e w6 ⟨rfl, kk, rfl⟩
          go_wp2
          go_ret
          exact ⟨rfl, below_drewN LB5.out kk⟩
        · skip
          obtain ⟨g, hg⟩ : ∃ g : Nat, -E = g := ⟨(-E : Int).toNat, by omega⟩
          have hg2 : g ≤ 1074 := by omega
          have hr := HR.out
          rw [show (E : Int).toNat = 0 from by omega, show (-E : Int).toNat = g from by omega, Nat.pow_zero, Nat.mul_one] at hr
          have HLL := Lib.hid (left_v (v := p) A n c g w3 (HU.out.below LB3.out) (by omega) (by omega))
          have HRR := Lib.hid hr
          clear hr HR
          have c2 : E < 0 := by omega
          go_wp2_with fail
          refine HLL.out.mono ?_
          rintro e w5 ⟨A5, n5, c5, rfl, hu5, hb5⟩
          have HC := Lib.hid (cmp_v A3 A5 n3 c3 n5 c5 w5 (HU3.out.below hb5) hu5)
          have LB5 := stB LB3 hb5 LB3.out.size
          rw [HRR.out] at HC
          clear hb5 hu5 HLL
          go_wp2_with fail
          refine HC.out.mono ?_
          rintro e w6 ⟨rfl, kk, rfl⟩
          go_wp2
          go_ret
          exact ⟨rfl, below_drewN LB5.out kk⟩
  · skip
    obtain ⟨LB0, LG0_0⟩ := bx1 w #[.bool false, .slice A n c, .slice B m d] 60
    subst h0
    subst hFF
    obtain rfl : E = -1074 := by omega
    clear hEE
    clear HFE
    go_enter Tryz.func214, Tryz.ntmps214
    go_upto_region 7 with fail
    refine wp_region_held_drew (S := fun W' => Blk W' w.heap.size 60 #[.bool false, .slice A n c, .slice B m d] ∧ Below w.heap.size w W') (by kernel_rfl) (by exact ⟨LG0_0.out.drew, LB0.out.drew⟩) (fun hHeld => ?_)
    refine tk 0 ?_
    try simp only [Act.put, lay]
    refine tk 2 ?_
    try simp only [Act.put, lay]
    refine tk 4 ?_
    try simp only [Act.put, lay]
    refine tk 5 ?_ (hv := by intro W2 hSw; obtain ⟨q0, q1, q2⟩ := hSw.1.c3; go_simp; (try with_reducible rfl))
    try simp only [Act.put, lay]
    refine rdy 1 (fun KK hKK => ?_)
    go_simp
    refine (HSM.out _).mono ?_
    rintro e w1 ⟨A1, n1, c1, rfl, hu1, hb1⟩
    go_wp2_with fail
    refine hKK.out _ _ (⟨hHeld.1.keep hb1, hHeld.2.trans (hb1.mono hHeld.2.size)⟩) (fun _ => ?_)
    clear hKK KK hHeld; rename_i hHeld
    try simp only [Act.put, lay]
    refine rdy 3 (fun KK hKK => ?_)
    go_simp
    refine (PT.out _ A1 n1 c1 hu1).mono ?_
    rintro e w2 ⟨A2, n2, c2, rfl, hu2, hb2⟩
    go_wp2_with fail
    refine hKK.out _ _ (⟨hHeld.1.keep hb2, hHeld.2.trans (hb2.mono hHeld.2.size)⟩) (fun _ => ?_)
    clear hKK KK hHeld; rename_i hHeld
    try simp only [Act.put, lay]
    refine rdy 6 (fun KK hKK => ?_)
    go_simp
    refine (TT.out _ A2 n2 c2 ?_ hu2).mono ?_; exact hHeld.2
    rintro e w3 ⟨A3, n3, c3, rfl, hu3, hb3⟩
    go_wp2_with fail
    refine hKK.out _ _ (⟨hHeld.1.keep hb3, hHeld.2.trans (hb3.mono hHeld.2.size)⟩) (fun _ => ?_)
    clear hKK KK hHeld; rename_i hHeld
    try simp only [Act.put, lay]
    refine tk 7 ?_
    try simp only [Act.put, lay]
    refine wpAnyH_done (by kernel_rfl) ?_ _
    have LB3 := Lib.hid hHeld.2
    have LG0_3 := Lib.hid hHeld.1
    have HU3 := Lib.hid hu3
    have hn3 := hu3.len_le HAK.out
    clear hHeld hu1 hu2 hu3 hb1 hb2 hb3 HSM PT TT LB0 LG0_0
    obtain ⟨la, hla⟩ : ∃ x, blen a = x := ⟨_, rfl⟩
    obtain ⟨lp, hlp⟩ : ∃ x, blen p = x := ⟨_, rfl⟩
    have H1 := Lib.hid (len_v A3 n3 c3 w3 HU3.out)
    have H2 := Lib.hid (len_v A n c w3 (HU.out.below LB3.out))
    rw [hla] at H1 PA PB ba
    rw [hlp] at H2 PA PB bp
    clear hla hlp
    obtain ⟨q0_0, q0_1, q0_2⟩ := LG0_3.out.c3
    by_cases ho : (lp : Int) + 1 < (la : Int) + (-1074)
    · have hr := PA.out ho
      clear PA PB HR
      go_wp2_with fail
      refine H1.out.mono ?_
      rintro e w4 ⟨rfl, rfl⟩
      go_wp2_with fail
      refine H2.out.mono ?_
      rintro e w4 ⟨rfl, rfl⟩
      have HRR := Lib.hid hr
      clear hr
      go_wp2
      go_ret
      exact ⟨ret_int HRR.out.symm, LB3.out⟩
    · by_cases hu : (la : Int) + (-1074) < (lp : Int) - 1
      · have hr := PB.out hu
        clear PA PB HR
        go_wp2_with fail
        refine H1.out.mono ?_
        rintro e w4 ⟨rfl, rfl⟩
        go_wp2_with fail
        refine H2.out.mono ?_
        rintro e w4 ⟨rfl, rfl⟩
        go_wp2_with fail
        refine H1.out.mono ?_
        rintro e w4 ⟨rfl, rfl⟩
        go_wp2_with fail
        refine H2.out.mono ?_
        rintro e w4 ⟨rfl, rfl⟩
        have HRR := Lib.hid hr
        clear hr
        go_wp2
        go_ret
        exact ⟨ret_int HRR.out.symm, LB3.out⟩
      · clear PA PB
        go_wp2_with fail
        refine H1.out.mono ?_
        rintro e w4 ⟨rfl, rfl⟩
        go_wp2_with fail
        refine H2.out.mono ?_
        rintro e w4 ⟨rfl, rfl⟩
        go_wp2_with fail
        refine H1.out.mono ?_
        rintro e w4 ⟨rfl, rfl⟩
        go_wp2_with fail
        refine H2.out.mono ?_
        rintro e w4 ⟨rfl, rfl⟩
        clear H1 H2
        obtain ⟨g, hg⟩ : ∃ g : Nat, g = 1074 := ⟨_, rfl⟩
        have hr := HR.out
        rw [show ((-1074) : Int).toNat = 0 from by omega, show (-(-1074) : Int).toNat = g from by omega, Nat.pow_zero, Nat.mul_one] at hr
        have HLL := Lib.hid (left_v (v := p) A n c g w3 (HU.out.below LB3.out) (by omega) (by omega))
        rw [show ((g : Nat) : Int) = 1074 from by omega] at HLL
        clear hg
        have HRR := Lib.hid hr
        clear hr HR
        go_wp2_with fail
        refine HLL.out.mono ?_
        rintro e w5 ⟨A5, n5, c5, rfl, hu5, hb5⟩
        have HC := Lib.hid (cmp_v A3 A5 n3 c3 n5 c5 w5 (HU3.out.below hb5) hu5)
        have LB5 := stB LB3 hb5 LB3.out.size
        rw [HRR.out] at HC
        clear hb5 hu5 HLL
        go_wp2_with fail
        refine HC.out.mono ?_
        rintro e w6 ⟨rfl, kk, rfl⟩
        go_wp2
        go_ret
        exact ⟨rfl, below_drewN LB5.out kk⟩
end Go.Proofs.YtmjkmoahkanblaaGreat
