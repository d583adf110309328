/-
Walks: package rev, NegRev, AbsRev, twice, turned; what they answer by indexes.
What the program makes of NegRev, RecipRev and AbsRev is what chapter 10 says: plain law.
Walk: RevPlain.
-/
import Derived.Test.YtmjkmoahkanblaaGreatM27
import Derived.Test.YtmjkmoahkanblaaGreatPPairT
import Derived.Test.YtmjkmoahkanblaaGreatPLessT
import Derived.Deep.DeepCutAuto
import Derived.Test.YtmjkmoahkanblaaGreatM26
import Derived.Test.YtmjkmoahkanblaaGreatM03
import Derived.Test.YtmjkmoahkanblaaGreatPIntsT
set_option linter.unusedSimpArgs false
set_option linter.unusedVariables false
set_option maxHeartbeats 12800000

namespace Go.Proofs.YtmjkmoahkanblaaGreat
open Go.RowKit
attribute [local go_sem] run_store_float
attribute [local go_sem] run_negf
theorem fplainf (b : Nat) (w : World) (hb : b < 18446744073709551616) (hr : rungOf b ≤ M) : Calls Tryz.prog 159 #[.float .f64 b] w fun e w' => e = .returned (.float .f64 (pat (idx b))) ∧ w = w' := by
  have ho : FloatKind.f64.format.order b 0 = some (compare (idx b) (idx 0)) := order_real hr (by show rungOf 0 ≤ M; decide)
  rw [show idx 0 = 0 from by decide] at ho
  have hp := pl_real hb hr
  by_cases h : idx b = 0
  · have hq : (FloatKind.f64.format.order b 0 == some Ordering.eq) = true := by rw [ho, h]; rfl
    rw [h, pat_zero]
    clear ho hp h hr
    go_enter Tryz.func159, Tryz.ntmps159
    go_wp2
    go_ret
    exact ⟨rfl, rfl⟩
  · have hq : (FloatKind.f64.format.order b 0 == some Ordering.eq) = false := by
      rw [ho]
      rcases Int.lt_trichotomy (idx b) 0 with h1 | h1 | h1
      · rw [show compare (idx b) 0 = .lt from Int.compare_eq_lt.2 h1]; rfl
      · exact absurd h1 h
      · rw [show compare (idx b) 0 = .gt from Int.compare_eq_gt.2 h1]; rfl
    have e : pat (idx b) = b := by
      rw [← hp]; unfold pl
      have := pat_cases hb
      rw [if_neg (by omega), if_neg (by omega)]
    rw [e]
    clear ho hp h hr e
    go_enter Tryz.func159, Tryz.ntmps159
    go_wp2
    go_ret
    exact ⟨rfl, rfl⟩
set_option maxRecDepth 8000 in
theorem turned_walk (b1 b2 r1 r2 : Nat) (w : World) (h1 : ∀ W, Calls Tryz.prog 159 #[.float .f64 (Op.negFloat .f64 b2)] W fun e w' => e = .returned (.float .f64 r1) ∧ Below W.heap.size W w') (h2 : ∀ W, Calls Tryz.prog 159 #[.float .f64 (Op.negFloat .f64 b1)] W fun e w' => e = .returned (.float .f64 r2) ∧ Below W.heap.size W w') :
    Calls Tryz.prog 150 #[.agg #[.float .f64 b1, .float .f64 b2]] w fun e w' => e = .returned (.agg #[.float .f64 r1, .float .f64 r2]) ∧ Below w.heap.size w w' := by
  have H1 := Lib.hid h1
  have H2 := Lib.hid h2
  clear h1 h2
  have LL := li2 w #[.float .f64 b1, .float .f64 b2] 56 #[.float .f64 0, .float .f64 0] 56
  go_enter Tryz.func150, Tryz.ntmps150
  go_wp2_with fail
  replace LL := Lib.hid (LL.out.loose 1 rfl rfl)
  simp only [List.eraseIdx, List.size_toArray, List.length_cons, List.length_nil, Nat.zero_add, Nat.reduceAdd] at LL
  refine regL LL (fun hHeld => ?_)
  clear LL
  generalize World.drew _ = wk at hHeld  ⊢
  refine tk 0 ?_
  try simp only [Act.put, lay]
  refine tk 1 ?_ (hv := by intro W2 hSw; obtain ⟨q0, q1⟩ := (hSw.blk 0 rfl).c2; go_simp; (try with_reducible rfl))
  try simp only [Act.put, lay]
  refine tk 2 ?_
  try simp only [Act.put, lay]
  refine tk 4 ?_
  try simp only [Act.put, lay]
  refine tk 5 ?_ (hv := by intro W2 hSw; obtain ⟨q0, q1⟩ := (hSw.blk 0 rfl).c2; go_simp; (try with_reducible rfl))
  try simp only [Act.put, lay]
  refine tk 6 ?_
  try simp only [Act.put, lay]
  refine rdy 3 (fun KK hKK => ?_)
  go_simp
  refine (H1.out _).mono ?_
  rintro e wk ⟨rfl, hb1⟩
  go_wp2_with fail
  refine hKK.out _ _ (hHeld.keep hb1) (fun _ => ?_)
  clear hKK KK hHeld
  rename_i hHeld
  try simp only [Act.put, lay]
  clear hb1
  refine rdy 7 (fun KK hKK => ?_)
  go_simp
  refine (H2.out _).mono ?_
  rintro e wk ⟨rfl, hb2⟩
  go_wp2_with fail
  refine hKK.out _ _ (hHeld.keep hb2) (fun _ => ?_)
  clear hKK KK hHeld
  rename_i hHeld
  try simp only [Act.put, lay]
  clear hb2
  refine tk 8 ?_
  try simp only [Act.put, lay]
  refine rdy 9 (fun KK hKK => ?_)
  obtain ⟨ha0, hf0, ha1, hf1⟩ := (hHeld.has 0 rfl).sf2
  go_simp
  have HS_0 := (hHeld.has 0 rfl).laid [.float .f64 r1, .float .f64 r2] rfl
  refine hKK.out _ _ (hHeld.over 0 rfl [.float .f64 r1, .float .f64 r2] rfl rfl (by first | omega | exact hHeld.le_of 0 rfl) (by simp <;> omega) (by simp <;> omega)) (fun _ => ?_)
  clear hKK KK hHeld
  rename_i hHeld
  try simp only [Act.put, lay]
  refine wpAnyH_done (by kernel_rfl) ?_ _
  have LB := Lib.hid hHeld.b
  clear hHeld
  obtain ⟨hk2_0, hk2_1⟩ := HS_0.c2
  clear HS_0
  simp [sets] at hk2_0 hk2_1
  go_wp2
  refine bodyPost_ret (v := .agg #[.float .f64 r1, .float .f64 r2]) (by simp [results, Tryz.results150, go_sem, hk2_0, hk2_1]) rfl ?_
  exact ⟨rfl, LB.out⟩
theorem turned_idx (k l : Int) (w : World) (hk : -(M : Int) ≤ k ∧ k ≤ M) (hl : -(M : Int) ≤ l ∧ l ≤ M) : Calls Tryz.prog 150 #[.agg #[.float .f64 (pat k), .float .f64 (pat l)]] w fun e w' => e = .returned (.agg #[.float .f64 (pat (-l)), .float .f64 (pat (-k))]) ∧ Below w.heap.size w w' := by
  have n1 := negFloat_val (pat_lt hk.1 hk.2)
  have n2 := negFloat_val (pat_lt hl.1 hl.2)
  rw [idx_pat hk.1 hk.2, rung_pat hk.1 hk.2] at n1
  rw [idx_pat hl.1 hl.2, rung_pat hl.1 hl.2] at n2
  have p1 := fun W => fplainf _ W n1.1 (by omega)
  have p2 := fun W => fplainf _ W n2.1 (by omega)
  rw [n1.2.2] at p1
  rw [n2.2.2] at p2
  exact turned_walk _ _ _ _ w (fun W => (p2 W).mono fun e w' h => ⟨h.1, h.2 ▸ Below.refl _ _⟩) (fun W => (p1 W).mono fun e w' h => ⟨h.1, h.2 ▸ Below.refl _ _⟩)
set_option maxRecDepth 8000 in
theorem twice_walk (x1 x2 p1 p2 q1 q2 s1 s2 t1 t2 l1 l2 u1 u2 r1 r2 : Nat) (op : Bool) (w : World) (hc1 : ∀ W, Calls Tryz.prog 52 #[.agg #[.float .f64 x1, .float .f64 x2], .agg #[.float .f64 p1, .float .f64 p2], .agg #[.float .f64 q1, .float .f64 q2], .bool op] W fun e w' => e = .returned (.agg #[.float .f64 l1, .float .f64 l2]) ∧ Below W.heap.size W w') (ht1 : ∀ W, Calls Tryz.prog 150 #[.agg #[.float .f64 q1, .float .f64 q2]] W fun e w' => e = .returned (.agg #[.float .f64 t1, .float .f64 t2]) ∧ Below W.heap.size W w') (ht2 : ∀ W, Calls Tryz.prog 150 #[.agg #[.float .f64 p1, .float .f64 p2]] W fun e w' => e = .returned (.agg #[.float .f64 s1, .float .f64 s2]) ∧ Below W.heap.size W w') (hc2 : ∀ W, Calls Tryz.prog 52 #[.agg #[.float .f64 x1, .float .f64 x2], .agg #[.float .f64 t1, .float .f64 t2], .agg #[.float .f64 s1, .float .f64 s2], .bool op] W fun e w' => e = .returned (.agg #[.float .f64 u1, .float .f64 u2]) ∧ Below W.heap.size W w')
    (hu : ∀ W, Calls Tryz.prog 111 #[.agg #[.float .f64 l1, .float .f64 l2], .agg #[.float .f64 u1, .float .f64 u2]] W fun e w' => e = .returned (.agg #[.float .f64 r1, .float .f64 r2]) ∧ Below W.heap.size W w') :
    Calls Tryz.prog 78 #[.agg #[.float .f64 x1, .float .f64 x2], .agg #[.float .f64 p1, .float .f64 p2], .agg #[.float .f64 q1, .float .f64 q2], .bool op] w fun e w' => e = .returned (.agg #[.float .f64 r1, .float .f64 r2]) ∧ Below w.heap.size w w' := by
  have HC1 := Lib.hid hc1
  have HT1 := Lib.hid ht1
  have HT2 := Lib.hid ht2
  have HC2 := Lib.hid hc2
  have HU := Lib.hid hu
  clear hc1 ht1 ht2 hc2 hu
  have LL := li4 w #[.float .f64 x1, .float .f64 x2] 29 #[.float .f64 p1, .float .f64 p2] 56 #[.float .f64 q1, .float .f64 q2] 56 #[.float .f64 0, .float .f64 0] 29
  go_enter Tryz.func78, Tryz.ntmps78
  go_wp2_with fail
  replace LL := Lib.hid (LL.out.loose 3 rfl rfl)
  simp only [List.eraseIdx, List.size_toArray, List.length_cons, List.length_nil, Nat.zero_add, Nat.reduceAdd] at LL
  refine regL LL (fun hHeld => ?_)
  clear LL
  generalize World.drew _ = wk at hHeld  ⊢
  refine tk 0 ?_ (hv := by intro W2 hSw; obtain ⟨q0, q1⟩ := (hSw.blk 0 rfl).c2; go_simp; (try with_reducible rfl))
  try simp only [Act.put, lay]
  refine tk 1 ?_ (hv := by intro W2 hSw; obtain ⟨q0, q1⟩ := (hSw.blk 1 rfl).c2; go_simp; (try with_reducible rfl))
  try simp only [Act.put, lay]
  refine tk 2 ?_ (hv := by intro W2 hSw; obtain ⟨q0, q1⟩ := (hSw.blk 2 rfl).c2; go_simp; (try with_reducible rfl))
  try simp only [Act.put, lay]
  refine tk 3 ?_
  try simp only [Act.put, lay]
  refine tk 5 ?_ (hv := by intro W2 hSw; obtain ⟨q0, q1⟩ := (hSw.blk 0 rfl).c2; go_simp; (try with_reducible rfl))
  try simp only [Act.put, lay]
  refine tk 6 ?_ (hv := by intro W2 hSw; obtain ⟨q0, q1⟩ := (hSw.blk 2 rfl).c2; go_simp; (try with_reducible rfl))
  try simp only [Act.put, lay]
  refine tk 8 ?_ (hv := by intro W2 hSw; obtain ⟨q0, q1⟩ := (hSw.blk 1 rfl).c2; go_simp; (try with_reducible rfl))
  try simp only [Act.put, lay]
  refine tk 10 ?_
  try simp only [Act.put, lay]
  refine rdy 4 (fun KK hKK => ?_)
  go_simp
  refine (HC1.out _).mono ?_
  rintro e wk ⟨rfl, hb1⟩
  go_wp2_with fail
  refine hKK.out _ _ (hHeld.keep hb1) (fun _ => ?_)
  clear hKK KK hHeld
  rename_i hHeld
  try simp only [Act.put, lay]
  clear hb1
  refine rdy 7 (fun KK hKK => ?_)
  go_simp
  refine (HT1.out _).mono ?_
  rintro e wk ⟨rfl, hb2⟩
  go_wp2_with fail
  refine hKK.out _ _ (hHeld.keep hb2) (fun _ => ?_)
  clear hKK KK hHeld
  rename_i hHeld
  try simp only [Act.put, lay]
  clear hb2
  refine rdy 9 (fun KK hKK => ?_)
  go_simp
  refine (HT2.out _).mono ?_
  rintro e wk ⟨rfl, hb3⟩
  go_wp2_with fail
  refine hKK.out _ _ (hHeld.keep hb3) (fun _ => ?_)
  clear hKK KK hHeld
  rename_i hHeld
  try simp only [Act.put, lay]
  clear hb3
  refine rdy 11 (fun KK hKK => ?_)
  go_simp
  refine (HC2.out _).mono ?_
  rintro e wk ⟨rfl, hb4⟩
  go_wp2_with fail
  refine hKK.out _ _ (hHeld.keep hb4) (fun _ => ?_)
  clear hKK KK hHeld
  rename_i hHeld
  try simp only [Act.put, lay]
  clear hb4
  refine rdy 12 (fun KK hKK => ?_)
  go_simp
  refine (HU.out _).mono ?_
  rintro e wk ⟨rfl, hb5⟩
  go_wp2_with fail
  refine hKK.out _ _ (hHeld.keep hb5) (fun _ => ?_)
  clear hKK KK hHeld
  rename_i hHeld
  try simp only [Act.put, lay]
  clear hb5
  refine rdy 13 (fun KK hKK => ?_)
  obtain ⟨ha0, hf0, ha1, hf1⟩ := (hHeld.has 0 rfl).sf2
  go_simp
  have HS_0 := (hHeld.has 0 rfl).laid [.float .f64 r1, .float .f64 r2] rfl
  refine hKK.out _ _ (hHeld.over 0 rfl [.float .f64 r1, .float .f64 r2] rfl rfl (by first | omega | exact hHeld.le_of 0 rfl) (by simp <;> omega) (by simp <;> omega)) (fun _ => ?_)
  clear hKK KK hHeld
  rename_i hHeld
  try simp only [Act.put, lay]
  refine wpAnyH_done (by kernel_rfl) ?_ _
  have LB := Lib.hid hHeld.b
  clear hHeld
  obtain ⟨hk8_0, hk8_1⟩ := HS_0.c2
  clear HS_0
  simp [sets] at hk8_0 hk8_1
  go_wp2
  refine bodyPost_ret (v := .agg #[.float .f64 r1, .float .f64 r2]) (by simp [results, Tryz.results78, go_sem, hk8_0, hk8_1]) rfl ?_
  exact ⟨rfl, LB.out⟩
set_option maxRecDepth 8000 in
theorem negrev_walk (c1 c2 x1 x2 m1 m2 r1 r2 : Nat) (w : World) (hm : ∀ W, Calls Tryz.prog 59 #[.agg #[.float .f64 c1, .float .f64 c2]] W fun e w' => e = .returned (.agg #[.float .f64 m1, .float .f64 m2]) ∧ Below W.heap.size W w') (hi : ∀ W, Calls Tryz.prog 74 #[.agg #[.float .f64 m1, .float .f64 m2], .agg #[.float .f64 x1, .float .f64 x2]] W fun e w' => e = .returned (.agg #[.float .f64 r1, .float .f64 r2]) ∧ Below W.heap.size W w') :
    Calls Tryz.prog 23 #[.agg #[.float .f64 c1, .float .f64 c2], .agg #[.float .f64 x1, .float .f64 x2]] w fun e w' => e = .returned (.agg #[.float .f64 r1, .float .f64 r2]) ∧ Below w.heap.size w w' := by
  have HM := Lib.hid hm
  have HI := Lib.hid hi
  clear hm hi
  have LL := li3 w #[.float .f64 c1, .float .f64 c2] 29 #[.float .f64 x1, .float .f64 x2] 29 #[.float .f64 0, .float .f64 0] 29
  go_enter Tryz.func23, Tryz.ntmps23
  go_wp2_with fail
  replace LL := Lib.hid (LL.out.loose 2 rfl rfl)
  simp only [List.eraseIdx, List.size_toArray, List.length_cons, List.length_nil, Nat.zero_add, Nat.reduceAdd] at LL
  refine regL LL (fun hHeld => ?_)
  clear LL
  generalize World.drew _ = wk at hHeld  ⊢
  refine tk 0 ?_ (hv := by intro W2 hSw; obtain ⟨q0, q1⟩ := (hSw.blk 0 rfl).c2; go_simp; (try with_reducible rfl))
  try simp only [Act.put, lay]
  refine tk 2 ?_ (hv := by intro W2 hSw; obtain ⟨q0, q1⟩ := (hSw.blk 1 rfl).c2; go_simp; (try with_reducible rfl))
  try simp only [Act.put, lay]
  refine rdy 1 (fun KK hKK => ?_)
  go_simp
  refine (HM.out _).mono ?_
  rintro e wk ⟨rfl, hb1⟩
  go_wp2_with fail
  refine hKK.out _ _ (hHeld.keep hb1) (fun _ => ?_)
  clear hKK KK hHeld
  rename_i hHeld
  try simp only [Act.put, lay]
  clear hb1
  refine rdy 3 (fun KK hKK => ?_)
  go_simp
  refine (HI.out _).mono ?_
  rintro e wk ⟨rfl, hb2⟩
  go_wp2_with fail
  refine hKK.out _ _ (hHeld.keep hb2) (fun _ => ?_)
  clear hKK KK hHeld
  rename_i hHeld
  try simp only [Act.put, lay]
  clear hb2
  refine rdy 4 (fun KK hKK => ?_)
  obtain ⟨ha0, hf0, ha1, hf1⟩ := (hHeld.has 0 rfl).sf2
  go_simp
  have HS_0 := (hHeld.has 0 rfl).laid [.float .f64 r1, .float .f64 r2] rfl
  refine hKK.out _ _ (hHeld.over 0 rfl [.float .f64 r1, .float .f64 r2] rfl rfl (by first | omega | exact hHeld.le_of 0 rfl) (by simp <;> omega) (by simp <;> omega)) (fun _ => ?_)
  clear hKK KK hHeld
  rename_i hHeld
  try simp only [Act.put, lay]
  refine wpAnyH_done (by kernel_rfl) ?_ _
  have LB := Lib.hid hHeld.b
  clear hHeld
  obtain ⟨hk4_0, hk4_1⟩ := HS_0.c2
  clear HS_0
  simp [sets] at hk4_0 hk4_1
  go_wp2
  refine bodyPost_ret (v := .agg #[.float .f64 r1, .float .f64 r2]) (by simp [results, Tryz.results23, go_sem, hk4_0, hk4_1]) rfl ?_
  exact ⟨rfl, LB.out⟩
set_option maxRecDepth 8000 in
theorem absrev_none (b1 b2 c1 c2 A1 A2 x1 x2 : Nat) (d1 d2 : Bool) (w : World) (t1 : ∀ W, Calls Tryz.prog 119 #[.agg #[.float .f64 b1, .float .f64 b2]] W fun e w' => e = .returned (.agg #[.float .f64 A1, .float .f64 A2]) ∧ Below W.heap.size W w') (m1 : Em d1 A1 A2) (t2 : ∀ W, Calls Tryz.prog 119 #[.agg #[.float .f64 c1, .float .f64 c2]] W fun e w' => e = .returned (.agg #[.float .f64 x1, .float .f64 x2]) ∧ Below W.heap.size W w') (m2 : Em d2 x1 x2) (hnn : (d1 || d2) = true) :
    Calls Tryz.prog 27 #[.agg #[.float .f64 b1, .float .f64 b2], .agg #[.float .f64 c1, .float .f64 c2]] w fun e w' => e = .returned (.agg #[.float .f64 9218868437227405312, .float .f64 18442240474082181120]) ∧ Below w.heap.size w w' := by
  have HE := Lib.hid emptyf
  have LL := li3 w #[.float .f64 b1, .float .f64 b2] 29 #[.float .f64 c1, .float .f64 c2] 29 #[.float .f64 0, .float .f64 0] 29
  have hrow := Blk.at (W := (((w.alloc (.cells #[.float .f64 b1, .float .f64 b2] 29)).alloc (.cells #[.float .f64 c1, .float .f64 c2] 29)).alloc (.cells #[.float .f64 0, .float .f64 0] 29))) (g := w.heap.size + 1 + 1 + 1) (by simp) 51 #[.pointer (some ⟨w.heap.size, 0, none⟩), .pointer (some ⟨w.heap.size + 1, 0, none⟩)]
  have HRD := Lib.hid (read_n w.heap.size 2 (w.heap.size + 1 + 1 + 1) 2 (fun k : Nat => if k = 0 then (b1, b2) else (c1, c2)) (fun k : Nat => if k = 0 then (A1, A2) else (x1, x2)) (fun k : Nat => if k = 0 then d1 else d2) _ (by omega) (by omega)
    (fun k hk => by match k, hk with | 0, _ => exact hrow.cell 0 | 1, _ => exact hrow.cell 1) (fun k hk => by match k, hk with | 0, _ => exact (LL.out.blk 0 rfl).alloc (.cells #[.pointer (some ⟨w.heap.size, 0, none⟩), .pointer (some ⟨w.heap.size + 1, 0, none⟩)] 51) | 1, _ => exact (LL.out.blk 1 rfl).alloc (.cells #[.pointer (some ⟨w.heap.size, 0, none⟩), .pointer (some ⟨w.heap.size + 1, 0, none⟩)] 51)) (fun k hk => by match k, hk with | 0, _ => exact t1 | 1, _ => exact t2) (fun k hk => by match k, hk with | 0, _ => exact m1 | 1, _ => exact m2))
  rw [show anyB (fun k : Nat => if k = 0 then d1 else d2) 2 = (d1 || d2) from by simp [anyB], hnn] at HRD
  have LLR := Lib.hid (LL.out.alloc (.cells #[.pointer (some ⟨w.heap.size, 0, none⟩), .pointer (some ⟨w.heap.size + 1, 0, none⟩)] 51))
  have HSZ := Lib.hid (show w.heap.size ≤ (((((w.alloc (.cells #[.float .f64 b1, .float .f64 b2] 29)).alloc (.cells #[.float .f64 c1, .float .f64 c2] 29)).alloc (.cells #[.float .f64 0, .float .f64 0] 29))).alloc (.cells #[.pointer (some ⟨w.heap.size, 0, none⟩), .pointer (some ⟨w.heap.size + 1, 0, none⟩)] 51)).heap.size by simp; omega)
  clear t1 m1 t2 m2 hrow hnn LL
  go_enter Tryz.func27, Tryz.ntmps27
  go_wp2_with fail
  refine HRD.out.mono ?_
  rintro e wk ⟨rfl, hd, kp⟩
  have LL := Lib.hid (show Lies w wk [(w.heap.size, 29, #[.float .f64 A1, .float .f64 A2]), ((w.heap.size + 1), 29, #[.float .f64 x1, .float .f64 x2]), ((w.heap.size + 2), 29, #[.float .f64 0, .float .f64 0])] [] from ⟨kp.toBl LLR.out.b HSZ.out (Nat.le_refl _), by simp only [List.mem_cons, List.not_mem_nil, or_false, forall_eq_or_imp, forall_eq]; exact ⟨show Blk wk w.heap.size 29 #[.float .f64 A1, .float .f64 A2] from hd 0 (by omega), show Blk wk (w.heap.size + 1) 29 #[.float .f64 x1, .float .f64 x2] from hd 1 (by omega), kp.blk (LLR.out.blk 2 rfl) (by omega)⟩, by simp⟩)
  clear hd kp LLR HSZ HRD
  go_wp2_with fail
  refine (HE.out _).mono ?_
  rintro e wk ⟨rfl, hb⟩
  replace LL := stL LL hb
  clear hb
  replace LL := Lib.hid (LL.out.loose 2 rfl rfl)
  simp only [List.eraseIdx, List.size_toArray, List.length_cons, List.length_nil, Nat.zero_add, Nat.reduceAdd] at LL
  obtain ⟨ha4_0, hf4_0, ha4_1, hf4_1⟩ := (LL.out.has 0 rfl).sf2
  have LF := Lib.hid (LL.out.write [.float .f64 9218868437227405312, .float .f64 18442240474082181120] rfl (by omega) (by simp <;> omega) (by simp <;> omega))
  obtain ⟨hk4_0, hk4_1⟩ := (LF.out.blk 2 rfl).c2
  simp [sets] at hk4_0 hk4_1
  clear LL
  go_wp2
  refine bodyPost_ret (v := .agg #[.float .f64 9218868437227405312, .float .f64 18442240474082181120]) (by simp [results, Tryz.results27, go_sem, hk4_0, hk4_1]) rfl ?_
  exact ⟨rfl, LF.out.b⟩
set_option maxRecDepth 8000 in
theorem absrev_neg (b1 b2 c1 c2 A1 A2 x1 x2 : Nat) (d1 d2 : Bool) (w : World) (t1 : ∀ W, Calls Tryz.prog 119 #[.agg #[.float .f64 b1, .float .f64 b2]] W fun e w' => e = .returned (.agg #[.float .f64 A1, .float .f64 A2]) ∧ Below W.heap.size W w') (m1 : Em d1 A1 A2) (t2 : ∀ W, Calls Tryz.prog 119 #[.agg #[.float .f64 c1, .float .f64 c2]] W fun e w' => e = .returned (.agg #[.float .f64 x1, .float .f64 x2]) ∧ Below W.heap.size W w') (m2 : Em d2 x1 x2) (hnn : (d1 || d2) = false) (ho : FloatKind.f64.format.order A2 0 = some .lt) :
    Calls Tryz.prog 27 #[.agg #[.float .f64 b1, .float .f64 b2], .agg #[.float .f64 c1, .float .f64 c2]] w fun e w' => e = .returned (.agg #[.float .f64 9218868437227405312, .float .f64 18442240474082181120]) ∧ Below w.heap.size w w' := by
  have HE := Lib.hid emptyf
  have LL := li3 w #[.float .f64 b1, .float .f64 b2] 29 #[.float .f64 c1, .float .f64 c2] 29 #[.float .f64 0, .float .f64 0] 29
  have hrow := Blk.at (W := (((w.alloc (.cells #[.float .f64 b1, .float .f64 b2] 29)).alloc (.cells #[.float .f64 c1, .float .f64 c2] 29)).alloc (.cells #[.float .f64 0, .float .f64 0] 29))) (g := w.heap.size + 1 + 1 + 1) (by simp) 51 #[.pointer (some ⟨w.heap.size, 0, none⟩), .pointer (some ⟨w.heap.size + 1, 0, none⟩)]
  have HRD := Lib.hid (read_n w.heap.size 2 (w.heap.size + 1 + 1 + 1) 2 (fun k : Nat => if k = 0 then (b1, b2) else (c1, c2)) (fun k : Nat => if k = 0 then (A1, A2) else (x1, x2)) (fun k : Nat => if k = 0 then d1 else d2) _ (by omega) (by omega)
    (fun k hk => by match k, hk with | 0, _ => exact hrow.cell 0 | 1, _ => exact hrow.cell 1) (fun k hk => by match k, hk with | 0, _ => exact (LL.out.blk 0 rfl).alloc (.cells #[.pointer (some ⟨w.heap.size, 0, none⟩), .pointer (some ⟨w.heap.size + 1, 0, none⟩)] 51) | 1, _ => exact (LL.out.blk 1 rfl).alloc (.cells #[.pointer (some ⟨w.heap.size, 0, none⟩), .pointer (some ⟨w.heap.size + 1, 0, none⟩)] 51)) (fun k hk => by match k, hk with | 0, _ => exact t1 | 1, _ => exact t2) (fun k hk => by match k, hk with | 0, _ => exact m1 | 1, _ => exact m2))
  rw [show anyB (fun k : Nat => if k = 0 then d1 else d2) 2 = (d1 || d2) from by simp [anyB], hnn] at HRD
  have LLR := Lib.hid (LL.out.alloc (.cells #[.pointer (some ⟨w.heap.size, 0, none⟩), .pointer (some ⟨w.heap.size + 1, 0, none⟩)] 51))
  have HSZ := Lib.hid (show w.heap.size ≤ (((((w.alloc (.cells #[.float .f64 b1, .float .f64 b2] 29)).alloc (.cells #[.float .f64 c1, .float .f64 c2] 29)).alloc (.cells #[.float .f64 0, .float .f64 0] 29))).alloc (.cells #[.pointer (some ⟨w.heap.size, 0, none⟩), .pointer (some ⟨w.heap.size + 1, 0, none⟩)] 51)).heap.size by simp; omega)
  clear t1 m1 t2 m2 hrow hnn LL
  go_enter Tryz.func27, Tryz.ntmps27
  go_wp2_with fail
  refine HRD.out.mono ?_
  rintro e wk ⟨rfl, hd, kp⟩
  have LL := Lib.hid (show Lies w wk [(w.heap.size, 29, #[.float .f64 A1, .float .f64 A2]), ((w.heap.size + 1), 29, #[.float .f64 x1, .float .f64 x2]), ((w.heap.size + 2), 29, #[.float .f64 0, .float .f64 0])] [] from ⟨kp.toBl LLR.out.b HSZ.out (Nat.le_refl _), by simp only [List.mem_cons, List.not_mem_nil, or_false, forall_eq_or_imp, forall_eq]; exact ⟨show Blk wk w.heap.size 29 #[.float .f64 A1, .float .f64 A2] from hd 0 (by omega), show Blk wk (w.heap.size + 1) 29 #[.float .f64 x1, .float .f64 x2] from hd 1 (by omega), kp.blk (LLR.out.blk 2 rfl) (by omega)⟩, by simp⟩)
  clear hd kp LLR HSZ HRD
  obtain ⟨q1_0, q1_1⟩ := (LL.out.blk 0 rfl).c2
  go_wp2_with fail
  refine (HE.out _).mono ?_
  rintro e wk ⟨rfl, hb⟩
  replace LL := stL LL hb
  clear hb q1_0 q1_1 ho
  replace LL := Lib.hid (LL.out.loose 2 rfl rfl)
  simp only [List.eraseIdx, List.size_toArray, List.length_cons, List.length_nil, Nat.zero_add, Nat.reduceAdd] at LL
  obtain ⟨ha4_0, hf4_0, ha4_1, hf4_1⟩ := (LL.out.has 0 rfl).sf2
  have LF := Lib.hid (LL.out.write [.float .f64 9218868437227405312, .float .f64 18442240474082181120] rfl (by omega) (by simp <;> omega) (by simp <;> omega))
  obtain ⟨hk4_0, hk4_1⟩ := (LF.out.blk 2 rfl).c2
  simp [sets] at hk4_0 hk4_1
  clear LL
  go_wp2
  refine bodyPost_ret (v := .agg #[.float .f64 9218868437227405312, .float .f64 18442240474082181120]) (by simp [results, Tryz.results27, go_sem, hk4_0, hk4_1]) rfl ?_
  exact ⟨rfl, LF.out.b⟩
set_option maxRecDepth 8000 in
theorem absrev_some (b1 b2 c1 c2 A1 A2 x1 x2 mx r1 r2 : Nat) (d1 d2 : Bool) (w : World) (t1 : ∀ W, Calls Tryz.prog 119 #[.agg #[.float .f64 b1, .float .f64 b2]] W fun e w' => e = .returned (.agg #[.float .f64 A1, .float .f64 A2]) ∧ Below W.heap.size W w') (m1 : Em d1 A1 A2) (t2 : ∀ W, Calls Tryz.prog 119 #[.agg #[.float .f64 c1, .float .f64 c2]] W fun e w' => e = .returned (.agg #[.float .f64 x1, .float .f64 x2]) ∧ Below W.heap.size W w') (m2 : Em d2 x1 x2) (hnn : (d1 || d2) = false) (ho : (FloatKind.f64.format.order A2 0 == some Ordering.lt) = false)
    (hmx : ∀ W ts t, (Builtin.max_ ts t #[.float .f64 A1, .float .f64 0]).run Tryz.prog W = .ok (.float .f64 mx) W) (ht : ∀ W, Calls Tryz.prog 78 #[.agg #[.float .f64 x1, .float .f64 x2], .agg #[.float .f64 mx, .float .f64 mx], .agg #[.float .f64 A2, .float .f64 A2], .bool false] W fun e w' => e = .returned (.agg #[.float .f64 r1, .float .f64 r2]) ∧ Below W.heap.size W w') :
    Calls Tryz.prog 27 #[.agg #[.float .f64 b1, .float .f64 b2], .agg #[.float .f64 c1, .float .f64 c2]] w fun e w' => e = .returned (.agg #[.float .f64 r1, .float .f64 r2]) ∧ Below w.heap.size w w' := by
  have HP := Lib.hid fun W => at_any mx W
  have HQ := Lib.hid fun W => at_any A2 W
  have HT := Lib.hid ht
  clear ht
  have LL := li3 w #[.float .f64 b1, .float .f64 b2] 29 #[.float .f64 c1, .float .f64 c2] 29 #[.float .f64 0, .float .f64 0] 29
  have hrow := Blk.at (W := (((w.alloc (.cells #[.float .f64 b1, .float .f64 b2] 29)).alloc (.cells #[.float .f64 c1, .float .f64 c2] 29)).alloc (.cells #[.float .f64 0, .float .f64 0] 29))) (g := w.heap.size + 1 + 1 + 1) (by simp) 51 #[.pointer (some ⟨w.heap.size, 0, none⟩), .pointer (some ⟨w.heap.size + 1, 0, none⟩)]
  have HRD := Lib.hid (read_n w.heap.size 2 (w.heap.size + 1 + 1 + 1) 2 (fun k : Nat => if k = 0 then (b1, b2) else (c1, c2)) (fun k : Nat => if k = 0 then (A1, A2) else (x1, x2)) (fun k : Nat => if k = 0 then d1 else d2) _ (by omega) (by omega)
    (fun k hk => by match k, hk with | 0, _ => exact hrow.cell 0 | 1, _ => exact hrow.cell 1) (fun k hk => by match k, hk with | 0, _ => exact (LL.out.blk 0 rfl).alloc (.cells #[.pointer (some ⟨w.heap.size, 0, none⟩), .pointer (some ⟨w.heap.size + 1, 0, none⟩)] 51) | 1, _ => exact (LL.out.blk 1 rfl).alloc (.cells #[.pointer (some ⟨w.heap.size, 0, none⟩), .pointer (some ⟨w.heap.size + 1, 0, none⟩)] 51)) (fun k hk => by match k, hk with | 0, _ => exact t1 | 1, _ => exact t2) (fun k hk => by match k, hk with | 0, _ => exact m1 | 1, _ => exact m2))
  rw [show anyB (fun k : Nat => if k = 0 then d1 else d2) 2 = (d1 || d2) from by simp [anyB], hnn] at HRD
  have LLR := Lib.hid (LL.out.alloc (.cells #[.pointer (some ⟨w.heap.size, 0, none⟩), .pointer (some ⟨w.heap.size + 1, 0, none⟩)] 51))
  have HSZ := Lib.hid (show w.heap.size ≤ (((((w.alloc (.cells #[.float .f64 b1, .float .f64 b2] 29)).alloc (.cells #[.float .f64 c1, .float .f64 c2] 29)).alloc (.cells #[.float .f64 0, .float .f64 0] 29))).alloc (.cells #[.pointer (some ⟨w.heap.size, 0, none⟩), .pointer (some ⟨w.heap.size + 1, 0, none⟩)] 51)).heap.size by simp; omega)
  clear t1 m1 t2 m2 hrow hnn LL
  go_enter Tryz.func27, Tryz.ntmps27
  go_wp2_with fail
  refine HRD.out.mono ?_
  rintro e wk ⟨rfl, hd, kp⟩
  have LL := Lib.hid (show Lies w wk [(w.heap.size, 29, #[.float .f64 A1, .float .f64 A2]), ((w.heap.size + 1), 29, #[.float .f64 x1, .float .f64 x2]), ((w.heap.size + 2), 29, #[.float .f64 0, .float .f64 0])] [] from ⟨kp.toBl LLR.out.b HSZ.out (Nat.le_refl _), by simp only [List.mem_cons, List.not_mem_nil, or_false, forall_eq_or_imp, forall_eq]; exact ⟨show Blk wk w.heap.size 29 #[.float .f64 A1, .float .f64 A2] from hd 0 (by omega), show Blk wk (w.heap.size + 1) 29 #[.float .f64 x1, .float .f64 x2] from hd 1 (by omega), kp.blk (LLR.out.blk 2 rfl) (by omega)⟩, by simp⟩)
  clear hd kp LLR HSZ HRD
  obtain ⟨q1_0, q1_1⟩ := (LL.out.blk 0 rfl).c2
  go_upto_region 3 with fail
  clear ho q1_0 q1_1
  replace LL := Lib.hid (LL.out.loose 2 rfl rfl)
  simp only [List.eraseIdx, List.size_toArray, List.length_cons, List.length_nil, Nat.zero_add, Nat.reduceAdd] at LL
  refine regL LL (fun hHeld => ?_)
  clear LL
  generalize World.drew _ = wk at hHeld  ⊢
  refine tk 0 ?_ (hv := by intro W2 hSw; obtain ⟨q0, q1⟩ := (hSw.blk 1 rfl).c2; go_simp; (try with_reducible rfl))
  try simp only [Act.put, lay]
  refine tk 1 ?_
  try simp only [Act.put, lay]
  refine tk 2 ?_ (hv := by intro W2 hSw; obtain ⟨q0, q1⟩ := (hSw.blk 0 rfl).c2; go_simp; (try with_reducible rfl))
  try simp only [Act.put, lay]
  refine tk 5 ?_
  try simp only [Act.put, lay]
  refine tk 6 ?_ (hv := by intro W2 hSw; obtain ⟨q0, q1⟩ := (hSw.blk 0 rfl).c2; go_simp; (try with_reducible rfl))
  try simp only [Act.put, lay]
  refine rdy 3 (fun KK hKK => ?_)
  go_simp
  refine hKK.out _ _ hHeld (fun _ => ?_)
  clear hKK KK hHeld
  rename_i hHeld
  try simp only [Act.put, lay]
  refine rdy 4 (fun KK hKK => ?_)
  go_simp
  refine (HP.out _).mono ?_
  rintro e wk ⟨rfl, hb1⟩
  go_wp2_with fail
  refine hKK.out _ _ (hHeld.keep hb1) (fun _ => ?_)
  clear hKK KK hHeld
  rename_i hHeld
  try simp only [Act.put, lay]
  clear hb1
  refine rdy 7 (fun KK hKK => ?_)
  go_simp
  refine (HQ.out _).mono ?_
  rintro e wk ⟨rfl, hb2⟩
  go_wp2_with fail
  refine hKK.out _ _ (hHeld.keep hb2) (fun _ => ?_)
  clear hKK KK hHeld
  rename_i hHeld
  try simp only [Act.put, lay]
  clear hb2
  refine rdy 8 (fun KK hKK => ?_)
  go_simp
  refine (HT.out _).mono ?_
  rintro e wk ⟨rfl, hb3⟩
  go_wp2_with fail
  refine hKK.out _ _ (hHeld.keep hb3) (fun _ => ?_)
  clear hKK KK hHeld
  rename_i hHeld
  try simp only [Act.put, lay]
  clear hb3
  refine rdy 9 (fun KK hKK => ?_)
  obtain ⟨ha0, hf0, ha1, hf1⟩ := (hHeld.has 0 rfl).sf2
  go_simp
  have HS_0 := (hHeld.has 0 rfl).laid [.float .f64 r1, .float .f64 r2] rfl
  refine hKK.out _ _ (hHeld.over 0 rfl [.float .f64 r1, .float .f64 r2] rfl rfl (by first | omega | exact hHeld.le_of 0 rfl) (by simp <;> omega) (by simp <;> omega)) (fun _ => ?_)
  clear hKK KK hHeld
  rename_i hHeld
  try simp only [Act.put, lay]
  refine wpAnyH_done (by kernel_rfl) ?_ _
  have LB := Lib.hid hHeld.b
  clear hHeld
  obtain ⟨hk4_0, hk4_1⟩ := HS_0.c2
  clear HS_0
  simp [sets] at hk4_0 hk4_1
  go_wp2
  refine bodyPost_ret (v := .agg #[.float .f64 r1, .float .f64 r2]) (by simp [results, Tryz.results27, go_sem, hk4_0, hk4_1]) rfl ?_
  exact ⟨rfl, LB.out⟩
def abr (i2 j2 i j : Int) : Int × Int :=
  if j2 < i2 ∨ j < i ∨ j2 < 0 then ((M : Int), -(M : Int))
  else (min (ctO false i j (max i2 0) (max i2 0) j2 j2).1 (ctO false i j (-j2) (-j2) (-(max i2 0)) (-(max i2 0))).1, max (ctO false i j (max i2 0) (max i2 0) j2 j2).2 (ctO false i j (-j2) (-j2) (-(max i2 0)) (-(max i2 0))).2)
theorem ctO_iv {i j a b : Int} (h : Iv i j) (h0 : ¬ j < i) (ha : -(M : Int) ≤ a ∧ a < M) (hb : -(M : Int) < b ∧ b ≤ M) (hab : a ≤ b) : Iv (ctO false i j a a b b).1 (ctO false i j a a b b).2 := by
  have hM : (M : Int) = 9218868437227405312 := rfl
  unfold ctO
  by_cases c : b < i ∨ j < a
  · rw [if_pos c]; exact Iv.none
  · rw [if_neg c, if_neg (show ¬ (false = true ∧ (a = 0 ∧ a = 0 ∧ j ≤ 0 ∨ b = 0 ∧ b = 0 ∧ 0 ≤ i)) from fun h => by cases h.1)]
    unfold Iv at *
    dsimp only
    omega
theorem negrev_any (c1 c2 x y : Nat) (w : World) (hc1 : c1 < 18446744073709551616) (hc2 : c2 < 18446744073709551616) (hx : x < 18446744073709551616) (hy : y < 18446744073709551616) :
    Calls Tryz.prog 23 #[.agg #[.float .f64 c1, .float .f64 c2], .agg #[.float .f64 x, .float .f64 y]] w fun e w' =>
      e = .returned (.agg #[.float .f64 (pat (it (-(rd c1 c2).2) (-(rd c1 c2).1) (rd x y).1 (rd x y).2).1), .float .f64 (pat (it (-(rd c1 c2).2) (-(rd c1 c2).1) (rd x y).1 (rd x y).2).2)]) ∧ Below w.heap.size w w' :=
  negrev_walk _ _ _ _ _ _ _ _ w (fun W => mirrorf c1 c2 W hc1 hc2) (fun W => inter_gen _ _ _ _ _ _ x y W (rd_iv c1 c2).negg (rd_iv x y) (fun W => readf_idx _ _ W (rd_iv c1 c2).negg) (fun W => readf x y W hx hy))
theorem absrev_any (c1 c2 x y : Nat) (w : World) (hc1 : c1 < 18446744073709551616) (hc2 : c2 < 18446744073709551616) (hx : x < 18446744073709551616) (hy : y < 18446744073709551616) :
    Calls Tryz.prog 27 #[.agg #[.float .f64 c1, .float .f64 c2], .agg #[.float .f64 x, .float .f64 y]] w fun e w' =>
      e = .returned (.agg #[.float .f64 (pat (abr (rd c1 c2).1 (rd c1 c2).2 (rd x y).1 (rd x y).2).1), .float .f64 (pat (abr (rd c1 c2).1 (rd c1 c2).2 (rd x y).1 (rd x y).2).2)]) ∧ Below w.heap.size w w' := by
  have hM : (M : Int) = 9218868437227405312 := rfl
  have v2 := rd_iv c1 c2
  have v3 := rd_iv x y
  have t2 := fun W => readf c1 c2 W hc1 hc2
  have t3 := fun W => readf x y W hx hy
  obtain ⟨⟨i2, j2⟩, r2⟩ : ∃ z, rd c1 c2 = z := ⟨_, rfl⟩
  obtain ⟨⟨i3, j3⟩, r3⟩ : ∃ z, rd x y = z := ⟨_, rfl⟩
  rw [r2] at v2 t2
  rw [r3] at v3 t3
  rw [r2, r3]
  dsimp only at *
  have m2 := em_idx v2
  have m3 := em_idx v3
  unfold abr
  by_cases hno : j2 < i2 ∨ j3 < i3
  · rw [if_pos (by omega), pat_max, pat_min]
    exact absrev_none _ _ _ _ _ _ _ _ _ _ w t2 m2 t3 m3 (by simp; omega)
  · have hnn : (decide (j2 < i2) || decide (j3 < i3)) = false := by simp; omega
    by_cases h0 : j2 < 0
    · rw [if_pos (by omega), pat_max, pat_min]
      exact absrev_neg _ _ _ _ _ _ _ _ _ _ w t2 m2 t3 m3 hnn (ord0_lt v2.hi h0)
    · rw [if_neg (by omega)]
      have n2 := ne_or v2 (by omega)
      unfold Ne at n2
      have hmx := fun W ts t => run_maxf v2.lo (show -(M : Int) ≤ 0 ∧ (0 : Int) ≤ M by omega) W ts t
      rw [pat_zero] at hmx
      have oo : (FloatKind.f64.format.order (pat j2) 0 == some Ordering.lt) = false := by
        by_cases h : j2 = 0
        · rw [ord0_eq h]; rfl
        · rw [ord0_gt v2.hi (by omega)]; rfl
      have ka : -(M : Int) ≤ max i2 0 ∧ max i2 0 ≤ M := by omega
      have kn : -(M : Int) ≤ -max i2 0 ∧ -max i2 0 ≤ M := by omega
      have kj : -(M : Int) ≤ -j2 ∧ -j2 ≤ M := by omega
      refine absrev_some _ _ _ _ _ _ _ _ _ _ _ _ _ w t2 m2 t3 m3 hnn oo hmx fun W => ?_
      exact twice_walk _ _ _ _ _ _ _ _ _ _ _ _ _ _ _ _ false W (fun W => rcut2_any false i3 j3 (max i2 0) (max i2 0) j2 j2 W v3.lo v3.hi ka ka v2.hi v2.hi) (fun W => turned_idx j2 j2 W v2.hi v2.hi) (fun W => turned_idx _ _ W ka ka) (fun W => rcut2_any false i3 j3 (-j2) (-j2) (-max i2 0) (-max i2 0) W v3.lo v3.hi kj kj kn kn)
        (fun W => hullf _ _ _ _ W (ctO_iv v3 (by omega) (by omega) (by omega) (by omega)) (ctO_iv v3 (by omega) (by omega) (by omega) (by omega)))
end Go.Proofs.YtmjkmoahkanblaaGreat

namespace Go.Proofs.YtmjkmoahkanblaaGreat
open Go.RowKit
theorem neg_law {i2 j2 i j : Int} (h2 : Iv i2 j2) (hx : Iv i j) : it (-j2) (-i2) i j = zg i j (L1 (FC (-j2) (-i2))) 1 := by
  rw [zg1, FC_it h2.negg hx]
theorem FD_none1 {i1 j1 i2 j2 i j : Int} (h : j1 ≤ 0) : FD i1 j1 i2 j2 i j = ((M : Int), -(M : Int)) := by unfold FD; rw [if_pos (.inl h)]
theorem FD_none2 {i1 j1 i2 j2 i j : Int} (h : j2 ≤ 0) : FD i1 j1 i2 j2 i j = ((M : Int), -(M : Int)) := by unfold FD; rw [if_pos (.inr h)]
theorem FD_nonex {i1 j1 i2 j2 i j : Int} (h : j < i) : FD i1 j1 i2 j2 i j = ((M : Int), -(M : Int)) := by
  unfold FD
  by_cases h0 : j1 ≤ 0 ∨ j2 ≤ 0
  · rw [if_pos h0]
  · rw [if_neg h0]; unfold pf; rw [if_pos h]
theorem recip_law {i2 j2 i j : Int} (h2 : Iv i2 j2) (hx : Iv i j) : dr2 K1 K1 i2 j2 i j = zg i j (L2 (FD K1 K1 i2 j2) (ngF (FD K1 K1 (-j2) (-i2)))) 2 := by
  have hM : (M : Int) = 9218868437227405312 := rfl
  have hK : K1 = 4607182418800017408 := rfl
  by_cases hno : j2 < i2 ∨ j < i
  · have a : FD K1 K1 i2 j2 i j = ((M : Int), -(M : Int)) := by
      rcases hno with h | h
      · unfold Iv at h2; exact FD_none2 (by omega)
      · exact FD_nonex h
    have b : FD K1 K1 (-j2) (-i2) (-j) (-i) = ((M : Int), -(M : Int)) := by
      rcases hno with h | h
      · unfold Iv at h2; exact FD_none2 (by omega)
      · exact FD_nonex (by omega)
    have c : ngF (FD K1 K1 (-j2) (-i2)) i j = ((M : Int), -(M : Int)) := by unfold ngF; rw [b]; simp
    rw [zg2 (by rw [a]; exact Iv.none) (by rw [c]; exact Iv.none), a, c]
    unfold dr2
    rw [if_pos (by omega), Prod.mk.injEq]; dsimp only; omega
  · have n2 := ne_or h2 (by omega)
    have nx := ne_or hx (by omega)
    unfold Ne at n2
    have v1 := FD_iv (i1 := K1) (j1 := K1) (i2 := i2) (j2 := j2) (Int.le_refl _) (by omega) i j hx
    have v2 := FD_iv (i1 := K1) (j1 := K1) (i2 := -j2) (j2 := -i2) (Int.le_refl _) (by omega) (-j) (-i) hx.negg
    have v3 : Iv (ngF (FD K1 K1 (-j2) (-i2)) i j).1 (ngF (FD K1 K1 (-j2) (-i2)) i j).2 := v2.negg
    rw [zg2 v1 v3]
    unfold dr2 ngF
    rw [if_neg (by omega), if_neg (by omega), FD_none1 (i1 := -K1) (j1 := -K1) (i2 := -j2) (by omega), FD_none1 (i1 := -K1) (j1 := -K1) (i2 := i2) (by omega), Prod.mk.injEq]
    dsimp only
    have b1 := v1.lo
    have b2 := v1.hi
    have b3 := v2.lo
    have b4 := v2.hi
    omega
theorem abs_law {i2 j2 i j : Int} (h2 : Iv i2 j2) (hx : Iv i j) : abr i2 j2 i j = zg i j (L2 (FC (lwI i2 j2) (lwJ j2)) (ngF (FC (lwI i2 j2) (lwJ j2)))) 2 := by
  have hM : (M : Int) = 9218868437227405312 := rfl
  have vl : Iv (lwI i2 j2) (lwJ j2) := by
    unfold lwI lwJ
    unfold Iv at *
    by_cases h : j2 < 0
    · rw [if_pos h, if_pos h]; exact .inr ⟨rfl, rfl⟩
    · rw [if_neg h, if_neg h]; omega
  have v1 := FC_iv vl hx
  have v2 := FC_iv vl hx.negg
  have v3 : Iv (ngF (FC (lwI i2 j2) (lwJ j2)) i j).1 (ngF (FC (lwI i2 j2) (lwJ j2)) i j).2 := v2.negg
  rw [zg2 v1 v3]
  unfold ngF
  rw [FC_it vl hx, FC_it vl hx.negg]
  unfold abr lwI lwJ
  unfold Iv at h2 hx
  by_cases h : j2 < 0
  · rw [if_pos (by omega), if_pos h, if_pos h]
    unfold it
    rw [if_pos (by omega), if_pos (by omega), Prod.mk.injEq]
    dsimp only; omega
  · rw [if_neg h, if_neg h]
    by_cases hn : j2 < i2 ∨ j < i ∨ j2 < 0
    · rw [if_pos hn]
      unfold it
      rw [if_pos (by omega), if_pos (by omega), Prod.mk.injEq]
      dsimp only; omega
    · rw [if_neg hn]
      unfold ctO it
      by_cases a : j2 < i ∨ j < max i2 0
      · rw [if_pos a, if_pos (show j2 < max i2 0 ∨ j < i ∨ min j2 j < max (max i2 0) i by omega)]
        by_cases b : -max i2 0 < i ∨ j < -j2
        · rw [if_pos b, if_pos (show j2 < max i2 0 ∨ -i < -j ∨ min j2 (-i) < max (max i2 0) (-j) by omega), Prod.mk.injEq]; dsimp only; omega
        · rw [if_neg b, if_neg (show ¬ (false = true ∧ (-j2 = 0 ∧ -j2 = 0 ∧ j ≤ 0 ∨ -max i2 0 = 0 ∧ -max i2 0 = 0 ∧ 0 ≤ i)) from fun h => by cases h.1), if_neg (show ¬ (j2 < max i2 0 ∨ -i < -j ∨ min j2 (-i) < max (max i2 0) (-j)) by omega), Prod.mk.injEq]; dsimp only; omega
      · rw [if_neg a, if_neg (show ¬ (false = true ∧ (max i2 0 = 0 ∧ max i2 0 = 0 ∧ j ≤ 0 ∨ j2 = 0 ∧ j2 = 0 ∧ 0 ≤ i)) from fun h => by cases h.1), if_neg (show ¬ (j2 < max i2 0 ∨ j < i ∨ min j2 j < max (max i2 0) i) by omega)]
        by_cases b : -max i2 0 < i ∨ j < -j2
        · rw [if_pos b, if_pos (show j2 < max i2 0 ∨ -i < -j ∨ min j2 (-i) < max (max i2 0) (-j) by omega), Prod.mk.injEq]; dsimp only; omega
        · rw [if_neg b, if_neg (show ¬ (false = true ∧ (-j2 = 0 ∧ -j2 = 0 ∧ j ≤ 0 ∨ -max i2 0 = 0 ∧ -max i2 0 = 0 ∧ 0 ≤ i)) from fun h => by cases h.1), if_neg (show ¬ (j2 < max i2 0 ∨ -i < -j ∨ min j2 (-i) < max (max i2 0) (-j)) by omega), Prod.mk.injEq]; dsimp only; omega
end Go.Proofs.YtmjkmoahkanblaaGreat

namespace Go.Proofs.YtmjkmoahkanblaaGreat
open Go.RowKit
attribute [local go_sem] run_store_float
set_option maxRecDepth 4000 in
theorem plain_law (c1 c2 x y : Nat) (w : World) (hc1 : c1 < 18446744073709551616) (hc2 : c2 < 18446744073709551616) (hx : x < 18446744073709551616) (hy : y < 18446744073709551616) :
    Calls Tryz.prog 5 #[.agg #[.int .u64 (c1 : Int), .int .u64 (c2 : Int)], .agg #[.int .u64 (x : Int), .int .u64 (y : Int)]] w fun e w' => e = .returned (.bool true) ∧ Below w.heap.size w w' := by
  have v1 := rd_iv c1 c2
  have v2 := rd_iv x y
  have R1 := Lib.hid fun W => negrev_any c1 c2 x y W hc1 hc2 hx hy
  rw [neg_law v1 v2] at R1
  have R2 := Lib.hid fun W => refneg_any c1 c2 x y W hc1 hc2 hx hy
  have R3 := Lib.hid fun W => reciprev_any c1 c2 x y W hc1 hc2 hx hy
  rw [recip_law v1 v2] at R3
  have R4 := Lib.hid fun W => refrecip_any c1 c2 x y W hc1 hc2 hx hy
  have R5 := Lib.hid fun W => absrev_any c1 c2 x y W hc1 hc2 hx hy
  rw [abs_law v1 v2] at R5
  have R6 := Lib.hid fun W => refabs_any c1 c2 x y W hc1 hc2 hx hy
  obtain ⟨A0, ea0⟩ : ∃ z, pat (zg (rd x y).1 (rd x y).2 (L1 (FC (-(rd c1 c2).2) (-(rd c1 c2).1))) 1).1 = z := ⟨_, rfl⟩
  obtain ⟨B0, eb0⟩ : ∃ z, pat (zg (rd x y).1 (rd x y).2 (L1 (FC (-(rd c1 c2).2) (-(rd c1 c2).1))) 1).2 = z := ⟨_, rfl⟩
  rw [ea0, eb0] at R1 R2
  have O1 := Lib.hid fun W => law_out A0 B0 W
  obtain ⟨A1, ea1⟩ : ∃ z, pat (zg (rd x y).1 (rd x y).2 (L2 (FD K1 K1 (rd c1 c2).1 (rd c1 c2).2) (ngF (FD K1 K1 (-(rd c1 c2).2) (-(rd c1 c2).1)))) 2).1 = z := ⟨_, rfl⟩
  obtain ⟨B1, eb1⟩ : ∃ z, pat (zg (rd x y).1 (rd x y).2 (L2 (FD K1 K1 (rd c1 c2).1 (rd c1 c2).2) (ngF (FD K1 K1 (-(rd c1 c2).2) (-(rd c1 c2).1)))) 2).2 = z := ⟨_, rfl⟩
  rw [ea1, eb1] at R3 R4
  have O2 := Lib.hid fun W => law_out A1 B1 W
  obtain ⟨A2, ea2⟩ : ∃ z, pat (zg (rd x y).1 (rd x y).2 (L2 (FC (lwI (rd c1 c2).1 (rd c1 c2).2) (lwJ (rd c1 c2).2)) (ngF (FC (lwI (rd c1 c2).1 (rd c1 c2).2) (lwJ (rd c1 c2).2)))) 2).1 = z := ⟨_, rfl⟩
  obtain ⟨B2, eb2⟩ : ∃ z, pat (zg (rd x y).1 (rd x y).2 (L2 (FC (lwI (rd c1 c2).1 (rd c1 c2).2) (lwJ (rd c1 c2).2)) (ngF (FC (lwI (rd c1 c2).1 (rd c1 c2).2) (lwJ (rd c1 c2).2)))) 2).2 = z := ⟨_, rfl⟩
  rw [ea2, eb2] at R5 R6
  have O3 := Lib.hid fun W => law_out A2 B2 W
  have I1 := Lib.hid fun W => law_in c1 c2 W
  have I2 := Lib.hid fun W => law_in x y W
  clear ea0 eb0 ea1 eb1 ea2 eb2 hc1 hc2 hx hy v1 v2
  obtain ⟨LB0, LG0_0, LG1_0⟩ := bx2 w #[.int .u64 (c1 : Int), .int .u64 (c2 : Int)] 24 #[.int .u64 (x : Int), .int .u64 (y : Int)] 24
  go_enter Tryz.func5, Tryz.ntmps5
  go_wp2_with fail
  refine wp_region_held_drew (S := fun W' => Blk W' w.heap.size 24 #[.int .u64 (c1 : Int), .int .u64 (c2 : Int)] ∧ Blk W' (w.heap.size + 1) 24 #[.int .u64 (x : Int), .int .u64 (y : Int)] ∧ Below w.heap.size w W') (by kernel_rfl) (by exact ⟨LG0_0.out.drew, LG1_0.out.drew, LB0.out.drew⟩) (fun hHeld => ?_)
  refine tk 0 ?_ (hv := by intro W2 hSw; obtain ⟨q0, q1⟩ := hSw.1.c2; go_simp; (try with_reducible rfl))
  try simp only [Act.put, lay]
  refine tk 2 ?_ (hv := by intro W2 hSw; obtain ⟨q0, q1⟩ := hSw.2.1.c2; go_simp; (try with_reducible rfl))
  try simp only [Act.put, lay]
  refine tk 6 ?_ (hv := by intro W2 hSw; obtain ⟨q0, q1⟩ := hSw.1.c2; go_simp; (try with_reducible rfl))
  try simp only [Act.put, lay]
  refine tk 7 ?_ (hv := by intro W2 hSw; obtain ⟨q0, q1⟩ := hSw.2.1.c2; go_simp; (try with_reducible rfl))
  try simp only [Act.put, lay]
  refine rdy 1 (fun KK hKK => ?_)
  go_simp
  refine (I1.out _).mono ?_
  rintro e w1 ⟨rfl, hba⟩
  go_wp2_with fail
  refine hKK.out _ _ (⟨hHeld.1.keep hba, hHeld.2.1.keep hba, hHeld.2.2.trans (hba.mono hHeld.2.2.size)⟩) (fun _ => ?_)
  clear hKK KK hHeld; rename_i hHeld
  try simp only [Act.put, lay]
  refine rdy 3 (fun KK hKK => ?_)
  go_simp
  refine (I2.out _).mono ?_
  rintro e w2 ⟨rfl, hbb⟩
  go_wp2_with fail
  refine hKK.out _ _ (⟨hHeld.1.keep hbb, hHeld.2.1.keep hbb, hHeld.2.2.trans (hbb.mono hHeld.2.2.size)⟩) (fun _ => ?_)
  clear hKK KK hHeld; rename_i hHeld
  try simp only [Act.put, lay]
  refine rdy 4 (fun KK hKK => ?_)
  go_simp
  refine (R1.out _).mono ?_
  rintro e w3 ⟨rfl, hbc⟩
  go_wp2_with fail
  refine hKK.out _ _ (⟨hHeld.1.keep hbc, hHeld.2.1.keep hbc, hHeld.2.2.trans (hbc.mono hHeld.2.2.size)⟩) (fun _ => ?_)
  clear hKK KK hHeld; rename_i hHeld
  try simp only [Act.put, lay]
  refine rdy 5 (fun KK hKK => ?_)
  go_simp
  refine (O1.out _).mono ?_
  rintro e w4 ⟨rfl, hbd⟩
  go_wp2_with fail
  refine hKK.out _ _ (⟨hHeld.1.keep hbd, hHeld.2.1.keep hbd, hHeld.2.2.trans (hbd.mono hHeld.2.2.size)⟩) (fun _ => ?_)
  clear hKK KK hHeld; rename_i hHeld
  try simp only [Act.put, lay]
  refine rdy 8 (fun KK hKK => ?_)
  go_simp
  refine (R2.out _).mono ?_
  rintro e w5 ⟨rfl, hbe⟩
  go_wp2_with fail
  refine hKK.out _ _ (⟨hHeld.1.keep hbe, hHeld.2.1.keep hbe, hHeld.2.2.trans (hbe.mono hHeld.2.2.size)⟩) (fun _ => ?_)
  clear hKK KK hHeld; rename_i hHeld
  try simp only [Act.put, lay]
  refine tk 9 ?_
  try simp only [Act.put, lay]
  refine tk 10 ?_
  try simp only [Act.put, lay]
  refine tk 11 ?_ (hv := by intro W2 hSw; obtain ⟨q0, q1⟩ := hSw.1.c2; go_simp; (try with_reducible rfl))
  try simp only [Act.put, lay]
  refine tk 13 ?_ (hv := by intro W2 hSw; obtain ⟨q0, q1⟩ := hSw.2.1.c2; go_simp; (try with_reducible rfl))
  try simp only [Act.put, lay]
  refine tk 17 ?_ (hv := by intro W2 hSw; obtain ⟨q0, q1⟩ := hSw.1.c2; go_simp; (try with_reducible rfl))
  try simp only [Act.put, lay]
  refine tk 18 ?_ (hv := by intro W2 hSw; obtain ⟨q0, q1⟩ := hSw.2.1.c2; go_simp; (try with_reducible rfl))
  try simp only [Act.put, lay]
  refine rdy 12 (fun KK hKK => ?_)
  go_simp
  refine (I1.out _).mono ?_
  rintro e w6 ⟨rfl, hbf⟩
  go_wp2_with fail
  refine hKK.out _ _ (⟨hHeld.1.keep hbf, hHeld.2.1.keep hbf, hHeld.2.2.trans (hbf.mono hHeld.2.2.size)⟩) (fun _ => ?_)
  clear hKK KK hHeld; rename_i hHeld
  try simp only [Act.put, lay]
  refine rdy 14 (fun KK hKK => ?_)
  go_simp
  refine (I2.out _).mono ?_
  rintro e w7 ⟨rfl, hbg⟩
  go_wp2_with fail
  refine hKK.out _ _ (⟨hHeld.1.keep hbg, hHeld.2.1.keep hbg, hHeld.2.2.trans (hbg.mono hHeld.2.2.size)⟩) (fun _ => ?_)
  clear hKK KK hHeld; rename_i hHeld
  try simp only [Act.put, lay]
  refine rdy 15 (fun KK hKK => ?_)
  go_simp
  refine (R3.out _).mono ?_
  rintro e w8 ⟨rfl, hbh⟩
  go_wp2_with fail
  refine hKK.out _ _ (⟨hHeld.1.keep hbh, hHeld.2.1.keep hbh, hHeld.2.2.trans (hbh.mono hHeld.2.2.size)⟩) (fun _ => ?_)
  clear hKK KK hHeld; rename_i hHeld
  try simp only [Act.put, lay]
  refine rdy 16 (fun KK hKK => ?_)
  go_simp
  refine (O2.out _).mono ?_
  rintro e w9 ⟨rfl, hbi⟩
  go_wp2_with fail
  refine hKK.out _ _ (⟨hHeld.1.keep hbi, hHeld.2.1.keep hbi, hHeld.2.2.trans (hbi.mono hHeld.2.2.size)⟩) (fun _ => ?_)
  clear hKK KK hHeld; rename_i hHeld
  try simp only [Act.put, lay]
  refine rdy 19 (fun KK hKK => ?_)
  go_simp
  refine (R4.out _).mono ?_
  rintro e w10 ⟨rfl, hbj⟩
  go_wp2_with fail
  refine hKK.out _ _ (⟨hHeld.1.keep hbj, hHeld.2.1.keep hbj, hHeld.2.2.trans (hbj.mono hHeld.2.2.size)⟩) (fun _ => ?_)
  clear hKK KK hHeld; rename_i hHeld
  try simp only [Act.put, lay]
  refine tk 20 ?_
  try simp only [Act.put, lay]
  refine tk 21 ?_
  try simp only [Act.put, lay]
  refine tk 22 ?_
  try simp only [Act.put, lay]
  refine tk 23 ?_ (hv := by intro W2 hSw; obtain ⟨q0, q1⟩ := hSw.1.c2; go_simp; (try with_reducible rfl))
  try simp only [Act.put, lay]
  refine tk 25 ?_ (hv := by intro W2 hSw; obtain ⟨q0, q1⟩ := hSw.2.1.c2; go_simp; (try with_reducible rfl))
  try simp only [Act.put, lay]
  refine tk 29 ?_ (hv := by intro W2 hSw; obtain ⟨q0, q1⟩ := hSw.1.c2; go_simp; (try with_reducible rfl))
  try simp only [Act.put, lay]
  refine tk 30 ?_ (hv := by intro W2 hSw; obtain ⟨q0, q1⟩ := hSw.2.1.c2; go_simp; (try with_reducible rfl))
  try simp only [Act.put, lay]
  refine rdy 24 (fun KK hKK => ?_)
  go_simp
  refine (I1.out _).mono ?_
  rintro e w11 ⟨rfl, hbk⟩
  go_wp2_with fail
  refine hKK.out _ _ (⟨hHeld.1.keep hbk, hHeld.2.1.keep hbk, hHeld.2.2.trans (hbk.mono hHeld.2.2.size)⟩) (fun _ => ?_)
  clear hKK KK hHeld; rename_i hHeld
  try simp only [Act.put, lay]
  refine rdy 26 (fun KK hKK => ?_)
  go_simp
  refine (I2.out _).mono ?_
  rintro e w12 ⟨rfl, hbl⟩
  go_wp2_with fail
  refine hKK.out _ _ (⟨hHeld.1.keep hbl, hHeld.2.1.keep hbl, hHeld.2.2.trans (hbl.mono hHeld.2.2.size)⟩) (fun _ => ?_)
  clear hKK KK hHeld; rename_i hHeld
  try simp only [Act.put, lay]
  refine rdy 27 (fun KK hKK => ?_)
  go_simp
  refine (R5.out _).mono ?_
  rintro e w13 ⟨rfl, hbm⟩
  go_wp2_with fail
  refine hKK.out _ _ (⟨hHeld.1.keep hbm, hHeld.2.1.keep hbm, hHeld.2.2.trans (hbm.mono hHeld.2.2.size)⟩) (fun _ => ?_)
  clear hKK KK hHeld; rename_i hHeld
  try simp only [Act.put, lay]
  refine rdy 28 (fun KK hKK => ?_)
  go_simp
  refine (O3.out _).mono ?_
  rintro e w14 ⟨rfl, hbn⟩
  go_wp2_with fail
  refine hKK.out _ _ (⟨hHeld.1.keep hbn, hHeld.2.1.keep hbn, hHeld.2.2.trans (hbn.mono hHeld.2.2.size)⟩) (fun _ => ?_)
  clear hKK KK hHeld; rename_i hHeld
  try simp only [Act.put, lay]
  refine rdy 31 (fun KK hKK => ?_)
  go_simp
  refine (R6.out _).mono ?_
  rintro e w15 ⟨rfl, hbo⟩
  go_wp2_with fail
  refine hKK.out _ _ (⟨hHeld.1.keep hbo, hHeld.2.1.keep hbo, hHeld.2.2.trans (hbo.mono hHeld.2.2.size)⟩) (fun _ => ?_)
  clear hKK KK hHeld; rename_i hHeld
  try simp only [Act.put, lay]
  refine tk 32 ?_
  try simp only [Act.put, lay]
  refine tk 33 ?_
  try simp only [Act.put, lay]
  refine tk 34 ?_
  try simp only [Act.put, lay]
  refine wpAnyH_done (by kernel_rfl) ?_ _
  have HF := Lib.hid hHeld.2.2
  clear hHeld hba hbb hbc hbd hbe hbf hbg hbh hbi hbj hbk hbl hbm hbn hbo R1 R2 R3 R4 R5 R6 O1 O2 O3 I1 I2
  go_wp2
  go_ret
  exact ⟨rfl, HF.out⟩
end Go.Proofs.YtmjkmoahkanblaaGreat
