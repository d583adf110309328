/-
Walk: RevPairs.
-/
import Derived.Test.YtmjkmoahkanblaaGreatM34
import Derived.Deep.DeepCutAuto
set_option linter.unusedSimpArgs false
set_option linter.unusedVariables false
set_option maxHeartbeats 12800000

namespace Go.Proofs.YtmjkmoahkanblaaGreat
open Go.RowKit
attribute [local go_sem] run_store_float
set_option maxRecDepth 8000 in
theorem pairs_law (b1 b2 c1 c2 : Nat) (w : World) (hb1 : b1 < 18446744073709551616) (hb2 : b2 < 18446744073709551616) (hc1 : c1 < 18446744073709551616) (hc2 : c2 < 18446744073709551616) :
    Calls Tryz.prog 7 #[.agg #[.int .u64 (b1 : Int), .int .u64 (b2 : Int)], .agg #[.int .u64 (c1 : Int), .int .u64 (c2 : Int)]] w fun e w' => e = .returned (.bool true) ∧ Below w.heap.size w w' := by
  have R1 := Lib.hid fun W => mulpair_any b1 b2 c1 c2 W hb1 hb2 hc1 hc2
  have R2 := Lib.hid fun W => refmulpair_any b1 b2 c1 c2 W hb1 hb2 hc1 hc2
  obtain ⟨P1, e1⟩ : ∃ z, pat (prL (rd b1 b2).1 (rd b1 b2).2 (rd c1 c2).1 (rd c1 c2).2).1 = z := ⟨_, rfl⟩
  obtain ⟨P2, e2⟩ : ∃ z, pat (prL (rd b1 b2).1 (rd b1 b2).2 (rd c1 c2).1 (rd c1 c2).2).2 = z := ⟨_, rfl⟩
  rw [e1, e2] at R1 R2
  clear e1 e2
  have O1 := Lib.hid fun W => law_out P1 P2 W
  obtain ⟨Q1, e1⟩ : ∃ z, pat (prU (rd b1 b2).1 (rd b1 b2).2 (rd c1 c2).1 (rd c1 c2).2).1 = z := ⟨_, rfl⟩
  obtain ⟨Q2, e2⟩ : ∃ z, pat (prU (rd b1 b2).1 (rd b1 b2).2 (rd c1 c2).1 (rd c1 c2).2).2 = z := ⟨_, rfl⟩
  rw [e1, e2] at R1 R2
  clear e1 e2
  have O2 := Lib.hid fun W => law_out Q1 Q2 W
  have I1 := Lib.hid fun W => law_in b1 b2 W
  have I2 := Lib.hid fun W => law_in c1 c2 W
  clear hb1 hb2 hc1 hc2
  have LL := li2 w #[.int .u64 (b1 : Int), .int .u64 (b2 : Int)] 24 #[.int .u64 (c1 : Int), .int .u64 (c2 : Int)] 24
  go_enter Tryz.func7, Tryz.ntmps7
  go_upto_region 1 with fail
  go_cut [5, 6] (fun s5 s6 wx => ∃ (j5 j6 : Nat), s5 = .pointer (some ⟨j5, 0, none⟩) ∧ s6 = .pointer (some ⟨j6, 0, none⟩) ∧ (w.heap.size + 1 < j5 ∧ w.heap.size + 1 < j6 ∧ j5 ≠ j6) ∧ Lies w wx [(w.heap.size, 24, #[.int .u64 (b1 : Int), .int .u64 (b2 : Int)]), ((w.heap.size + 1), 24, #[.int .u64 (c1 : Int), .int .u64 (c2 : Int)]), (j5, 29, #[.float .f64 P1, .float .f64 P2]), (j6, 29, #[.float .f64 Q1, .float .f64 Q2])] [])
  case first =>
    refine regL LL (fun hHeld => ?_)
    clear LL
    obtain ⟨wk, hwk⟩ : ∃ X, (((w.alloc (.cells #[.int .u64 (b1 : Int), .int .u64 (b2 : Int)] 24)).alloc (.cells #[.int .u64 (c1 : Int), .int .u64 (c2 : Int)] 24))).drew = X := ⟨_, rfl⟩
    rw [hwk] at hHeld  ⊢
    clear hwk
    refine tk 0 ?_ (hv := by intro W2 hSw; obtain ⟨q0, q1⟩ := (hSw.blk 0 rfl).c2; go_simp; (try with_reducible rfl))
    try simp only [Act.put, lay]
    refine tk 2 ?_ (hv := by intro W2 hSw; obtain ⟨q0, q1⟩ := (hSw.blk 1 rfl).c2; go_simp; (try with_reducible rfl))
    try simp only [Act.put, lay]
    repeat' first
      | (have hx := hC1; clear hx; go_simp; refine (I1.out _).mono ?_; rintro e wk ⟨rfl, hb1⟩; go_wp2_with fail; refine hC1.out _ _ (hHeld.keep hb1) (fun _ => ?_); clear hC1 KK hHeld; rename_i hHeld; (try simp only [Act.put, lay]); (try replace B_j5 := B_j5.keep hb1); (try replace B_j6 := B_j6.keep hb1); clear hb1; have mk1 := True.intro)
      | (have hx := hC3; clear hx; go_simp; refine (I2.out _).mono ?_; rintro e wk ⟨rfl, hb2⟩; go_wp2_with fail; refine hC3.out _ _ (hHeld.keep hb2) (fun _ => ?_); clear hC3 KK hHeld; rename_i hHeld; (try simp only [Act.put, lay]); (try replace B_j5 := B_j5.keep hb2); (try replace B_j6 := B_j6.keep hb2); clear hb2; have mk3 := True.intro)
      | (have hx := hC4; clear hx; go_simp; refine (R1.out _).mono ?_; rintro e wk ⟨rfl, hb3⟩; go_wp2_with fail; refine hC4.out _ _ (hHeld.keep hb3) (fun _ => ?_); clear hC4 KK hHeld; rename_i hHeld; (try simp only [Act.put, lay]); (try replace B_j5 := B_j5.keep hb3); (try replace B_j6 := B_j6.keep hb3); clear hb3; have mk4 := True.intro)
      | (have hx := hA8; clear hx; go_simp; obtain ⟨j5, hg, hb_j5, hl_j5, hr_j5, B_j5⟩ := hHeld.fresh 29 #[.float .f64 0, .float .f64 0]; refine hA8.out _ _ (hHeld.alloc _) (fun _ => ?_); clear hA8 KK hHeld; rename_i hHeld; (try simp only [Act.put, lay]); (try simp only [List.mem_cons, List.not_mem_nil, or_false, forall_eq_or_imp, forall_eq, false_imp_iff, implies_true] at hl_j5 hr_j5); (try (have hx_j5 := B_j6.lt; rw [hg] at hx_j5; replace B_j6 := B_j6.alloc (.cells #[.float .f64 0, .float .f64 0] 29))); rw [hg]; clear hg; obtain ⟨wk, hwk⟩ : ∃ X, wk.alloc (.cells #[.float .f64 0, .float .f64 0] 29) = X := ⟨_, rfl⟩; rw [hwk] at B_j5 hHeld  ⊢; (try rw [hwk] at B_j6); clear hwk; have mk8 := True.intro)
      | (have hx := hA9; clear hx; go_simp; obtain ⟨j6, hg, hb_j6, hl_j6, hr_j6, B_j6⟩ := hHeld.fresh 29 #[.float .f64 0, .float .f64 0]; refine hA9.out _ _ (hHeld.alloc _) (fun _ => ?_); clear hA9 KK hHeld; rename_i hHeld; (try simp only [Act.put, lay]); (try simp only [List.mem_cons, List.not_mem_nil, or_false, forall_eq_or_imp, forall_eq, false_imp_iff, implies_true] at hl_j6 hr_j6); (try (have hx_j6 := B_j5.lt; rw [hg] at hx_j6; replace B_j5 := B_j5.alloc (.cells #[.float .f64 0, .float .f64 0] 29))); rw [hg]; clear hg; obtain ⟨wk, hwk⟩ : ∃ X, wk.alloc (.cells #[.float .f64 0, .float .f64 0] 29) = X := ⟨_, rfl⟩; rw [hwk] at B_j6 hHeld  ⊢; (try rw [hwk] at B_j5); clear hwk; have mk9 := True.intro)
      | (have hx := hS10; clear hx; have qz0 := B_j5.ce 0 rfl; have fz0 := B_j5.frozen 0; have qz1 := B_j5.ce 1 rfl; have fz1 := B_j5.frozen 1; go_simp; refine hS10.out _ _ (hHeld.far [.float .f64 P1, .float .f64 P2] 0 hb_j5 (by simp <;> omega) (by simp <;> omega)) (fun _ => ?_); clear hS10 KK hHeld; rename_i hHeld; (try simp only [Act.put, lay]); replace B_j5 := (show Blk (sets wk j5 0 [.float .f64 P1, .float .f64 P2]) j5 29 #[.float .f64 P1, .float .f64 P2] from by have hbs := Blk.sets [.float .f64 P1, .float .f64 P2] 0 _ _ B_j5; simpa [laid] using hbs); replace B_j6 := B_j6.other (r := j5) (by omega) 0 [.float .f64 P1, .float .f64 P2]; replace hHeld := (show Lies _ (sets wk j5 0 [.float .f64 P1, .float .f64 P2]) _ _ from hHeld); obtain ⟨wk, hwn⟩ : ∃ X, sets wk j5 0 [.float .f64 P1, .float .f64 P2] = X := ⟨_, rfl⟩; rw [hwn] at hHeld B_j5 B_j6 ; simp only [sets] at hwn; rw [hwn]; clear hwn qz0 fz0 qz1 fz1; have mk10 := True.intro)
      | (have hx := hS11; clear hx; have qz0 := B_j6.ce 0 rfl; have fz0 := B_j6.frozen 0; have qz1 := B_j6.ce 1 rfl; have fz1 := B_j6.frozen 1; go_simp; refine hS11.out _ _ (hHeld.far [.float .f64 Q1, .float .f64 Q2] 0 hb_j6 (by simp <;> omega) (by simp <;> omega)) (fun _ => ?_); clear hS11 KK hHeld; rename_i hHeld; (try simp only [Act.put, lay]); replace B_j6 := (show Blk (sets wk j6 0 [.float .f64 Q1, .float .f64 Q2]) j6 29 #[.float .f64 Q1, .float .f64 Q2] from by have hbs := Blk.sets [.float .f64 Q1, .float .f64 Q2] 0 _ _ B_j6; simpa [laid] using hbs); replace B_j5 := B_j5.other (r := j6) (by omega) 0 [.float .f64 Q1, .float .f64 Q2]; replace hHeld := (show Lies _ (sets wk j6 0 [.float .f64 Q1, .float .f64 Q2]) _ _ from hHeld); obtain ⟨wk, hwn⟩ : ∃ X, sets wk j6 0 [.float .f64 Q1, .float .f64 Q2] = X := ⟨_, rfl⟩; rw [hwn] at hHeld B_j5 B_j6 ; simp only [sets] at hwn; rw [hwn]; clear hwn qz0 fz0 qz1 fz1; have mk11 := True.intro)
      | (have hx := mk1; have hx := mk3; have hx := mk4; have hx := mk5; have hx := mk6; have hx := mk7; have hx := mk8; have hx := mk9; have hx := mk10; have hx := mk11; refine wpAnyH_done (by kernel_rfl) ?_ _; clear hx mk1 mk3 mk4 mk5 mk6 mk7 mk8 mk9 mk10 mk11; go_wp2_with fail; go_meet; exact ⟨j5, j6, rfl, rfl, ⟨by omega, by omega, by omega⟩, (hHeld.put B_j5).put B_j6⟩)
      | (have hx := mk1; have hx := mk3; have hx := mk4; have hx := mk5; have hx := mk6; have hx := mk7; have hx := mk8; have hx := mk9; have hx := mk10; refine rdy 11 (fun KK hS11 => ?_))
      | (have hx := mk1; have hx := mk3; have hx := mk4; have hx := mk5; have hx := mk6; have hx := mk7; have hx := mk8; have hx := mk9; refine rdy 10 (fun KK hS10 => ?_))
      | (have hx := mk1; have hx := mk3; have hx := mk4; have hx := mk5; have hx := mk6; have hx := mk8; have hx := mk9; refine tk 7 ?_; (try simp only [Act.put, lay]); have mk7 := True.intro)
      | (have hx := mk1; have hx := mk3; have hx := mk4; have hx := mk5; have hx := mk6; have hx := mk7; have hx := mk9; refine rdy 8 (fun KK hA8 => ?_))
      | (have hx := mk1; have hx := mk3; have hx := mk4; have hx := mk5; have hx := mk6; have hx := mk7; have hx := mk8; refine rdy 9 (fun KK hA9 => ?_))
      | (have hx := mk1; have hx := mk3; have hx := mk4; have hx := mk5; have hx := mk8; have hx := mk9; refine tk 6 ?_; (try simp only [Act.put, lay]); have mk6 := True.intro)
      | (have hx := mk1; have hx := mk3; have hx := mk4; have hx := mk5; have hx := mk6; have hx := mk9; refine tk 7 ?_; (try simp only [Act.put, lay]); have mk7 := True.intro)
      | (have hx := mk1; have hx := mk3; have hx := mk4; have hx := mk5; have hx := mk6; have hx := mk8; refine tk 7 ?_; (try simp only [Act.put, lay]); have mk7 := True.intro)
      | (have hx := mk1; have hx := mk3; have hx := mk4; have hx := mk5; have hx := mk6; have hx := mk7; refine rd2 8 9 (fun KK hA8 => ?_) (fun KK hA9 => ?_))
      | (have hx := mk1; have hx := mk3; have hx := mk4; have hx := mk8; have hx := mk9; refine tk 5 ?_; (try simp only [Act.put, lay]); have mk5 := True.intro)
      | (have hx := mk1; have hx := mk3; have hx := mk4; have hx := mk5; have hx := mk9; refine tk 6 ?_; (try simp only [Act.put, lay]); have mk6 := True.intro)
      | (have hx := mk1; have hx := mk3; have hx := mk4; have hx := mk5; have hx := mk8; refine tk 6 ?_; (try simp only [Act.put, lay]); have mk6 := True.intro)
      | (have hx := mk1; have hx := mk3; have hx := mk4; have hx := mk5; have hx := mk6; refine tk 7 ?_; (try simp only [Act.put, lay]); have mk7 := True.intro)
      | (have hx := mk1; have hx := mk3; have hx := mk8; have hx := mk9; refine rdy 4 (fun KK hC4 => ?_))
      | (have hx := mk1; have hx := mk3; have hx := mk4; have hx := mk9; refine tk 5 ?_; (try simp only [Act.put, lay]); have mk5 := True.intro)
      | (have hx := mk1; have hx := mk3; have hx := mk4; have hx := mk8; refine tk 5 ?_; (try simp only [Act.put, lay]); have mk5 := True.intro)
      | (have hx := mk1; have hx := mk3; have hx := mk4; have hx := mk5; refine tk 6 ?_; (try simp only [Act.put, lay]); have mk6 := True.intro)
      | (have hx := mk1; have hx := mk8; have hx := mk9; refine rdy 3 (fun KK hC3 => ?_))
      | (have hx := mk1; have hx := mk3; have hx := mk9; refine rd2 4 8 (fun KK hC4 => ?_) (fun KK hA8 => ?_))
      | (have hx := mk1; have hx := mk3; have hx := mk8; refine rd2 4 9 (fun KK hC4 => ?_) (fun KK hA9 => ?_))
      | (have hx := mk1; have hx := mk3; have hx := mk4; refine tk 5 ?_; (try simp only [Act.put, lay]); have mk5 := True.intro)
      | (have hx := mk8; have hx := mk9; refine rdy 1 (fun KK hC1 => ?_))
      | (have hx := mk1; have hx := mk9; refine rd2 3 8 (fun KK hC3 => ?_) (fun KK hA8 => ?_))
      | (have hx := mk1; have hx := mk8; refine rd2 3 9 (fun KK hC3 => ?_) (fun KK hA9 => ?_))
      | (have hx := mk1; have hx := mk3; refine rd3 4 8 9 (fun KK hC4 => ?_) (fun KK hA8 => ?_) (fun KK hA9 => ?_))
      | (have hx := mk9; refine rd2 1 8 (fun KK hC1 => ?_) (fun KK hA8 => ?_))
      | (have hx := mk8; refine rd2 1 9 (fun KK hC1 => ?_) (fun KK hA9 => ?_))
      | (have hx := mk1; refine rd3 3 8 9 (fun KK hC3 => ?_) (fun KK hA8 => ?_) (fun KK hA9 => ?_))
      | (refine rd3 1 8 9 (fun KK hC1 => ?_) (fun KK hA8 => ?_) (fun KK hA9 => ?_))
  case rest =>
  obtain ⟨j5, j6, rfl, rfl, hgs, hcl⟩ := hcut
  rename World => wx
  clear LL R1 I1 I2
  have LL := Lib.hid hcl
  clear hcl
  obtain ⟨q1_0, q1_1⟩ := (LL.out.blk 0 rfl).c2
  obtain ⟨q2_0, q2_1⟩ := (LL.out.blk 1 rfl).c2
  go_wp2_with fail
  refine (R2.out _).mono ?_
  rintro e wk ⟨rfl, hb⟩
  replace LL := stL LL hb
  clear hb q1_0 q1_1 q2_0 q2_1
  go_upto_region 3 with fail
  obtain ⟨j7, hg, hb_j7, hl_j7, hr_j7, -⟩ := LL.out.fresh 24 #[.int .u64 (P1 : Int), .int .u64 (P2 : Int)]
  simp only [List.mem_cons, List.not_mem_nil, or_false, forall_eq_or_imp, forall_eq, false_imp_iff, implies_true] at hl_j7 hr_j7
  replace LL := Lib.hid ((LL.out.new 24 #[.int .u64 (P1 : Int), .int .u64 (P2 : Int)]).new 24 #[.int .u64 (Q1 : Int), .int .u64 (Q2 : Int)])
  rw [show (wk.alloc (.cells #[.int .u64 (P1 : Int), .int .u64 (P2 : Int)] 24)).heap.size = wk.heap.size + 1 from by simp] at LL
  simp only [List.cons_append, List.nil_append] at LL
  rw [hg] at LL ⊢
  clear hg
  obtain ⟨wn, hwn⟩ : ∃ X, (wk.alloc (.cells #[.int .u64 (P1 : Int), .int .u64 (P2 : Int)] 24)).alloc (.cells #[.int .u64 (Q1 : Int), .int .u64 (Q2 : Int)] 24) = X := ⟨_, rfl⟩
  rw [hwn] at LL  ⊢
  clear hwn
  refine regL LL (fun hHeld => ?_)
  clear LL
  obtain ⟨wk, hwk⟩ : ∃ X, (wn).drew = X := ⟨_, rfl⟩
  rw [hwk] at hHeld  ⊢
  clear hwk
  refine tk 0 ?_ (hv := by intro W2 hSw; obtain ⟨q0, q1⟩ := (hSw.blk 2 rfl).c2; go_simp; (try with_reducible rfl))
  try simp only [Act.put, lay]
  refine tk 2 ?_ (hv := by intro W2 hSw; obtain ⟨q0, q1⟩ := (hSw.blk 4 rfl).c2; go_simp; (try with_reducible rfl))
  try simp only [Act.put, lay]
  refine rdy 1 (fun KK hKK => ?_)
  go_simp
  refine (O1.out _).mono ?_
  rintro e wk ⟨rfl, hb1⟩
  go_wp2_with fail
  refine hKK.out _ _ (hHeld.keep hb1) (fun _ => ?_)
  clear hKK KK hHeld
  rename_i hHeld
  try simp only [Act.put, lay]
  clear hb1
  refine tk 3 ?_
  try simp only [Act.put, lay]
  refine tk 4 ?_
  try simp only [Act.put, lay]
  refine tk 5 ?_ (hv := by intro W2 hSw; obtain ⟨q0, q1⟩ := (hSw.blk 3 rfl).c2; go_simp; (try with_reducible rfl))
  try simp only [Act.put, lay]
  refine tk 7 ?_ (hv := by intro W2 hSw; obtain ⟨q0, q1⟩ := (hSw.blk 5 rfl).c2; go_simp; (try with_reducible rfl))
  try simp only [Act.put, lay]
  refine rdy 6 (fun KK hKK => ?_)
  go_simp
  refine (O2.out _).mono ?_
  rintro e wk ⟨rfl, hb2⟩
  go_wp2_with fail
  refine hKK.out _ _ (hHeld.keep hb2) (fun _ => ?_)
  clear hKK KK hHeld
  rename_i hHeld
  try simp only [Act.put, lay]
  clear hb2
  refine tk 8 ?_
  try simp only [Act.put, lay]
  refine tk 9 ?_
  try simp only [Act.put, lay]
  refine tk 10 ?_
  try simp only [Act.put, lay]
  refine wpAnyH_done (by kernel_rfl) ?_ _
  have LL := Lib.hid hHeld
  clear hHeld
  go_wp2
  go_ret
  exact ⟨rfl, LL.out.b⟩
end Go.Proofs.YtmjkmoahkanblaaGreat
