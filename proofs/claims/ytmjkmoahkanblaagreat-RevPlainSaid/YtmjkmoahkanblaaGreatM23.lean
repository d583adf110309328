/-
Walks: package vergeref10, DivRev2, RecipRev, NegRev, AbsRev.
Walks: package rel, IsCommon; package ival, Entire.
-/
import Derived.Test.YtmjkmoahkanblaaGreatM22
import Derived.Deep.DeepCutAuto
import Derived.Test.YtmjkmoahkanblaaGreatM03
import Derived.Test.YtmjkmoahkanblaaGreatPBothT
import Derived.Test.YtmjkmoahkanblaaGreatPMathT
set_option linter.unusedSimpArgs false
set_option linter.unusedVariables false
set_option maxHeartbeats 12800000

namespace Go.Proofs.YtmjkmoahkanblaaGreat
open Go.RowKit
set_option maxRecDepth 8000 in
theorem refrecip_walk (f1 f2 x1 x2 : Nat) (i1 j1 i2 j2 i4 j4 : Int) (F1 F3 : Int → Int → Int × Int) (L : Nat → Int → Int → Int × Int) (w : World) (hx : x1 < 18446744073709551616) (hy : x2 < 18446744073709551616) (hO1 : ∀ W, Calls Tryz.prog 57 #[.agg #[.int .u64 (f1 : Int), .int .u64 (f2 : Int)]] W (NewSetI W i2 j2)) (h1 : ∀ W, Calls Tryz.prog 76 #[] W (NewSetI W i1 j1)) (hM1 : ∀ W v, SetOf W v i2 j2 → Calls Tryz.prog 58 #[v] W (NewSetI W i4 j4)) (hD1 : ∀ W u v, SetOf W u i1 j1 → SetOf W v i2 j2 → Calls Tryz.prog 75 #[u, v] W (NewPcV W F1)) (hD2 : ∀ W u v, SetOf W u i1 j1 → SetOf W v i4 j4 → Calls Tryz.prog 75 #[u, v] W (NewPcV W F3)) (hL0 : F1 = L 0) (hL1 : ngF F3 = L 1) :
    Calls Tryz.prog 26 #[.agg #[.int .u64 (f1 : Int), .int .u64 (f2 : Int)], .agg #[.int .u64 (x1 : Int), .int .u64 (x2 : Int)]] w fun e w' => e = .returned (.agg #[.int .u64 (pat (zg (rd x1 x2).1 (rd x1 x2).2 L 2).1 : Int), .int .u64 (pat (zg (rd x1 x2).1 (rd x1 x2).2 L 2).2 : Int)]) ∧ Below w.heap.size w w' := by
  have HO1 := Lib.hid hO1
  have H1 := Lib.hid h1
  have HM1 := Lib.hid hM1
  have HD1 := Lib.hid hD1
  have HD2 := Lib.hid hD2
  clear hO1 h1 hM1 hD1 hD2
  have HL0 := Lib.hid hL0
  have HL1 := Lib.hid hL1
  clear hL0 hL1
  have HA := Lib.hid fun W A c h1 h2 h3 => all_pcs x1 x2 A 2 c L W hx hy (by omega) h1 h2 h3
  obtain ⟨r1, hr1⟩ : ∃ p, pat (zg (rd x1 x2).1 (rd x1 x2).2 L 2).1 = p := ⟨_, rfl⟩
  obtain ⟨r2, hr2⟩ : ∃ p, pat (zg (rd x1 x2).1 (rd x1 x2).2 L 2).2 = p := ⟨_, rfl⟩
  rw [hr1, hr2] at HA ⊢
  clear hr1 hr2 hx hy
  have LL := li3 w #[.int .u64 (f1 : Int), .int .u64 (f2 : Int)] 24 #[.int .u64 (x1 : Int), .int .u64 (x2 : Int)] 24 #[.int .u64 0, .int .u64 0] 24
  go_enter Tryz.func26, Tryz.ntmps26
  obtain ⟨q1_0, q1_1⟩ := (LL.out.blk 0 rfl).c2
  go_wp2_with fail
  refine (HO1.out _).mono ?_
  rintro e wk ⟨o2, s2, g2, A2, n2, c2, B2, m2, d2, s52, g52, A52, n52, c52, B52, m52, d52, rfl, hs2, hb⟩
  replace LL := stL LL hb
  clear hb q1_0 q1_1
  have HS2 := Lib.hid hs2
  clear hs2
  go_upto_region 2 with fail
  have hl_j5 := LL.out.lts
  generalize hwn : World.alloc wk _ = wn
  replace HS2 := Lib.hid (HS2.out.below (below_allocE hwn))
  replace LL := Lib.hid (LL.out.newE hwn)
  simp only [List.cons_append, List.nil_append] at LL
  simp only [List.mem_cons, List.not_mem_nil, or_false, forall_eq_or_imp, forall_eq, false_imp_iff, implies_true, and_true] at hl_j5
  clear hwn
  generalize wk.heap.size = j5 at LL hl_j5 ⊢
  replace LL := Lib.hid (LL.out.loose 2 rfl rfl)
  simp only [List.eraseIdx, List.size_toArray, List.length_cons, List.length_nil, Nat.zero_add, Nat.reduceAdd] at LL
  refine regL LL (fun hHeld => ?_)
  clear LL
  replace HS2 := Lib.hid (HS2.out.below (Below.refl _ _).drew)
  generalize World.drew _ = wk at hHeld HS2 ⊢
  refine tk 0 ?_ (hv := by intro W2 hSw; obtain ⟨q0, q1⟩ := (hSw.blk 1 rfl).c2; go_simp; (try with_reducible rfl))
  try simp only [Act.put, lay]
  refine tk 2 ?_ (hv := by intro W2 hSw; obtain ⟨q0, q1, q2, q3, q4, q5, q6, q7, q8⟩ := (hSw.blk 2 rfl).c9; go_simp; (try with_reducible rfl))
  try simp only [Act.put, lay]
  refine tk 5 ?_ (hv := by intro W2 hSw; obtain ⟨q0, q1, q2, q3, q4, q5, q6, q7, q8⟩ := (hSw.blk 2 rfl).c9; go_simp; (try with_reducible rfl))
  try simp only [Act.put, lay]
  refine rdy 1 (fun KK hKK => ?_)
  go_simp
  refine (H1.out _).mono ?_
  rintro e wk ⟨o1, s1, g1, A1, n1, c1, B1, m1, d1, s51, g51, A51, n51, c51, B51, m51, d51, rfl, hs1, hb1⟩
  go_wp2_with fail
  refine hKK.out _ _ (hHeld.keep hb1) (fun _ => ?_)
  clear hKK KK hHeld
  rename_i hHeld
  try simp only [Act.put, lay]
  (try replace HS2 := Lib.hid (HS2.out.below hb1))
  (try replace HP21 := Lib.hid (HP21.out.below hb1))
  (try replace HS3 := Lib.hid (HS3.out.below hb1))
  (try replace HS4 := Lib.hid (HS4.out.below hb1))
  (try replace HP22 := Lib.hid (HP22.out.below hb1))
  (try replace HP23 := Lib.hid (HP23.out.below hb1))
  have HS1 := Lib.hid hs1
  clear hs1
  clear hb1
  refine rdy 3 (fun KK hKK => ?_)
  go_simp
  refine (HD1.out _ _ _ HS1.out HS2.out).mono ?_
  rintro e wk ⟨o21, s21, g21, A21, n21, c21, B21, m21, d21, N21, p21, s71, g71, A71, n71, c71, B71, m71, d71, N71, p71, rfl, hp21, hb2⟩
  go_wp2_with fail
  refine hKK.out _ _ (hHeld.keep hb2) (fun _ => ?_)
  clear hKK KK hHeld
  rename_i hHeld
  try simp only [Act.put, lay]
  (try replace HS2 := Lib.hid (HS2.out.below hb2))
  (try replace HS1 := Lib.hid (HS1.out.below hb2))
  (try replace HS3 := Lib.hid (HS3.out.below hb2))
  (try replace HS4 := Lib.hid (HS4.out.below hb2))
  (try replace HP22 := Lib.hid (HP22.out.below hb2))
  (try replace HP23 := Lib.hid (HP23.out.below hb2))
  have HP21 := Lib.hid hp21
  clear hp21
  clear hb2
  refine rdy 4 (fun KK hKK => ?_)
  go_simp
  refine (H1.out _).mono ?_
  rintro e wk ⟨o3, s3, g3, A3, n3, c3, B3, m3, d3, s53, g53, A53, n53, c53, B53, m53, d53, rfl, hs3, hb3⟩
  go_wp2_with fail
  refine hKK.out _ _ (hHeld.keep hb3) (fun _ => ?_)
  clear hKK KK hHeld
  rename_i hHeld
  try simp only [Act.put, lay]
  (try replace HS2 := Lib.hid (HS2.out.below hb3))
  (try replace HS1 := Lib.hid (HS1.out.below hb3))
  (try replace HP21 := Lib.hid (HP21.out.below hb3))
  (try replace HS4 := Lib.hid (HS4.out.below hb3))
  (try replace HP22 := Lib.hid (HP22.out.below hb3))
  (try replace HP23 := Lib.hid (HP23.out.below hb3))
  have HS3 := Lib.hid hs3
  clear hs3
  clear hb3
  refine rdy 6 (fun KK hKK => ?_)
  go_simp
  refine (HM1.out _ _ HS2.out).mono ?_
  rintro e wk ⟨o4, s4, g4, A4, n4, c4, B4, m4, d4, s54, g54, A54, n54, c54, B54, m54, d54, rfl, hs4, hb4⟩
  go_wp2_with fail
  refine hKK.out _ _ (hHeld.keep hb4) (fun _ => ?_)
  clear hKK KK hHeld
  rename_i hHeld
  try simp only [Act.put, lay]
  (try replace HS2 := Lib.hid (HS2.out.below hb4))
  (try replace HS1 := Lib.hid (HS1.out.below hb4))
  (try replace HP21 := Lib.hid (HP21.out.below hb4))
  (try replace HS3 := Lib.hid (HS3.out.below hb4))
  (try replace HP22 := Lib.hid (HP22.out.below hb4))
  (try replace HP23 := Lib.hid (HP23.out.below hb4))
  have HS4 := Lib.hid hs4
  clear hs4
  clear hb4
  refine rdy 7 (fun KK hKK => ?_)
  go_simp
  refine (HD2.out _ _ _ HS3.out HS4.out).mono ?_
  rintro e wk ⟨o22, s22, g22, A22, n22, c22, B22, m22, d22, N22, p22, s72, g72, A72, n72, c72, B72, m72, d72, N72, p72, rfl, hp22, hb5⟩
  go_wp2_with fail
  refine hKK.out _ _ (hHeld.keep hb5) (fun _ => ?_)
  clear hKK KK hHeld
  rename_i hHeld
  try simp only [Act.put, lay]
  (try replace HS2 := Lib.hid (HS2.out.below hb5))
  (try replace HS1 := Lib.hid (HS1.out.below hb5))
  (try replace HP21 := Lib.hid (HP21.out.below hb5))
  (try replace HS3 := Lib.hid (HS3.out.below hb5))
  (try replace HS4 := Lib.hid (HS4.out.below hb5))
  (try replace HP23 := Lib.hid (HP23.out.below hb5))
  have HP22 := Lib.hid hp22
  clear hp22
  clear hb5
  refine rdy 8 (fun KK hKK => ?_)
  go_simp
  refine (HP22.out.2 _ (Below.refl _ _)).mono ?_
  rintro e wk ⟨o23, s23, g23, A23, n23, c23, B23, m23, d23, N23, p23, s73, g73, A73, n73, c73, B73, m73, d73, N73, p73, rfl, hp23, hb6⟩
  go_wp2_with fail
  refine hKK.out _ _ (hHeld.keep hb6) (fun _ => ?_)
  clear hKK KK hHeld
  rename_i hHeld
  try simp only [Act.put, lay]
  (try replace HS2 := Lib.hid (HS2.out.below hb6))
  (try replace HS1 := Lib.hid (HS1.out.below hb6))
  (try replace HP21 := Lib.hid (HP21.out.below hb6))
  (try replace HS3 := Lib.hid (HS3.out.below hb6))
  (try replace HS4 := Lib.hid (HS4.out.below hb6))
  (try replace HP22 := Lib.hid (HP22.out.below hb6))
  have HP23 := Lib.hid hp23
  clear hp23
  clear hb6
  refine rdy 9 (fun KK hKK => ?_)
  go_simp
  have hl_js := hHeld.lts
  refine hKK.out _ _ (hHeld.alloc _) (fun _ => ?_)
  clear hKK KK hHeld
  rename_i hHeld
  try simp only [Act.put, lay]
  generalize hwn : World.alloc wk _ = wn at hHeld ⊢
  have B_js := Blk.newE hwn
  (try replace HS2 := Lib.hid (HS2.out.below (below_allocE hwn)))
  (try replace HS1 := Lib.hid (HS1.out.below (below_allocE hwn)))
  (try replace HP21 := Lib.hid (HP21.out.below (below_allocE hwn)))
  (try replace HS3 := Lib.hid (HS3.out.below (below_allocE hwn)))
  (try replace HS4 := Lib.hid (HS4.out.below (below_allocE hwn)))
  (try replace HP22 := Lib.hid (HP22.out.below (below_allocE hwn)))
  (try replace HP23 := Lib.hid (HP23.out.below (below_allocE hwn)))
  simp only [List.mem_cons, List.not_mem_nil, or_false, forall_eq_or_imp, forall_eq, false_imp_iff, implies_true, and_true] at hl_js
  clear hwn
  generalize wk.heap.size = js at B_js hl_js ⊢
  obtain ⟨wk, rfl⟩ : ∃ X, X = wn := ⟨_, rfl⟩
  refine rdy 10 (fun KK hKK => ?_)
  go_simp
  refine (HA.out _ _ _ (Nat.le_refl _) (fun h => absurd h (by omega)) (fun k hk => ⟨_, rfl, by match k, hk with | 0, _ => exact HL0.out ▸ PcG.at B_js 0 (HP21.out.1) ⟨rfl, rfl, rfl, rfl, rfl, rfl, rfl, rfl, rfl, rfl, rfl, rfl, rfl⟩ | 1, _ => exact HL1.out ▸ PcG.at B_js 1 (HP23.out) ⟨rfl, rfl, rfl, rfl, rfl, rfl, rfl, rfl, rfl, rfl, rfl, rfl, rfl⟩⟩)).mono ?_
  rintro e wk ⟨rfl, hb7⟩
  go_wp2_with fail
  refine hKK.out _ _ (hHeld.keep hb7) (fun _ => ?_)
  clear hKK KK hHeld
  rename_i hHeld
  try simp only [Act.put, lay]
  (try replace HS2 := Lib.hid (HS2.out.below hb7))
  (try replace HS1 := Lib.hid (HS1.out.below hb7))
  (try replace HP21 := Lib.hid (HP21.out.below hb7))
  (try replace HS3 := Lib.hid (HS3.out.below hb7))
  (try replace HS4 := Lib.hid (HS4.out.below hb7))
  (try replace HP22 := Lib.hid (HP22.out.below hb7))
  (try replace HP23 := Lib.hid (HP23.out.below hb7))
  clear hb7
  refine rdy 11 (fun KK hKK => ?_)
  obtain ⟨ha0, hf0, ha1, hf1⟩ := (hHeld.has 0 rfl).sf2
  obtain ⟨csx, hbx, -, hcx⟩ := hHeld.has 0 rfl
  (try clear HS2)
  (try clear HS1)
  (try clear HP21)
  (try clear HS3)
  (try clear HS4)
  (try clear HP22)
  (try clear HP23)
  clear hbx hcx
  go_simp
  have HS_0 := (hHeld.has 0 rfl).laid [.int .u64 (r1 : Int), .int .u64 (r2 : Int)] rfl
  refine hKK.out _ _ (hHeld.over 0 rfl [.int .u64 (r1 : Int), .int .u64 (r2 : Int)] rfl rfl (by first | omega | exact hHeld.le_of 0 rfl) (by simp <;> omega) (by simp <;> omega)) (fun _ => ?_)
  clear hKK KK hHeld
  rename_i hHeld
  try simp only [Act.put, lay]
  refine wpAnyH_done (by kernel_rfl) ?_ _
  have LB := Lib.hid hHeld.b
  clear hHeld
  obtain ⟨hk4_0, hk4_1⟩ := HS_0.c2
  clear HS_0
  simp [sets] at hk4_0 hk4_1
  go_wp2
  refine bodyPost_ret (v := .agg #[.int .u64 (r1 : Int), .int .u64 (r2 : Int)]) (by simp [results, Tryz.results26, go_sem, hk4_0, hk4_1]) rfl ?_
  exact ⟨rfl, LB.out⟩
set_option maxRecDepth 8000 in
theorem refneg_walk (f1 f2 x1 x2 : Nat) (i2 j2 i4 j4 : Int) (F1 : Int → Int → Int × Int) (L : Nat → Int → Int → Int × Int) (w : World) (hx : x1 < 18446744073709551616) (hy : x2 < 18446744073709551616) (hO1 : ∀ W, Calls Tryz.prog 57 #[.agg #[.int .u64 (f1 : Int), .int .u64 (f2 : Int)]] W (NewSetI W i2 j2)) (hM1 : ∀ W v, SetOf W v i2 j2 → Calls Tryz.prog 58 #[v] W (NewSetI W i4 j4)) (hP : ∀ W v, SetOf W v i4 j4 → Calls Tryz.prog 55 #[v] W (NewPcV W F1)) (hL0 : F1 = L 0) :
    Calls Tryz.prog 24 #[.agg #[.int .u64 (f1 : Int), .int .u64 (f2 : Int)], .agg #[.int .u64 (x1 : Int), .int .u64 (x2 : Int)]] w fun e w' => e = .returned (.agg #[.int .u64 (pat (zg (rd x1 x2).1 (rd x1 x2).2 L 1).1 : Int), .int .u64 (pat (zg (rd x1 x2).1 (rd x1 x2).2 L 1).2 : Int)]) ∧ Below w.heap.size w w' := by
  have HO1 := Lib.hid hO1
  have HM1 := Lib.hid hM1
  have HP := Lib.hid hP
  clear hO1 hM1 hP
  have HL0 := Lib.hid hL0
  clear hL0
  have HA := Lib.hid fun W A c h1 h2 h3 => all_pcs x1 x2 A 1 c L W hx hy (by omega) h1 h2 h3
  obtain ⟨r1, hr1⟩ : ∃ p, pat (zg (rd x1 x2).1 (rd x1 x2).2 L 1).1 = p := ⟨_, rfl⟩
  obtain ⟨r2, hr2⟩ : ∃ p, pat (zg (rd x1 x2).1 (rd x1 x2).2 L 1).2 = p := ⟨_, rfl⟩
  rw [hr1, hr2] at HA ⊢
  clear hr1 hr2 hx hy
  have LL := li3 w #[.int .u64 (f1 : Int), .int .u64 (f2 : Int)] 24 #[.int .u64 (x1 : Int), .int .u64 (x2 : Int)] 24 #[.int .u64 0, .int .u64 0] 24
  go_enter Tryz.func24, Tryz.ntmps24
  go_wp2_with fail
  replace LL := Lib.hid (LL.out.loose 2 rfl rfl)
  simp only [List.eraseIdx, List.size_toArray, List.length_cons, List.length_nil, Nat.zero_add, Nat.reduceAdd] at LL
  refine regL LL (fun hHeld => ?_)
  clear LL
  generalize World.drew _ = wk at hHeld  ⊢
  refine tk 0 ?_ (hv := by intro W2 hSw; obtain ⟨q0, q1⟩ := (hSw.blk 1 rfl).c2; go_simp; (try with_reducible rfl))
  try simp only [Act.put, lay]
  refine tk 1 ?_ (hv := by intro W2 hSw; obtain ⟨q0, q1⟩ := (hSw.blk 0 rfl).c2; go_simp; (try with_reducible rfl))
  try simp only [Act.put, lay]
  refine rdy 2 (fun KK hKK => ?_)
  go_simp
  refine (HO1.out _).mono ?_
  rintro e wk ⟨o2, s2, g2, A2, n2, c2, B2, m2, d2, s52, g52, A52, n52, c52, B52, m52, d52, rfl, hs2, hb1⟩
  go_wp2_with fail
  refine hKK.out _ _ (hHeld.keep hb1) (fun _ => ?_)
  clear hKK KK hHeld
  rename_i hHeld
  try simp only [Act.put, lay]
  (try replace HS4 := Lib.hid (HS4.out.below hb1))
  (try replace HP21 := Lib.hid (HP21.out.below hb1))
  have HS2 := Lib.hid hs2
  clear hs2
  clear hb1
  refine rdy 3 (fun KK hKK => ?_)
  go_simp
  refine (HM1.out _ _ HS2.out).mono ?_
  rintro e wk ⟨o4, s4, g4, A4, n4, c4, B4, m4, d4, s54, g54, A54, n54, c54, B54, m54, d54, rfl, hs4, hb2⟩
  go_wp2_with fail
  refine hKK.out _ _ (hHeld.keep hb2) (fun _ => ?_)
  clear hKK KK hHeld
  rename_i hHeld
  try simp only [Act.put, lay]
  (try replace HS2 := Lib.hid (HS2.out.below hb2))
  (try replace HP21 := Lib.hid (HP21.out.below hb2))
  have HS4 := Lib.hid hs4
  clear hs4
  clear hb2
  refine rdy 4 (fun KK hKK => ?_)
  go_simp
  refine (HP.out _ _ HS4.out).mono ?_
  rintro e wk ⟨o21, s21, g21, A21, n21, c21, B21, m21, d21, N21, p21, s71, g71, A71, n71, c71, B71, m71, d71, N71, p71, rfl, hp21, hb3⟩
  go_wp2_with fail
  refine hKK.out _ _ (hHeld.keep hb3) (fun _ => ?_)
  clear hKK KK hHeld
  rename_i hHeld
  try simp only [Act.put, lay]
  (try replace HS2 := Lib.hid (HS2.out.below hb3))
  (try replace HS4 := Lib.hid (HS4.out.below hb3))
  have HP21 := Lib.hid hp21
  clear hp21
  clear hb3
  refine rdy 5 (fun KK hKK => ?_)
  go_simp
  have hl_js := hHeld.lts
  refine hKK.out _ _ (hHeld.alloc _) (fun _ => ?_)
  clear hKK KK hHeld
  rename_i hHeld
  try simp only [Act.put, lay]
  generalize hwn : World.alloc wk _ = wn at hHeld ⊢
  have B_js := Blk.newE hwn
  (try replace HS2 := Lib.hid (HS2.out.below (below_allocE hwn)))
  (try replace HS4 := Lib.hid (HS4.out.below (below_allocE hwn)))
  (try replace HP21 := Lib.hid (HP21.out.below (below_allocE hwn)))
  simp only [List.mem_cons, List.not_mem_nil, or_false, forall_eq_or_imp, forall_eq, false_imp_iff, implies_true, and_true] at hl_js
  clear hwn
  generalize wk.heap.size = js at B_js hl_js ⊢
  obtain ⟨wk, rfl⟩ : ∃ X, X = wn := ⟨_, rfl⟩
  refine rdy 6 (fun KK hKK => ?_)
  go_simp
  refine (HA.out _ _ _ (Nat.le_refl _) (fun h => absurd h (by omega)) (fun k hk => ⟨_, rfl, by match k, hk with | 0, _ => exact HL0.out ▸ PcG.at B_js 0 (HP21.out.1) ⟨rfl, rfl, rfl, rfl, rfl, rfl, rfl, rfl, rfl, rfl, rfl, rfl, rfl⟩⟩)).mono ?_
  rintro e wk ⟨rfl, hb4⟩
  go_wp2_with fail
  refine hKK.out _ _ (hHeld.keep hb4) (fun _ => ?_)
  clear hKK KK hHeld
  rename_i hHeld
  try simp only [Act.put, lay]
  (try replace HS2 := Lib.hid (HS2.out.below hb4))
  (try replace HS4 := Lib.hid (HS4.out.below hb4))
  (try replace HP21 := Lib.hid (HP21.out.below hb4))
  clear hb4
  refine rdy 7 (fun KK hKK => ?_)
  obtain ⟨ha0, hf0, ha1, hf1⟩ := (hHeld.has 0 rfl).sf2
  obtain ⟨csx, hbx, -, hcx⟩ := hHeld.has 0 rfl
  (try clear HS2)
  (try clear HS4)
  (try clear HP21)
  clear hbx hcx
  go_simp
  have HS_0 := (hHeld.has 0 rfl).laid [.int .u64 (r1 : Int), .int .u64 (r2 : Int)] rfl
  refine hKK.out _ _ (hHeld.over 0 rfl [.int .u64 (r1 : Int), .int .u64 (r2 : Int)] rfl rfl (by first | omega | exact hHeld.le_of 0 rfl) (by simp <;> omega) (by simp <;> omega)) (fun _ => ?_)
  clear hKK KK hHeld
  rename_i hHeld
  try simp only [Act.put, lay]
  refine wpAnyH_done (by kernel_rfl) ?_ _
  have LB := Lib.hid hHeld.b
  clear hHeld
  obtain ⟨hk4_0, hk4_1⟩ := HS_0.c2
  clear HS_0
  simp [sets] at hk4_0 hk4_1
  go_wp2
  refine bodyPost_ret (v := .agg #[.int .u64 (r1 : Int), .int .u64 (r2 : Int)]) (by simp [results, Tryz.results24, go_sem, hk4_0, hk4_1]) rfl ?_
  exact ⟨rfl, LB.out⟩
set_option maxRecDepth 8000 in
theorem refabs_walk (f1 f2 x1 x2 : Nat) (i2 j2 i4 j4 : Int) (F1 : Int → Int → Int × Int) (L : Nat → Int → Int → Int × Int) (w : World) (hx : x1 < 18446744073709551616) (hy : x2 < 18446744073709551616) (hO1 : ∀ W, Calls Tryz.prog 57 #[.agg #[.int .u64 (f1 : Int), .int .u64 (f2 : Int)]] W (NewSetI W i2 j2)) (hW : ∀ W v, SetOf W v i2 j2 → Calls Tryz.prog 80 #[v] W (NewSetI W i4 j4)) (hP : ∀ W v, SetOf W v i4 j4 → Calls Tryz.prog 55 #[v] W (NewPcV W F1)) (hL0 : F1 = L 0) (hL1 : ngF F1 = L 1) :
    Calls Tryz.prog 28 #[.agg #[.int .u64 (f1 : Int), .int .u64 (f2 : Int)], .agg #[.int .u64 (x1 : Int), .int .u64 (x2 : Int)]] w fun e w' => e = .returned (.agg #[.int .u64 (pat (zg (rd x1 x2).1 (rd x1 x2).2 L 2).1 : Int), .int .u64 (pat (zg (rd x1 x2).1 (rd x1 x2).2 L 2).2 : Int)]) ∧ Below w.heap.size w w' := by
  have HO1 := Lib.hid hO1
  have HW := Lib.hid hW
  have HP := Lib.hid hP
  clear hO1 hW hP
  have HL0 := Lib.hid hL0
  have HL1 := Lib.hid hL1
  clear hL0 hL1
  have HA := Lib.hid fun W A c h1 h2 h3 => all_pcs x1 x2 A 2 c L W hx hy (by omega) h1 h2 h3
  obtain ⟨r1, hr1⟩ : ∃ p, pat (zg (rd x1 x2).1 (rd x1 x2).2 L 2).1 = p := ⟨_, rfl⟩
  obtain ⟨r2, hr2⟩ : ∃ p, pat (zg (rd x1 x2).1 (rd x1 x2).2 L 2).2 = p := ⟨_, rfl⟩
  rw [hr1, hr2] at HA ⊢
  clear hr1 hr2 hx hy
  have LL := li3 w #[.int .u64 (f1 : Int), .int .u64 (f2 : Int)] 24 #[.int .u64 (x1 : Int), .int .u64 (x2 : Int)] 24 #[.int .u64 0, .int .u64 0] 24
  go_enter Tryz.func28, Tryz.ntmps28
  obtain ⟨q1_0, q1_1⟩ := (LL.out.blk 0 rfl).c2
  go_wp2_with fail
  refine (HO1.out _).mono ?_
  rintro e wk ⟨o2, s2, g2, A2, n2, c2, B2, m2, d2, s52, g52, A52, n52, c52, B52, m52, d52, rfl, hs2, hb⟩
  replace LL := stL LL hb
  clear hb q1_0 q1_1
  have HS2 := Lib.hid hs2
  clear hs2
  go_wp2_with fail
  refine (HW.out _ _ HS2.out).mono ?_
  rintro e wk ⟨o4, s4, g4, A4, n4, c4, B4, m4, d4, s54, g54, A54, n54, c54, B54, m54, d54, rfl, hs4, hb⟩
  replace LL := stL LL hb
  replace HS2 := Lib.hid (HS2.out.below hb)
  clear hb
  have HS4 := Lib.hid hs4
  clear hs4
  go_wp2_with fail
  refine (HP.out _ _ HS4.out).mono ?_
  rintro e wk ⟨o21, s21, g21, A21, n21, c21, B21, m21, d21, N21, p21, s71, g71, A71, n71, c71, B71, m71, d71, N71, p71, rfl, hp21, hb⟩
  replace LL := stL LL hb
  replace HS2 := Lib.hid (HS2.out.below hb)
  replace HS4 := Lib.hid (HS4.out.below hb)
  clear hb
  have HP21 := Lib.hid hp21
  clear hp21
  clear HS2 HS4
  go_upto_region 2 with fail
  have hl_j5 := LL.out.lts
  generalize hwn : World.alloc wk _ = wn
  replace HP21 := Lib.hid (HP21.out.below (below_allocE hwn))
  replace LL := Lib.hid (LL.out.newE hwn)
  simp only [List.cons_append, List.nil_append] at LL
  simp only [List.mem_cons, List.not_mem_nil, or_false, forall_eq_or_imp, forall_eq, false_imp_iff, implies_true, and_true] at hl_j5
  clear hwn
  generalize wk.heap.size = j5 at LL hl_j5 ⊢
  replace LL := Lib.hid (LL.out.loose 2 rfl rfl)
  simp only [List.eraseIdx, List.size_toArray, List.length_cons, List.length_nil, Nat.zero_add, Nat.reduceAdd] at LL
  refine regL LL (fun hHeld => ?_)
  clear LL
  replace HP21 := Lib.hid (HP21.out.below (Below.refl _ _).drew)
  generalize World.drew _ = wk at hHeld HP21 ⊢
  refine tk 0 ?_ (hv := by intro W2 hSw; obtain ⟨q0, q1⟩ := (hSw.blk 1 rfl).c2; go_simp; (try with_reducible rfl))
  try simp only [Act.put, lay]
  refine tk 1 ?_ (hv := by intro W2 hSw; obtain ⟨q0, q1, q2, q3, q4, q5, q6, q7, q8, q9, q10, q11, q12⟩ := (hSw.blk 2 rfl).c13; go_simp; (try with_reducible rfl))
  try simp only [Act.put, lay]
  refine tk 2 ?_ (hv := by intro W2 hSw; obtain ⟨q0, q1, q2, q3, q4, q5, q6, q7, q8, q9, q10, q11, q12⟩ := (hSw.blk 2 rfl).c13; go_simp; (try with_reducible rfl))
  try simp only [Act.put, lay]
  refine rdy 3 (fun KK hKK => ?_)
  go_simp
  refine (HP21.out.2 _ (Below.refl _ _)).mono ?_
  rintro e wk ⟨o22, s22, g22, A22, n22, c22, B22, m22, d22, N22, p22, s72, g72, A72, n72, c72, B72, m72, d72, N72, p72, rfl, hp22, hb1⟩
  go_wp2_with fail
  refine hKK.out _ _ (hHeld.keep hb1) (fun _ => ?_)
  clear hKK KK hHeld
  rename_i hHeld
  try simp only [Act.put, lay]
  (try replace HP21 := Lib.hid (HP21.out.below hb1))
  have HP22 := Lib.hid hp22
  clear hp22
  clear hb1
  refine rdy 4 (fun KK hKK => ?_)
  go_simp
  have hl_js := hHeld.lts
  refine hKK.out _ _ (hHeld.alloc _) (fun _ => ?_)
  clear hKK KK hHeld
  rename_i hHeld
  try simp only [Act.put, lay]
  generalize hwn : World.alloc wk _ = wn at hHeld ⊢
  have B_js := Blk.newE hwn
  (try replace HP21 := Lib.hid (HP21.out.below (below_allocE hwn)))
  (try replace HP22 := Lib.hid (HP22.out.below (below_allocE hwn)))
  simp only [List.mem_cons, List.not_mem_nil, or_false, forall_eq_or_imp, forall_eq, false_imp_iff, implies_true, and_true] at hl_js
  clear hwn
  generalize wk.heap.size = js at B_js hl_js ⊢
  obtain ⟨wk, rfl⟩ : ∃ X, X = wn := ⟨_, rfl⟩
  refine rdy 5 (fun KK hKK => ?_)
  go_simp
  refine (HA.out _ _ _ (Nat.le_refl _) (fun h => absurd h (by omega)) (fun k hk => ⟨_, rfl, by match k, hk with | 0, _ => exact HL0.out ▸ PcG.at B_js 0 (HP21.out.1) ⟨rfl, rfl, rfl, rfl, rfl, rfl, rfl, rfl, rfl, rfl, rfl, rfl, rfl⟩ | 1, _ => exact HL1.out ▸ PcG.at B_js 1 (HP22.out) ⟨rfl, rfl, rfl, rfl, rfl, rfl, rfl, rfl, rfl, rfl, rfl, rfl, rfl⟩⟩)).mono ?_
  rintro e wk ⟨rfl, hb2⟩
  go_wp2_with fail
  refine hKK.out _ _ (hHeld.keep hb2) (fun _ => ?_)
  clear hKK KK hHeld
  rename_i hHeld
  try simp only [Act.put, lay]
  (try replace HP21 := Lib.hid (HP21.out.below hb2))
  (try replace HP22 := Lib.hid (HP22.out.below hb2))
  clear hb2
  refine rdy 6 (fun KK hKK => ?_)
  obtain ⟨ha0, hf0, ha1, hf1⟩ := (hHeld.has 0 rfl).sf2
  obtain ⟨csx, hbx, -, hcx⟩ := hHeld.has 0 rfl
  (try clear HP21)
  (try clear HP22)
  clear hbx hcx
  go_simp
  have HS_0 := (hHeld.has 0 rfl).laid [.int .u64 (r1 : Int), .int .u64 (r2 : Int)] rfl
  refine hKK.out _ _ (hHeld.over 0 rfl [.int .u64 (r1 : Int), .int .u64 (r2 : Int)] rfl rfl (by first | omega | exact hHeld.le_of 0 rfl) (by simp <;> omega) (by simp <;> omega)) (fun _ => ?_)
  clear hKK KK hHeld
  rename_i hHeld
  try simp only [Act.put, lay]
  refine wpAnyH_done (by kernel_rfl) ?_ _
  have LB := Lib.hid hHeld.b
  clear hHeld
  obtain ⟨hk4_0, hk4_1⟩ := HS_0.c2
  clear HS_0
  simp [sets] at hk4_0 hk4_1
  go_wp2
  refine bodyPost_ret (v := .agg #[.int .u64 (r1 : Int), .int .u64 (r2 : Int)]) (by simp [results, Tryz.results28, go_sem, hk4_0, hk4_1]) rfl ?_
  exact ⟨rfl, LB.out⟩
set_option maxRecDepth 8000 in
theorem lower_none (o1 : Bool) (s1 s51 : Int) (g1 : Bool) (A1 : Option Addr) (n1 c1 : Nat) (B1 : Option Addr) (m1 d1 : Nat) (g51 : Bool) (A51 : Option Addr) (n51 c51 : Nat) (B51 : Option Addr) (m51 d51 : Nat) (a2 : Int) (w : World) (hS2 : ∀ W, Below w.heap.size w W → Calls Tryz.prog 86 #[.agg #[.int .i64 s51, .bool g51, .slice A51 n51 c51, .slice B51 m51 d51]] W fun e w' => e = .returned (.int .i64 a2) ∧ Below W.heap.size W w') (hc : o1 = true ∨ o1 = false ∧ decide (a2 < 0) = true) :
    Calls Tryz.prog 80 #[.agg #[.bool o1, .int .i64 s1, .bool g1, .slice A1 n1 c1, .slice B1 m1 d1, .int .i64 s51, .bool g51, .slice A51 n51 c51, .slice B51 m51 d51]] w (NewSet w 1 true 0 0 0 0) := by
  have HN := Lib.hid none6
  have HS2 := Lib.hid hS2
  have HC := Lib.hid hc
  clear hS2 hc
  have LL := li2 w #[.bool o1, .int .i64 s1, .bool g1, .slice A1 n1 c1, .slice B1 m1 d1, .int .i64 s51, .bool g51, .slice A51 n51 c51, .slice B51 m51 d51] 69 #[.bool false, .int .i64 0, .bool false, .slice none 0 0, .slice none 0 0, .int .i64 0, .bool false, .slice none 0 0, .slice none 0 0] 69
  rcases HC.out with h | ⟨h, h2⟩ <;> subst h <;> clear HC
  · skip
    have LL := li2 w #[.bool true, .int .i64 s1, .bool g1, .slice A1 n1 c1, .slice B1 m1 d1, .int .i64 s51, .bool g51, .slice A51 n51 c51, .slice B51 m51 d51] 69 #[.bool false, .int .i64 0, .bool false, .slice none 0 0, .slice none 0 0, .int .i64 0, .bool false, .slice none 0 0, .slice none 0 0] 69
    go_enter Tryz.func80, Tryz.ntmps80
    obtain ⟨q1_0, q1_1, q1_2, q1_3, q1_4, q1_5, q1_6, q1_7, q1_8⟩ := (LL.out.blk 0 rfl).c9
    go_wp2_with fail
    refine (HN.out _).mono ?_
    rintro e wk ⟨g9, A9, n9, c9, B9, m9, d9, g10, A10, n10, c10, B10, m10, d10, rfl, hr9, hr10, hb⟩
    replace LL := stL LL hb
    clear hb q1_0 q1_1 q1_2 q1_3 q1_4 q1_5 q1_6 q1_7 q1_8
    have HR9 := Lib.hid hr9
    clear hr9
    have HR10 := Lib.hid hr10
    clear hr10
    replace LL := Lib.hid (LL.out.loose 1 rfl rfl)
    simp only [List.eraseIdx, List.size_toArray, List.length_cons, List.length_nil, Nat.zero_add, Nat.reduceAdd] at LL
    have HRB := LL.out.has 0 rfl
    obtain ⟨ha2_0, hf2_0, ha2_1, hf2_1, ha2_2, hf2_2, ha2_3, hf2_3, ha2_4, hf2_4, ha2_5, hf2_5, ha2_6, hf2_6, ha2_7, hf2_7, ha2_8, hf2_8⟩ := (LL.out.has 0 rfl).sf9
    have LF := Lib.hid (LL.out.write [.bool true, .int .i64 0, .bool g9, .slice A9 n9 c9, .slice B9 m9 d9, .int .i64 0, .bool g10, .slice A10 n10 c10, .slice B10 m10 d10] rfl (by omega) (by simp <;> omega) (by simp <;> omega))
    obtain ⟨hk2_0, hk2_1, hk2_2, hk2_3, hk2_4, hk2_5, hk2_6, hk2_7, hk2_8⟩ := (LF.out.blk 1 rfl).c9
    simp [sets] at hk2_0 hk2_1 hk2_2 hk2_3 hk2_4 hk2_5 hk2_6 hk2_7 hk2_8
    clear LL
    go_wp2
    refine bodyPost_ret (v := .agg #[.bool true, .int .i64 0, .bool g9, .slice A9 n9 c9, .slice B9 m9 d9, .int .i64 0, .bool g10, .slice A10 n10 c10, .slice B10 m10 d10]) (by simp [results, Tryz.results80, go_sem, hk2_0, hk2_1, hk2_2, hk2_3, hk2_4, hk2_5, hk2_6, hk2_7, hk2_8]) rfl ?_
    exact ⟨g9, A9, n9, c9, B9, m9, d9, g10, A10, n10, c10, B10, m10, d10, rfl, HRB.rat HR9.out [.bool true, .int .i64 0, .bool g9, .slice A9 n9 c9, .slice B9 m9 d9, .int .i64 0, .bool g10, .slice A10 n10 c10, .slice B10 m10 d10], HRB.rat HR10.out [.bool true, .int .i64 0, .bool g9, .slice A9 n9 c9, .slice B9 m9 d9, .int .i64 0, .bool g10, .slice A10 n10 c10, .slice B10 m10 d10], LF.out.b⟩
  · skip
    have LL := li2 w #[.bool false, .int .i64 s1, .bool g1, .slice A1 n1 c1, .slice B1 m1 d1, .int .i64 s51, .bool g51, .slice A51 n51 c51, .slice B51 m51 d51] 69 #[.bool false, .int .i64 0, .bool false, .slice none 0 0, .slice none 0 0, .int .i64 0, .bool false, .slice none 0 0, .slice none 0 0] 69
    go_enter Tryz.func80, Tryz.ntmps80
    obtain ⟨q1_0, q1_1, q1_2, q1_3, q1_4, q1_5, q1_6, q1_7, q1_8⟩ := (LL.out.blk 0 rfl).c9
    go_wp2_with fail
    refine (HS2.out _ LL.out.b).mono ?_
    rintro e wk ⟨rfl, hb⟩
    replace LL := stL LL hb
    clear hb q1_0 q1_1 q1_2 q1_3 q1_4 q1_5 q1_6 q1_7 q1_8
    go_wp2_with fail
    refine (HN.out _).mono ?_
    rintro e wk ⟨g9, A9, n9, c9, B9, m9, d9, g10, A10, n10, c10, B10, m10, d10, rfl, hr9, hr10, hb⟩
    replace LL := stL LL hb
    clear hb h2
    have HR9 := Lib.hid hr9
    clear hr9
    have HR10 := Lib.hid hr10
    clear hr10
    replace LL := Lib.hid (LL.out.loose 1 rfl rfl)
    simp only [List.eraseIdx, List.size_toArray, List.length_cons, List.length_nil, Nat.zero_add, Nat.reduceAdd] at LL
    have HRB := LL.out.has 0 rfl
    obtain ⟨ha2_0, hf2_0, ha2_1, hf2_1, ha2_2, hf2_2, ha2_3, hf2_3, ha2_4, hf2_4, ha2_5, hf2_5, ha2_6, hf2_6, ha2_7, hf2_7, ha2_8, hf2_8⟩ := (LL.out.has 0 rfl).sf9
    have LF := Lib.hid (LL.out.write [.bool true, .int .i64 0, .bool g9, .slice A9 n9 c9, .slice B9 m9 d9, .int .i64 0, .bool g10, .slice A10 n10 c10, .slice B10 m10 d10] rfl (by omega) (by simp <;> omega) (by simp <;> omega))
    obtain ⟨hk2_0, hk2_1, hk2_2, hk2_3, hk2_4, hk2_5, hk2_6, hk2_7, hk2_8⟩ := (LF.out.blk 1 rfl).c9
    simp [sets] at hk2_0 hk2_1 hk2_2 hk2_3 hk2_4 hk2_5 hk2_6 hk2_7 hk2_8
    clear LL
    go_wp2
    refine bodyPost_ret (v := .agg #[.bool true, .int .i64 0, .bool g9, .slice A9 n9 c9, .slice B9 m9 d9, .int .i64 0, .bool g10, .slice A10 n10 c10, .slice B10 m10 d10]) (by simp [results, Tryz.results80, go_sem, hk2_0, hk2_1, hk2_2, hk2_3, hk2_4, hk2_5, hk2_6, hk2_7, hk2_8]) rfl ?_
    exact ⟨g9, A9, n9, c9, B9, m9, d9, g10, A10, n10, c10, B10, m10, d10, rfl, HRB.rat HR9.out [.bool true, .int .i64 0, .bool g9, .slice A9 n9 c9, .slice B9 m9 d9, .int .i64 0, .bool g10, .slice A10 n10 c10, .slice B10 m10 d10], HRB.rat HR10.out [.bool true, .int .i64 0, .bool g9, .slice A9 n9 c9, .slice B9 m9 d9, .int .i64 0, .bool g10, .slice A10 n10 c10, .slice B10 m10 d10], LF.out.b⟩
set_option maxRecDepth 8000 in
theorem lower_cut (s1 s51 : Int) (g1 : Bool) (A1 : Option Addr) (n1 c1 : Nat) (B1 : Option Addr) (m1 d1 : Nat) (g51 : Bool) (A51 : Option Addr) (n51 c51 : Nat) (B51 : Option Addr) (m51 d51 : Nat) (a1 a2 : Int) (x51 : Rat) (w : World) (hS1 : ∀ W, Below w.heap.size w W → Calls Tryz.prog 86 #[.agg #[.int .i64 s1, .bool g1, .slice A1 n1 c1, .slice B1 m1 d1]] W fun e w' => e = .returned (.int .i64 a1) ∧ Below W.heap.size W w') (hS2 : ∀ W, Below w.heap.size w W → Calls Tryz.prog 86 #[.agg #[.int .i64 s51, .bool g51, .slice A51 n51 c51, .slice B51 m51 d51]] W fun e w' => e = .returned (.int .i64 a2) ∧ Below W.heap.size W w') (h1 : a1 < 0) (h2 : decide (a2 < 0) = false) (hr51 : RatV w 34 g51 (.slice A51 n51 c51) (.slice B51 m51 d51) x51) :
    Calls Tryz.prog 80 #[.agg #[.bool false, .int .i64 s1, .bool g1, .slice A1 n1 c1, .slice B1 m1 d1, .int .i64 s51, .bool g51, .slice A51 n51 c51, .slice B51 m51 d51]] w (NewSet w 34 false 0 0 s51 x51) := by
  have HF := Lib.hid (show ∀ W, Calls Tryz.prog 95 #[.int .i64 0] W (NewEnd W 1 0 0) from fun W => finite_nat 0 W (by omega))
  have HS1 := Lib.hid hS1
  have HS2 := Lib.hid hS2
  have H1 := Lib.hid h1
  have H2 := Lib.hid h2
  clear hS1 hS2 h1 h2
  have LL := li2 w #[.bool false, .int .i64 s1, .bool g1, .slice A1 n1 c1, .slice B1 m1 d1, .int .i64 s51, .bool g51, .slice A51 n51 c51, .slice B51 m51 d51] 69 #[.bool false, .int .i64 0, .bool false, .slice none 0 0, .slice none 0 0, .int .i64 0, .bool false, .slice none 0 0, .slice none 0 0] 69
  have HR51 := Lib.hid (hr51.below LL.out.b)
  clear hr51
  go_enter Tryz.func80, Tryz.ntmps80
  obtain ⟨q1_0, q1_1, q1_2, q1_3, q1_4, q1_5, q1_6, q1_7, q1_8⟩ := (LL.out.blk 0 rfl).c9
  go_wp2_with fail
  refine (HS2.out _ LL.out.b).mono ?_
  rintro e wk ⟨rfl, hb⟩
  replace LL := stL LL hb
  replace HR51 := Lib.hid (HR51.out.below hb)
  clear hb q1_0 q1_1 q1_2 q1_3 q1_4 q1_5 q1_6 q1_7 q1_8
  obtain ⟨q2_0, q2_1, q2_2, q2_3, q2_4, q2_5, q2_6, q2_7, q2_8⟩ := (LL.out.blk 0 rfl).c9
  have h2 := H2.out
  go_wp2_with fail
  refine (HS1.out _ LL.out.b).mono ?_
  rintro e wk ⟨rfl, hb⟩
  replace LL := stL LL hb
  replace HR51 := Lib.hid (HR51.out.below hb)
  clear hb q2_0 q2_1 q2_2 q2_3 q2_4 q2_5 q2_6 q2_7 q2_8 h2
  have h1 := H1.out
  go_wp2_with fail
  refine (HF.out _).mono ?_
  rintro e wk ⟨g9, A9, n9, c9, B9, m9, d9, rfl, hr9, hb⟩
  replace LL := stL LL hb
  replace HR51 := Lib.hid (HR51.out.below hb)
  clear hb h1
  have HR9 := Lib.hid hr9
  clear hr9
  obtain ⟨q3_0, q3_1, q3_2, q3_3, q3_4, q3_5, q3_6, q3_7, q3_8⟩ := (LL.out.blk 0 rfl).c9
  have fz1 := (LL.out.blk 0 rfl).frozen 1
  have fz2 := (LL.out.blk 0 rfl).frozen 2
  have fz3 := (LL.out.blk 0 rfl).frozen 3
  have fz4 := (LL.out.blk 0 rfl).frozen 4
  go_upto_region 5 with fail
  clear q3_0 q3_1 q3_2 q3_3 q3_4 q3_5 q3_6 q3_7 q3_8 fz1 fz2 fz3 fz4
  have PB_1 := LL.out.blk 0 rfl
  replace LL := Lib.hid (LL.out.part 0 rfl 1 [.int .i64 0, .bool g9, .slice A9 n9 c9, .slice B9 m9 d9] (by omega) (by simp <;> omega) (by simp <;> omega))
  simp only [List.eraseIdx, laid, List.cons_append, List.nil_append, List.setIfInBounds_toArray, List.set_cons_zero, List.set_cons_succ, Nat.zero_add, Nat.reduceAdd] at LL
  replace HR51 := Lib.hid (HR51.out.sets PB_1 (nowd rfl) 1 [.int .i64 0, .bool g9, .slice A9 n9 c9, .slice B9 m9 d9])
  replace HR9 := Lib.hid (HR9.out.sets PB_1 (nowd rfl) 1 [.int .i64 0, .bool g9, .slice A9 n9 c9, .slice B9 m9 d9])
  obtain ⟨wn, hwn⟩ : ∃ X, (sets wk w.heap.size 1 [.int .i64 0, .bool g9, .slice A9 n9 c9, .slice B9 m9 d9]) = X := ⟨_, rfl⟩
  rw [hwn] at LL HR51 HR9
  simp only [sets, Nat.reduceAdd] at hwn
  rw [hwn]
  clear hwn PB_1
  obtain ⟨q4_0, q4_1, q4_2, q4_3, q4_4, q4_5, q4_6, q4_7, q4_8⟩ := (LL.out.blk 1 rfl).c9
  replace LL := Lib.hid (LL.out.loose 0 rfl rfl)
  simp only [List.eraseIdx, List.size_toArray, List.length_cons, List.length_nil, Nat.zero_add, Nat.reduceAdd] at LL
  have HRB := LL.out.has 0 rfl
  obtain ⟨ha2_0, hf2_0, ha2_1, hf2_1, ha2_2, hf2_2, ha2_3, hf2_3, ha2_4, hf2_4, ha2_5, hf2_5, ha2_6, hf2_6, ha2_7, hf2_7, ha2_8, hf2_8⟩ := (LL.out.has 0 rfl).sf9
  have LF := Lib.hid (LL.out.write [.bool false, .int .i64 0, .bool g9, .slice A9 n9 c9, .slice B9 m9 d9, .int .i64 s51, .bool g51, .slice A51 n51 c51, .slice B51 m51 d51] rfl (by omega) (by simp <;> omega) (by simp <;> omega))
  obtain ⟨hk2_0, hk2_1, hk2_2, hk2_3, hk2_4, hk2_5, hk2_6, hk2_7, hk2_8⟩ := (LF.out.blk 1 rfl).c9
  simp [sets] at hk2_0 hk2_1 hk2_2 hk2_3 hk2_4 hk2_5 hk2_6 hk2_7 hk2_8
  clear LL
  go_wp2
  refine bodyPost_ret (v := .agg #[.bool false, .int .i64 0, .bool g9, .slice A9 n9 c9, .slice B9 m9 d9, .int .i64 s51, .bool g51, .slice A51 n51 c51, .slice B51 m51 d51]) (by simp [results, Tryz.results80, go_sem, hk2_0, hk2_1, hk2_2, hk2_3, hk2_4, hk2_5, hk2_6, hk2_7, hk2_8]) rfl ?_
  exact ⟨g9, A9, n9, c9, B9, m9, d9, g51, A51, n51, c51, B51, m51, d51, rfl, (HRB.rat HR9.out [.bool false, .int .i64 0, .bool g9, .slice A9 n9 c9, .slice B9 m9 d9, .int .i64 s51, .bool g51, .slice A51 n51 c51, .slice B51 m51 d51]).mono (by omega), HRB.rat HR51.out [.bool false, .int .i64 0, .bool g9, .slice A9 n9 c9, .slice B9 m9 d9, .int .i64 s51, .bool g51, .slice A51 n51 c51, .slice B51 m51 d51], LF.out.b⟩
set_option maxRecDepth 8000 in
theorem lower_same (s1 s51 : Int) (g1 : Bool) (A1 : Option Addr) (n1 c1 : Nat) (B1 : Option Addr) (m1 d1 : Nat) (g51 : Bool) (A51 : Option Addr) (n51 c51 : Nat) (B51 : Option Addr) (m51 d51 : Nat) (a1 a2 : Int) (x1 x51 : Rat) (w : World) (hS1 : ∀ W, Below w.heap.size w W → Calls Tryz.prog 86 #[.agg #[.int .i64 s1, .bool g1, .slice A1 n1 c1, .slice B1 m1 d1]] W fun e w' => e = .returned (.int .i64 a1) ∧ Below W.heap.size W w') (hS2 : ∀ W, Below w.heap.size w W → Calls Tryz.prog 86 #[.agg #[.int .i64 s51, .bool g51, .slice A51 n51 c51, .slice B51 m51 d51]] W fun e w' => e = .returned (.int .i64 a2) ∧ Below W.heap.size W w') (h1 : ¬ a1 < 0) (h2 : decide (a2 < 0) = false) (hr1 : RatV w 34 g1 (.slice A1 n1 c1) (.slice B1 m1 d1) x1) (hr51 : RatV w 34 g51 (.slice A51 n51 c51) (.slice B51 m51 d51) x51) :
    Calls Tryz.prog 80 #[.agg #[.bool false, .int .i64 s1, .bool g1, .slice A1 n1 c1, .slice B1 m1 d1, .int .i64 s51, .bool g51, .slice A51 n51 c51, .slice B51 m51 d51]] w (NewSet w 34 false s1 x1 s51 x51) := by
  have HS1 := Lib.hid hS1
  have HS2 := Lib.hid hS2
  have H1 := Lib.hid h1
  have H2 := Lib.hid h2
  clear hS1 hS2 h1 h2
  have LL := li2 w #[.bool false, .int .i64 s1, .bool g1, .slice A1 n1 c1, .slice B1 m1 d1, .int .i64 s51, .bool g51, .slice A51 n51 c51, .slice B51 m51 d51] 69 #[.bool false, .int .i64 0, .bool false, .slice none 0 0, .slice none 0 0, .int .i64 0, .bool false, .slice none 0 0, .slice none 0 0] 69
  have HR51 := Lib.hid (hr51.below LL.out.b)
  have HR1 := Lib.hid (hr1.below LL.out.b)
  clear hr51 hr1
  go_enter Tryz.func80, Tryz.ntmps80
  obtain ⟨q1_0, q1_1, q1_2, q1_3, q1_4, q1_5, q1_6, q1_7, q1_8⟩ := (LL.out.blk 0 rfl).c9
  go_wp2_with fail
  refine (HS2.out _ LL.out.b).mono ?_
  rintro e wk ⟨rfl, hb⟩
  replace LL := stL LL hb
  replace HR51 := Lib.hid (HR51.out.below hb)
  replace HR1 := Lib.hid (HR1.out.below hb)
  clear hb q1_0 q1_1 q1_2 q1_3 q1_4 q1_5 q1_6 q1_7 q1_8
  obtain ⟨q2_0, q2_1, q2_2, q2_3, q2_4, q2_5, q2_6, q2_7, q2_8⟩ := (LL.out.blk 0 rfl).c9
  have h2 := H2.out
  go_wp2_with fail
  refine (HS1.out _ LL.out.b).mono ?_
  rintro e wk ⟨rfl, hb⟩
  replace LL := stL LL hb
  replace HR51 := Lib.hid (HR51.out.below hb)
  replace HR1 := Lib.hid (HR1.out.below hb)
  clear hb q2_0 q2_1 q2_2 q2_3 q2_4 q2_5 q2_6 q2_7 q2_8 h2
  have h1 : decide (a1 < 0) = false := decide_eq_false (by have := H1.out; omega)
  obtain ⟨q3_0, q3_1, q3_2, q3_3, q3_4, q3_5, q3_6, q3_7, q3_8⟩ := (LL.out.blk 0 rfl).c9
  replace LL := Lib.hid (LL.out.loose 1 rfl rfl)
  simp only [List.eraseIdx, List.size_toArray, List.length_cons, List.length_nil, Nat.zero_add, Nat.reduceAdd] at LL
  have HRB := LL.out.has 0 rfl
  obtain ⟨ha2_0, hf2_0, ha2_1, hf2_1, ha2_2, hf2_2, ha2_3, hf2_3, ha2_4, hf2_4, ha2_5, hf2_5, ha2_6, hf2_6, ha2_7, hf2_7, ha2_8, hf2_8⟩ := (LL.out.has 0 rfl).sf9
  have LF := Lib.hid (LL.out.write [.bool false, .int .i64 s1, .bool g1, .slice A1 n1 c1, .slice B1 m1 d1, .int .i64 s51, .bool g51, .slice A51 n51 c51, .slice B51 m51 d51] rfl (by omega) (by simp <;> omega) (by simp <;> omega))
  obtain ⟨hk2_0, hk2_1, hk2_2, hk2_3, hk2_4, hk2_5, hk2_6, hk2_7, hk2_8⟩ := (LF.out.blk 1 rfl).c9
  simp [sets] at hk2_0 hk2_1 hk2_2 hk2_3 hk2_4 hk2_5 hk2_6 hk2_7 hk2_8
  clear LL
  go_wp2
  refine bodyPost_ret (v := .agg #[.bool false, .int .i64 s1, .bool g1, .slice A1 n1 c1, .slice B1 m1 d1, .int .i64 s51, .bool g51, .slice A51 n51 c51, .slice B51 m51 d51]) (by simp [results, Tryz.results80, go_sem, hk2_0, hk2_1, hk2_2, hk2_3, hk2_4, hk2_5, hk2_6, hk2_7, hk2_8]) rfl ?_
  exact ⟨g1, A1, n1, c1, B1, m1, d1, g51, A51, n51, c51, B51, m51, d51, rfl, HRB.rat HR1.out [.bool false, .int .i64 s1, .bool g1, .slice A1 n1 c1, .slice B1 m1 d1, .int .i64 s51, .bool g51, .slice A51 n51 c51, .slice B51 m51 d51], HRB.rat HR51.out [.bool false, .int .i64 s1, .bool g1, .slice A1 n1 c1, .slice B1 m1 d1, .int .i64 s51, .bool g51, .slice A51 n51 c51, .slice B51 m51 d51], LF.out.b⟩
set_option maxRecDepth 8000 in
theorem single_walk (g1 : Bool) (A1 : Option Addr) (n1 c1 : Nat) (B1 : Option Addr) (m1 d1 : Nat) (x1 : Rat) (w : World) (hr : RatV w 1 g1 (.slice A1 n1 c1) (.slice B1 m1 d1) x1) :
    Calls Tryz.prog 148 #[.agg #[.bool g1, .slice A1 n1 c1, .slice B1 m1 d1]] w (NewSet w 1 false 0 x1 0 x1) := by
  have HB := Lib.hid (show Below w.heap.size w ((w.alloc (.cells #[.bool g1, .slice A1 n1 c1, .slice B1 m1 d1] 60)).alloc (.cells #[.bool false, .int .i64 0, .bool g1, .slice A1 n1 c1, .slice B1 m1 d1, .int .i64 0, .bool g1, .slice A1 n1 c1, .slice B1 m1 d1] 69)) from (below_alloc w _).alloc (by simp) _)
  have HR := Lib.hid (hr.below HB.out)
  clear hr
  go_enter Tryz.func148, Tryz.ntmps148
  go_wp2
  refine bodyPost_ret (v := .agg #[.bool false, .int .i64 0, .bool g1, .slice A1 n1 c1, .slice B1 m1 d1, .int .i64 0, .bool g1, .slice A1 n1 c1, .slice B1 m1 d1]) (by simp [results, Tryz.results148, go_sem]) rfl ?_
  exact ⟨g1, A1, n1, c1, B1, m1, d1, g1, A1, n1, c1, B1, m1, d1, rfl, HR.out, HR.out, HB.out⟩
set_option maxRecDepth 8000 in
theorem one_walk (w : World) : Calls Tryz.prog 76 #[] w (NewSet w 1 false 0 1 0 1) := by
  have HI := Lib.hid (show ∀ W, Calls Tryz.prog 149 #[.int .i64 1] W (NewRatS W 1 1) from fun W => (int_nat 1 W (by omega)).mono fun _ _ h => h.s)
  have HS := Lib.hid fun g1 A1 n1 c1 B1 m1 d1 W h => single_walk g1 A1 n1 c1 B1 m1 d1 1 W h
  have LL := li1 w #[.bool false, .int .i64 0, .bool false, .slice none 0 0, .slice none 0 0, .int .i64 0, .bool false, .slice none 0 0, .slice none 0 0] 69
  go_enter Tryz.func76, Tryz.ntmps76
  go_wp2_with fail
  refine (HI.out _).mono ?_
  rintro e wk ⟨g1, A1, n1, c1, B1, m1, d1, rfl, hr1, hb⟩
  replace LL := stL LL hb
  clear hb
  have HR1 := Lib.hid hr1
  clear hr1
  go_wp2_with fail
  refine (HS.out _ _ _ _ _ _ _ _ HR1.out).mono ?_
  rintro e wk ⟨g2, A2, n2, c2, B2, m2, d2, g3, A3, n3, c3, B3, m3, d3, rfl, hr2, hr3, hb⟩
  replace LL := stL LL hb
  replace HR1 := Lib.hid (HR1.out.below hb)
  clear hb HR1
  have HR2 := Lib.hid hr2
  clear hr2
  have HR3 := Lib.hid hr3
  clear hr3
  replace LL := Lib.hid (LL.out.loose 0 rfl rfl)
  simp only [List.eraseIdx, List.size_toArray, List.length_cons, List.length_nil, Nat.zero_add, Nat.reduceAdd] at LL
  have HRB := LL.out.has 0 rfl
  obtain ⟨ha0_0, hf0_0, ha0_1, hf0_1, ha0_2, hf0_2, ha0_3, hf0_3, ha0_4, hf0_4, ha0_5, hf0_5, ha0_6, hf0_6, ha0_7, hf0_7, ha0_8, hf0_8⟩ := (LL.out.has 0 rfl).sf9
  have LF := Lib.hid (LL.out.write [.bool false, .int .i64 0, .bool g2, .slice A2 n2 c2, .slice B2 m2 d2, .int .i64 0, .bool g3, .slice A3 n3 c3, .slice B3 m3 d3] rfl (by omega) (by simp <;> omega) (by simp <;> omega))
  obtain ⟨hk0_0, hk0_1, hk0_2, hk0_3, hk0_4, hk0_5, hk0_6, hk0_7, hk0_8⟩ := (LF.out.blk 0 rfl).c9
  simp [sets] at hk0_0 hk0_1 hk0_2 hk0_3 hk0_4 hk0_5 hk0_6 hk0_7 hk0_8
  clear LL
  go_wp2
  refine bodyPost_ret (v := .agg #[.bool false, .int .i64 0, .bool g2, .slice A2 n2 c2, .slice B2 m2 d2, .int .i64 0, .bool g3, .slice A3 n3 c3, .slice B3 m3 d3]) (by simp [results, Tryz.results76, go_sem, hk0_0, hk0_1, hk0_2, hk0_3, hk0_4, hk0_5, hk0_6, hk0_7, hk0_8]) rfl ?_
  exact ⟨g2, A2, n2, c2, B2, m2, d2, g3, A3, n3, c3, B3, m3, d3, rfl, HRB.rat HR2.out [.bool false, .int .i64 0, .bool g2, .slice A2 n2 c2, .slice B2 m2 d2, .int .i64 0, .bool g3, .slice A3 n3 c3, .slice B3 m3 d3], HRB.rat HR3.out [.bool false, .int .i64 0, .bool g2, .slice A2 n2 c2, .slice B2 m2 d2, .int .i64 0, .bool g3, .slice A3 n3 c3, .slice B3 m3 d3], LF.out.b⟩
end Go.Proofs.YtmjkmoahkanblaaGreat

namespace Go.Proofs.YtmjkmoahkanblaaGreat
open Go.RowKit
attribute [local go_sem] run_store_float run_eqf
end Go.Proofs.YtmjkmoahkanblaaGreat
