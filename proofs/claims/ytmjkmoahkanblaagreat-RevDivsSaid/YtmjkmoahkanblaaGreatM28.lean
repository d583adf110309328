/-
Walks: package vergeref10, DivRev2, RecipRev, NegRev, AbsRev.
-/
import Derived.Test.YtmjkmoahkanblaaGreatM26
import Derived.Deep.DeepCutAuto
set_option linter.unusedSimpArgs false
set_option linter.unusedVariables false
set_option maxHeartbeats 12800000

namespace Go.Proofs.YtmjkmoahkanblaaGreat
open Go.RowKit
set_option maxRecDepth 8000 in
theorem refdiv2_zero (b1 b2 f1 f2 x1 x2 : Nat) (i1 j1 i2 j2 : Int) (L : Nat → Int → Int → Int × Int) (w : World) (hx : x1 < 18446744073709551616) (hy : x2 < 18446744073709551616) (hO1 : ∀ W, Calls Tryz.prog 57 #[.agg #[.int .u64 (b1 : Int), .int .u64 (b2 : Int)]] W (NewSetI W i1 j1)) (hO2 : ∀ W, Calls Tryz.prog 57 #[.agg #[.int .u64 (f1 : Int), .int .u64 (f2 : Int)]] W (NewSetI W i2 j2)) (hZ1 : ∀ W v, SetOf W v i1 j1 → Calls Tryz.prog 85 #[v] W fun e w' => e = .returned (.bool true) ∧ Below W.heap.size W w') (hZ2 : ∀ W v, SetOf W v i2 j2 → Calls Tryz.prog 85 #[v] W fun e w' => e = .returned (.bool true) ∧ Below W.heap.size W w')
    (hL0 : pf (-1) 0 true 0 0 true = L 0) (hL1 : pf 0 0 true 1 0 true = L 1) :
    Calls Tryz.prog 43 #[.agg #[.int .u64 (b1 : Int), .int .u64 (b2 : Int)], .agg #[.int .u64 (f1 : Int), .int .u64 (f2 : Int)], .agg #[.int .u64 (x1 : Int), .int .u64 (x2 : Int)]] w fun e w' => e = .returned (.agg #[.int .u64 (pat (zg (rd x1 x2).1 (rd x1 x2).2 L 2).1 : Int), .int .u64 (pat (zg (rd x1 x2).1 (rd x1 x2).2 L 2).2 : Int)]) ∧ Below w.heap.size w w' := by
  have HW := Lib.hid (show ∀ W, Calls Tryz.prog 115 #[.int .i64 0, .bool true] W (NewBd W 1 0 0 1 true) from fun W => whole_nat 0 true W (by omega))
  have HF := Lib.hid fun W => far_any 1 W
  have HG := Lib.hid fun W => far_any (-1) W
  have up0 : up 0 0 = 0 := rndI_zero (.inr rfl)
  have dn0 : dn 0 0 = 0 := rndI_zero (.inl rfl)
  have up1 : up 1 0 = M := by unfold up; rw [if_neg (by omega)]; omega
  have dn1 : dn (-1) 0 = -(M : Int) := by unfold dn; rw [if_neg (by omega)]; omega
  have HP1 := Lib.hid (show dn (-1) 0 ≤ up 0 0 by rw [up0, dn1]; omega)
  have HP2 := Lib.hid (show dn 0 0 ≤ up 1 0 by rw [up1, dn0]; omega)
  clear up0 dn0 up1 dn1
  have HO1 := Lib.hid hO1
  have HO2 := Lib.hid hO2
  have HZ1 := Lib.hid hZ1
  have HZ2 := Lib.hid hZ2
  clear hO1 hO2 hZ1 hZ2
  have HL0 := Lib.hid hL0
  have HL1 := Lib.hid hL1
  clear hL0 hL1
  have HA := Lib.hid fun W A c h1 h2 h3 => all_pcs x1 x2 A 2 c L W hx hy (by omega) h1 h2 h3
  obtain ⟨r1, hr1⟩ : ∃ p, pat (zg (rd x1 x2).1 (rd x1 x2).2 L 2).1 = p := ⟨_, rfl⟩
  obtain ⟨r2, hr2⟩ : ∃ p, pat (zg (rd x1 x2).1 (rd x1 x2).2 L 2).2 = p := ⟨_, rfl⟩
  rw [hr1, hr2] at HA ⊢
  clear hr1 hr2 hx hy
  have LL := li4 w #[.int .u64 (b1 : Int), .int .u64 (b2 : Int)] 24 #[.int .u64 (f1 : Int), .int .u64 (f2 : Int)] 24 #[.int .u64 (x1 : Int), .int .u64 (x2 : Int)] 24 #[.int .u64 0, .int .u64 0] 24
  go_enter Tryz.func43, Tryz.ntmps43
  obtain ⟨q1_0, q1_1⟩ := (LL.out.blk 0 rfl).c2
  go_wp2_with fail
  refine (HO1.out _).mono ?_
  rintro e wk ⟨o1, s1, g1, A1, n1, c1, B1, m1, d1, s51, g51, A51, n51, c51, B51, m51, d51, rfl, hs1, hb⟩
  replace LL := stL LL hb
  clear hb q1_0 q1_1
  have HS1 := Lib.hid hs1
  clear hs1
  go_upto_region 2 with fail
  have hl_j7 := LL.out.lts
  generalize hwn : World.alloc wk _ = wn
  replace HS1 := Lib.hid (HS1.out.below (below_allocE hwn))
  replace LL := Lib.hid (LL.out.newE hwn)
  simp only [List.cons_append, List.nil_append] at LL
  simp only [List.mem_cons, List.not_mem_nil, or_false, forall_eq_or_imp, forall_eq, false_imp_iff, implies_true, and_true] at hl_j7
  clear hwn
  generalize wk.heap.size = j7 at LL hl_j7 ⊢
  obtain ⟨q2_0, q2_1⟩ := (LL.out.blk 1 rfl).c2
  go_wp2_with fail
  refine (HO2.out _).mono ?_
  rintro e wk ⟨o2, s2, g2, A2, n2, c2, B2, m2, d2, s52, g52, A52, n52, c52, B52, m52, d52, rfl, hs2, hb⟩
  replace LL := stL LL hb
  replace HS1 := Lib.hid (HS1.out.below hb)
  clear hb q2_0 q2_1
  have HS2 := Lib.hid hs2
  clear hs2
  go_upto_region 3 with fail
  have hl_j8 := LL.out.lts
  generalize hwn : World.alloc wk _ = wn
  replace HS1 := Lib.hid (HS1.out.below (below_allocE hwn))
  replace HS2 := Lib.hid (HS2.out.below (below_allocE hwn))
  replace LL := Lib.hid (LL.out.newE hwn)
  simp only [List.cons_append, List.nil_append] at LL
  simp only [List.mem_cons, List.not_mem_nil, or_false, forall_eq_or_imp, forall_eq, false_imp_iff, implies_true, and_true] at hl_j8
  clear hwn
  generalize wk.heap.size = j8 at LL hl_j8 ⊢
  obtain ⟨q3_0, q3_1, q3_2, q3_3, q3_4, q3_5, q3_6, q3_7, q3_8⟩ := (LL.out.blk 4 rfl).c9
  go_wp2_with fail
  refine (HZ1.out _ _ HS1.out).mono ?_
  rintro e wk ⟨rfl, hb⟩
  replace LL := stL LL hb
  replace HS1 := Lib.hid (HS1.out.below hb)
  replace HS2 := Lib.hid (HS2.out.below hb)
  clear hb q3_0 q3_1 q3_2 q3_3 q3_4 q3_5 q3_6 q3_7 q3_8
  obtain ⟨q4_0, q4_1, q4_2, q4_3, q4_4, q4_5, q4_6, q4_7, q4_8⟩ := (LL.out.blk 5 rfl).c9
  go_wp2_with fail
  refine (HZ2.out _ _ HS2.out).mono ?_
  rintro e wk ⟨rfl, hb⟩
  replace LL := stL LL hb
  replace HS1 := Lib.hid (HS1.out.below hb)
  replace HS2 := Lib.hid (HS2.out.below hb)
  clear hb q4_0 q4_1 q4_2 q4_3 q4_4 q4_5 q4_6 q4_7 q4_8
  clear HS1 HS2 HZ1 HZ2 HO1 HO2
  go_wp2_with fail
  replace LL := Lib.hid (LL.out.loose 3 rfl rfl)
  simp only [List.eraseIdx, List.size_toArray, List.length_cons, List.length_nil, Nat.zero_add, Nat.reduceAdd] at LL
  refine regL LL (fun hHeld => ?_)
  clear LL
  generalize World.drew _ = wk at hHeld  ⊢
  refine tk 0 ?_ (hv := by intro W2 hSw; obtain ⟨q0, q1⟩ := (hSw.blk 2 rfl).c2; go_simp; (try with_reducible rfl))
  try simp only [Act.put, lay]
  refine rdy 1 (fun KK hKK => ?_)
  go_simp
  refine (HG.out _).mono ?_
  rintro e wk ⟨g11, A11, n11, c11, B11, m11, d11, rfl, ht11, hb1⟩
  go_wp2_with fail
  refine hKK.out _ _ (hHeld.keep hb1) (fun _ => ?_)
  clear hKK KK hHeld
  rename_i hHeld
  try simp only [Act.put, lay]
  (try replace HT12 := Lib.hid (HT12.out.below hb1))
  (try replace HT13 := Lib.hid (HT13.out.below hb1))
  (try replace HT14 := Lib.hid (HT14.out.below hb1))
  have HT11 := Lib.hid ht11
  clear ht11
  clear hb1
  refine rdy 2 (fun KK hKK => ?_)
  go_simp
  refine (HW.out _).mono ?_
  rintro e wk ⟨g12, A12, n12, c12, B12, m12, d12, rfl, ht12, hb2⟩
  go_wp2_with fail
  refine hKK.out _ _ (hHeld.keep hb2) (fun _ => ?_)
  clear hKK KK hHeld
  rename_i hHeld
  try simp only [Act.put, lay]
  (try replace HT11 := Lib.hid (HT11.out.below hb2))
  (try replace HT13 := Lib.hid (HT13.out.below hb2))
  (try replace HT14 := Lib.hid (HT14.out.below hb2))
  have HT12 := Lib.hid ht12
  clear ht12
  clear hb2
  refine tk 3 ?_
  try simp only [Act.put, lay]
  refine rdy 4 (fun KK hKK => ?_)
  go_simp
  refine (HW.out _).mono ?_
  rintro e wk ⟨g13, A13, n13, c13, B13, m13, d13, rfl, ht13, hb3⟩
  go_wp2_with fail
  refine hKK.out _ _ (hHeld.keep hb3) (fun _ => ?_)
  clear hKK KK hHeld
  rename_i hHeld
  try simp only [Act.put, lay]
  (try replace HT11 := Lib.hid (HT11.out.below hb3))
  (try replace HT12 := Lib.hid (HT12.out.below hb3))
  (try replace HT14 := Lib.hid (HT14.out.below hb3))
  have HT13 := Lib.hid ht13
  clear ht13
  clear hb3
  refine rdy 5 (fun KK hKK => ?_)
  go_simp
  refine (HF.out _).mono ?_
  rintro e wk ⟨g14, A14, n14, c14, B14, m14, d14, rfl, ht14, hb4⟩
  go_wp2_with fail
  refine hKK.out _ _ (hHeld.keep hb4) (fun _ => ?_)
  clear hKK KK hHeld
  rename_i hHeld
  try simp only [Act.put, lay]
  (try replace HT11 := Lib.hid (HT11.out.below hb4))
  (try replace HT12 := Lib.hid (HT12.out.below hb4))
  (try replace HT13 := Lib.hid (HT13.out.below hb4))
  have HT14 := Lib.hid ht14
  clear ht14
  clear hb4
  refine tk 6 ?_
  try simp only [Act.put, lay]
  refine rdy 7 (fun KK hKK => ?_)
  go_simp
  have hl_js := hHeld.lts
  refine hKK.out _ _ (hHeld.alloc _) (fun _ => ?_)
  clear hKK KK hHeld
  rename_i hHeld
  try simp only [Act.put, lay]
  generalize hwn : World.alloc wk _ = wn at hHeld ⊢
  have B_js := Blk.newE hwn
  (try replace HT11 := Lib.hid (HT11.out.below (below_allocE hwn)))
  (try replace HT12 := Lib.hid (HT12.out.below (below_allocE hwn)))
  (try replace HT13 := Lib.hid (HT13.out.below (below_allocE hwn)))
  (try replace HT14 := Lib.hid (HT14.out.below (below_allocE hwn)))
  simp only [List.mem_cons, List.not_mem_nil, or_false, forall_eq_or_imp, forall_eq, false_imp_iff, implies_true, and_true] at hl_js
  clear hwn
  generalize wk.heap.size = js at B_js hl_js ⊢
  obtain ⟨wk, rfl⟩ : ∃ X, X = wn := ⟨_, rfl⟩
  refine rdy 8 (fun KK hKK => ?_)
  go_simp
  refine (HA.out _ _ _ (Nat.le_refl _) (fun h => absurd h (by omega)) (fun k hk => ⟨_, rfl, by match k, hk with | 0, _ => exact HL0.out ▸ PcG.at B_js 0 (pcw_one 34 _ _ _ _ _ _ _ _ 0 _ _ _ _ _ _ _ _ _ 0 _ _ (HT11.out.mono (by omega)) (HT12.out.mono (by omega)) (by omega) (by omega) (by omega) (by omega) HP1.out) ⟨rfl, rfl, rfl, rfl, rfl, rfl, rfl, rfl, rfl, rfl, rfl, rfl, rfl⟩ | 1, _ => exact HL1.out ▸ PcG.at B_js 1 (pcw_one 34 _ _ _ _ _ _ _ _ 0 _ _ _ _ _ _ _ _ _ 0 _ _ (HT13.out.mono (by omega)) (HT14.out.mono (by omega)) (by omega) (by omega) (by omega) (by omega) HP2.out) ⟨rfl, rfl, rfl, rfl, rfl, rfl, rfl, rfl, rfl, rfl, rfl, rfl, rfl⟩⟩)).mono ?_
  rintro e wk ⟨rfl, hb5⟩
  go_wp2_with fail
  refine hKK.out _ _ (hHeld.keep hb5) (fun _ => ?_)
  clear hKK KK hHeld
  rename_i hHeld
  try simp only [Act.put, lay]
  (try replace HT11 := Lib.hid (HT11.out.below hb5))
  (try replace HT12 := Lib.hid (HT12.out.below hb5))
  (try replace HT13 := Lib.hid (HT13.out.below hb5))
  (try replace HT14 := Lib.hid (HT14.out.below hb5))
  clear hb5
  refine rdy 9 (fun KK hKK => ?_)
  obtain ⟨ha0, hf0, ha1, hf1⟩ := (hHeld.has 0 rfl).sf2
  obtain ⟨csx, hbx, -, hcx⟩ := hHeld.has 0 rfl
  (try clear HT11)
  (try clear HT12)
  (try clear HT13)
  (try clear HT14)
  clear hbx hcx
  go_simp
  have HS_0 := (hHeld.has 0 rfl).laid [.int .u64 (r1 : Int), .int .u64 (r2 : Int)] rfl
  refine hKK.out _ _ (hHeld.over 0 rfl [.int .u64 (r1 : Int), .int .u64 (r2 : Int)] rfl rfl (by first | omega | exact hHeld.le_of 0 rfl) (by simp <;> omega) (by simp <;> omega)) (fun _ => ?_)
  clear hKK KK hHeld
  rename_i hHeld
  try simp only [Act.put, lay]
  refine wpAnyH_done (by kernel_rfl) ?_ _
  have LB := Lib.hid hHeld.b
  clear hHeld
  obtain ⟨hk6_0, hk6_1⟩ := HS_0.c2
  clear HS_0
  simp [sets] at hk6_0 hk6_1
  go_wp2
  refine bodyPost_ret (v := .agg #[.int .u64 (r1 : Int), .int .u64 (r2 : Int)]) (by simp [results, Tryz.results43, go_sem, hk6_0, hk6_1]) rfl ?_
  exact ⟨rfl, LB.out⟩
set_option maxRecDepth 8000 in
theorem refdiv2_some (b1 b2 f1 f2 x1 x2 : Nat) (i1 j1 i2 j2 i3 j3 i4 j4 : Int) (z1 z2 : Bool) (F1 F2 F3 F4 : Int → Int → Int × Int) (L : Nat → Int → Int → Int × Int) (w : World) (hx : x1 < 18446744073709551616) (hy : x2 < 18446744073709551616) (hO1 : ∀ W, Calls Tryz.prog 57 #[.agg #[.int .u64 (b1 : Int), .int .u64 (b2 : Int)]] W (NewSetI W i1 j1)) (hO2 : ∀ W, Calls Tryz.prog 57 #[.agg #[.int .u64 (f1 : Int), .int .u64 (f2 : Int)]] W (NewSetI W i2 j2)) (hZ1 : ∀ W v, SetOf W v i1 j1 → Calls Tryz.prog 85 #[v] W fun e w' => e = .returned (.bool z1) ∧ Below W.heap.size W w') (hZ2 : ∀ W v, SetOf W v i2 j2 → Calls Tryz.prog 85 #[v] W fun e w' => e = .returned (.bool z2) ∧ Below W.heap.size W w') (hz : z1 = false ∨ z1 = true ∧ z2 = false)
    (hM1 : ∀ W v, SetOf W v i1 j1 → Calls Tryz.prog 58 #[v] W (NewSetI W i3 j3)) (hM2 : ∀ W v, SetOf W v i2 j2 → Calls Tryz.prog 58 #[v] W (NewSetI W i4 j4)) (hD1 : ∀ W u v, SetOf W u i1 j1 → SetOf W v i2 j2 → Calls Tryz.prog 75 #[u, v] W (NewPcV W F1)) (hD2 : ∀ W u v, SetOf W u i3 j3 → SetOf W v i4 j4 → Calls Tryz.prog 75 #[u, v] W (NewPcV W F2)) (hD3 : ∀ W u v, SetOf W u i3 j3 → SetOf W v i2 j2 → Calls Tryz.prog 75 #[u, v] W (NewPcV W F3)) (hD4 : ∀ W u v, SetOf W u i1 j1 → SetOf W v i4 j4 → Calls Tryz.prog 75 #[u, v] W (NewPcV W F4)) (hL0 : F1 = L 0) (hL1 : F2 = L 1) (hL2 : ngF F3 = L 2) (hL3 : ngF F4 = L 3) :
    Calls Tryz.prog 43 #[.agg #[.int .u64 (b1 : Int), .int .u64 (b2 : Int)], .agg #[.int .u64 (f1 : Int), .int .u64 (f2 : Int)], .agg #[.int .u64 (x1 : Int), .int .u64 (x2 : Int)]] w fun e w' => e = .returned (.agg #[.int .u64 (pat (zg (rd x1 x2).1 (rd x1 x2).2 L 4).1 : Int), .int .u64 (pat (zg (rd x1 x2).1 (rd x1 x2).2 L 4).2 : Int)]) ∧ Below w.heap.size w w' := by
  have HO1 := Lib.hid hO1
  have HO2 := Lib.hid hO2
  have HZ1 := Lib.hid hZ1
  have HZ2 := Lib.hid hZ2
  have HM1 := Lib.hid hM1
  have HM2 := Lib.hid hM2
  have HD1 := Lib.hid hD1
  have HD2 := Lib.hid hD2
  have HD3 := Lib.hid hD3
  have HD4 := Lib.hid hD4
  have HZ := Lib.hid hz
  clear hO1 hO2 hZ1 hZ2 hM1 hM2 hD1 hD2 hD3 hD4 hz
  have HL0 := Lib.hid hL0
  have HL1 := Lib.hid hL1
  have HL2 := Lib.hid hL2
  have HL3 := Lib.hid hL3
  clear hL0 hL1 hL2 hL3
  have HA := Lib.hid fun W A c h1 h2 h3 => all_pcs x1 x2 A 4 c L W hx hy (by omega) h1 h2 h3
  obtain ⟨r1, hr1⟩ : ∃ p, pat (zg (rd x1 x2).1 (rd x1 x2).2 L 4).1 = p := ⟨_, rfl⟩
  obtain ⟨r2, hr2⟩ : ∃ p, pat (zg (rd x1 x2).1 (rd x1 x2).2 L 4).2 = p := ⟨_, rfl⟩
  rw [hr1, hr2] at HA ⊢
  clear hr1 hr2 hx hy
  have LL := li4 w #[.int .u64 (b1 : Int), .int .u64 (b2 : Int)] 24 #[.int .u64 (f1 : Int), .int .u64 (f2 : Int)] 24 #[.int .u64 (x1 : Int), .int .u64 (x2 : Int)] 24 #[.int .u64 0, .int .u64 0] 24
  go_enter Tryz.func43, Tryz.ntmps43
  obtain ⟨q1_0, q1_1⟩ := (LL.out.blk 0 rfl).c2
  go_wp2_with fail
  refine (HO1.out _).mono ?_
  rintro e wk ⟨o1, s1, g1, A1, n1, c1, B1, m1, d1, s51, g51, A51, n51, c51, B51, m51, d51, rfl, hs1, hb⟩
  replace LL := stL LL hb
  clear hb q1_0 q1_1
  have HS1 := Lib.hid hs1
  clear hs1
  go_upto_region 2 with fail
  have hl_j7 := LL.out.lts
  generalize hwn : World.alloc wk _ = wn
  replace HS1 := Lib.hid (HS1.out.below (below_allocE hwn))
  replace LL := Lib.hid (LL.out.newE hwn)
  simp only [List.cons_append, List.nil_append] at LL
  simp only [List.mem_cons, List.not_mem_nil, or_false, forall_eq_or_imp, forall_eq, false_imp_iff, implies_true, and_true] at hl_j7
  clear hwn
  generalize wk.heap.size = j7 at LL hl_j7 ⊢
  obtain ⟨q2_0, q2_1⟩ := (LL.out.blk 1 rfl).c2
  go_wp2_with fail
  refine (HO2.out _).mono ?_
  rintro e wk ⟨o2, s2, g2, A2, n2, c2, B2, m2, d2, s52, g52, A52, n52, c52, B52, m52, d52, rfl, hs2, hb⟩
  replace LL := stL LL hb
  replace HS1 := Lib.hid (HS1.out.below hb)
  clear hb q2_0 q2_1
  have HS2 := Lib.hid hs2
  clear hs2
  go_upto_region 3 with fail
  have hl_j8 := LL.out.lts
  generalize hwn : World.alloc wk _ = wn
  replace HS1 := Lib.hid (HS1.out.below (below_allocE hwn))
  replace HS2 := Lib.hid (HS2.out.below (below_allocE hwn))
  replace LL := Lib.hid (LL.out.newE hwn)
  simp only [List.cons_append, List.nil_append] at LL
  simp only [List.mem_cons, List.not_mem_nil, or_false, forall_eq_or_imp, forall_eq, false_imp_iff, implies_true, and_true] at hl_j8
  clear hwn
  generalize wk.heap.size = j8 at LL hl_j8 ⊢
  go_cut [20] (fun s20 wx => s20 = .bool false ∧ Lies w wx [(w.heap.size, 24, #[.int .u64 (b1 : Int), .int .u64 (b2 : Int)]), ((w.heap.size + 1), 24, #[.int .u64 (f1 : Int), .int .u64 (f2 : Int)]), ((w.heap.size + 2), 24, #[.int .u64 (x1 : Int), .int .u64 (x2 : Int)]), ((w.heap.size + 3), 24, #[.int .u64 0, .int .u64 0]), (j7, 69, #[.bool o1, .int .i64 s1, .bool g1, .slice A1 n1 c1, .slice B1 m1 d1, .int .i64 s51, .bool g51, .slice A51 n51 c51, .slice B51 m51 d51]), (j8, 69, #[.bool o2, .int .i64 s2, .bool g2, .slice A2 n2 c2, .slice B2 m2 d2, .int .i64 s52, .bool g52, .slice A52 n52 c52, .slice B52 m52 d52])] [] ∧ SetOf wx (.agg #[.bool o1, .int .i64 s1, .bool g1, .slice A1 n1 c1, .slice B1 m1 d1, .int .i64 s51, .bool g51, .slice A51 n51 c51, .slice B51 m51 d51]) i1 j1 ∧ SetOf wx (.agg #[.bool o2, .int .i64 s2, .bool g2, .slice A2 n2 c2, .slice B2 m2 d2, .int .i64 s52, .bool g52, .slice A52 n52 c52, .slice B52 m52 d52]) i2 j2)
  case first =>
    obtain ⟨q3_0, q3_1, q3_2, q3_3, q3_4, q3_5, q3_6, q3_7, q3_8⟩ := (LL.out.blk 4 rfl).c9
    go_wp2_with fail
    refine (HZ1.out _ _ HS1.out).mono ?_
    rintro e wk ⟨rfl, hb⟩
    replace LL := stL LL hb
    replace HS1 := Lib.hid (HS1.out.below hb)
    replace HS2 := Lib.hid (HS2.out.below hb)
    clear hb q3_0 q3_1 q3_2 q3_3 q3_4 q3_5 q3_6 q3_7 q3_8
    rcases HZ.out with h | ⟨h, h2⟩ <;> subst h
    · go_wp2_with fail
      go_meet
      case rel => exact ⟨rfl, LL.out, HS1.out, HS2.out⟩
    · subst h2
      obtain ⟨q4_0, q4_1, q4_2, q4_3, q4_4, q4_5, q4_6, q4_7, q4_8⟩ := (LL.out.blk 5 rfl).c9
      go_wp2_with fail
      refine (HZ2.out _ _ HS2.out).mono ?_
      rintro e wk ⟨rfl, hb⟩
      replace LL := stL LL hb
      replace HS1 := Lib.hid (HS1.out.below hb)
      replace HS2 := Lib.hid (HS2.out.below hb)
      clear hb q4_0 q4_1 q4_2 q4_3 q4_4 q4_5 q4_6 q4_7 q4_8
      go_wp2_with fail
      go_meet
      case rel => exact ⟨rfl, LL.out, HS1.out, HS2.out⟩
  case rest =>
  obtain ⟨rfl, hcl, hs1, hs2⟩ := hcut
  rename World => wx
  clear LL HS1 HS2 HZ1 HZ2 HZ HO1 HO2
  have LL := Lib.hid hcl
  clear hcl
  have HS1 := Lib.hid hs1
  clear hs1
  have HS2 := Lib.hid hs2
  clear hs2
  obtain ⟨q3_0, q3_1, q3_2, q3_3, q3_4, q3_5, q3_6, q3_7, q3_8⟩ := (LL.out.blk 4 rfl).c9
  go_wp2_with fail
  refine (HM1.out _ _ HS1.out).mono ?_
  rintro e wk ⟨o3, s3, g3, A3, n3, c3, B3, m3, d3, s53, g53, A53, n53, c53, B53, m53, d53, rfl, hs3, hb⟩
  replace LL := stL LL hb
  replace HS1 := Lib.hid (HS1.out.below hb)
  replace HS2 := Lib.hid (HS2.out.below hb)
  clear hb q3_0 q3_1 q3_2 q3_3 q3_4 q3_5 q3_6 q3_7 q3_8
  have HS3 := Lib.hid hs3
  clear hs3
  go_upto_region 6 with fail
  have hl_j9 := LL.out.lts
  generalize hwn : World.alloc wk _ = wn
  replace HS1 := Lib.hid (HS1.out.below (below_allocE hwn))
  replace HS2 := Lib.hid (HS2.out.below (below_allocE hwn))
  replace HS3 := Lib.hid (HS3.out.below (below_allocE hwn))
  replace LL := Lib.hid (LL.out.newE hwn)
  simp only [List.cons_append, List.nil_append] at LL
  simp only [List.mem_cons, List.not_mem_nil, or_false, forall_eq_or_imp, forall_eq, false_imp_iff, implies_true, and_true] at hl_j9
  clear hwn
  generalize wk.heap.size = j9 at LL hl_j9 ⊢
  obtain ⟨q4_0, q4_1, q4_2, q4_3, q4_4, q4_5, q4_6, q4_7, q4_8⟩ := (LL.out.blk 5 rfl).c9
  go_wp2_with fail
  refine (HM2.out _ _ HS2.out).mono ?_
  rintro e wk ⟨o4, s4, g4, A4, n4, c4, B4, m4, d4, s54, g54, A54, n54, c54, B54, m54, d54, rfl, hs4, hb⟩
  replace LL := stL LL hb
  replace HS1 := Lib.hid (HS1.out.below hb)
  replace HS2 := Lib.hid (HS2.out.below hb)
  replace HS3 := Lib.hid (HS3.out.below hb)
  clear hb q4_0 q4_1 q4_2 q4_3 q4_4 q4_5 q4_6 q4_7 q4_8
  have HS4 := Lib.hid hs4
  clear hs4
  go_upto_region 7 with fail
  have hl_j10 := LL.out.lts
  generalize hwn : World.alloc wk _ = wn
  replace HS1 := Lib.hid (HS1.out.below (below_allocE hwn))
  replace HS2 := Lib.hid (HS2.out.below (below_allocE hwn))
  replace HS3 := Lib.hid (HS3.out.below (below_allocE hwn))
  replace HS4 := Lib.hid (HS4.out.below (below_allocE hwn))
  replace LL := Lib.hid (LL.out.newE hwn)
  simp only [List.cons_append, List.nil_append] at LL
  simp only [List.mem_cons, List.not_mem_nil, or_false, forall_eq_or_imp, forall_eq, false_imp_iff, implies_true, and_true] at hl_j10
  clear hwn
  generalize wk.heap.size = j10 at LL hl_j10 ⊢
  replace LL := Lib.hid (LL.out.loose 3 rfl rfl)
  simp only [List.eraseIdx, List.size_toArray, List.length_cons, List.length_nil, Nat.zero_add, Nat.reduceAdd] at LL
  refine regL LL (fun hHeld => ?_)
  clear LL
  replace HS1 := Lib.hid (HS1.out.below (Below.refl _ _).drew)
  replace HS2 := Lib.hid (HS2.out.below (Below.refl _ _).drew)
  replace HS3 := Lib.hid (HS3.out.below (Below.refl _ _).drew)
  replace HS4 := Lib.hid (HS4.out.below (Below.refl _ _).drew)
  generalize World.drew _ = wk at hHeld HS1 HS2 HS3 HS4 ⊢
  refine tk 0 ?_ (hv := by intro W2 hSw; obtain ⟨q0, q1⟩ := (hSw.blk 2 rfl).c2; go_simp; (try with_reducible rfl))
  try simp only [Act.put, lay]
  refine tk 1 ?_ (hv := by intro W2 hSw; obtain ⟨q0, q1, q2, q3, q4, q5, q6, q7, q8⟩ := (hSw.blk 3 rfl).c9; go_simp; (try with_reducible rfl))
  try simp only [Act.put, lay]
  refine tk 2 ?_ (hv := by intro W2 hSw; obtain ⟨q0, q1, q2, q3, q4, q5, q6, q7, q8⟩ := (hSw.blk 4 rfl).c9; go_simp; (try with_reducible rfl))
  try simp only [Act.put, lay]
  refine tk 4 ?_ (hv := by intro W2 hSw; obtain ⟨q0, q1, q2, q3, q4, q5, q6, q7, q8⟩ := (hSw.blk 5 rfl).c9; go_simp; (try with_reducible rfl))
  try simp only [Act.put, lay]
  refine tk 5 ?_ (hv := by intro W2 hSw; obtain ⟨q0, q1, q2, q3, q4, q5, q6, q7, q8⟩ := (hSw.blk 6 rfl).c9; go_simp; (try with_reducible rfl))
  try simp only [Act.put, lay]
  refine tk 7 ?_ (hv := by intro W2 hSw; obtain ⟨q0, q1, q2, q3, q4, q5, q6, q7, q8⟩ := (hSw.blk 5 rfl).c9; go_simp; (try with_reducible rfl))
  try simp only [Act.put, lay]
  refine tk 8 ?_ (hv := by intro W2 hSw; obtain ⟨q0, q1, q2, q3, q4, q5, q6, q7, q8⟩ := (hSw.blk 4 rfl).c9; go_simp; (try with_reducible rfl))
  try simp only [Act.put, lay]
  refine tk 11 ?_ (hv := by intro W2 hSw; obtain ⟨q0, q1, q2, q3, q4, q5, q6, q7, q8⟩ := (hSw.blk 3 rfl).c9; go_simp; (try with_reducible rfl))
  try simp only [Act.put, lay]
  refine tk 12 ?_ (hv := by intro W2 hSw; obtain ⟨q0, q1, q2, q3, q4, q5, q6, q7, q8⟩ := (hSw.blk 6 rfl).c9; go_simp; (try with_reducible rfl))
  try simp only [Act.put, lay]
  refine rdy 3 (fun KK hKK => ?_)
  go_simp
  refine (HD1.out _ _ _ HS1.out HS2.out).mono ?_
  rintro e wk ⟨o21, s21, g21, A21, n21, c21, B21, m21, d21, N21, p21, s71, g71, A71, n71, c71, B71, m71, d71, N71, p71, rfl, hp21, hb1⟩
  go_wp2_with fail
  refine hKK.out _ _ (hHeld.keep hb1) (fun _ => ?_)
  clear hKK KK hHeld
  rename_i hHeld
  try simp only [Act.put, lay]
  (try replace HS1 := Lib.hid (HS1.out.below hb1))
  (try replace HS2 := Lib.hid (HS2.out.below hb1))
  (try replace HS3 := Lib.hid (HS3.out.below hb1))
  (try replace HS4 := Lib.hid (HS4.out.below hb1))
  (try replace HP22 := Lib.hid (HP22.out.below hb1))
  (try replace HP23 := Lib.hid (HP23.out.below hb1))
  (try replace HP24 := Lib.hid (HP24.out.below hb1))
  (try replace HP25 := Lib.hid (HP25.out.below hb1))
  (try replace HP26 := Lib.hid (HP26.out.below hb1))
  have HP21 := Lib.hid hp21
  clear hp21
  clear hb1
  refine rdy 6 (fun KK hKK => ?_)
  go_simp
  refine (HD2.out _ _ _ HS3.out HS4.out).mono ?_
  rintro e wk ⟨o22, s22, g22, A22, n22, c22, B22, m22, d22, N22, p22, s72, g72, A72, n72, c72, B72, m72, d72, N72, p72, rfl, hp22, hb2⟩
  go_wp2_with fail
  refine hKK.out _ _ (hHeld.keep hb2) (fun _ => ?_)
  clear hKK KK hHeld
  rename_i hHeld
  try simp only [Act.put, lay]
  (try replace HS1 := Lib.hid (HS1.out.below hb2))
  (try replace HS2 := Lib.hid (HS2.out.below hb2))
  (try replace HS3 := Lib.hid (HS3.out.below hb2))
  (try replace HS4 := Lib.hid (HS4.out.below hb2))
  (try replace HP21 := Lib.hid (HP21.out.below hb2))
  (try replace HP23 := Lib.hid (HP23.out.below hb2))
  (try replace HP24 := Lib.hid (HP24.out.below hb2))
  (try replace HP25 := Lib.hid (HP25.out.below hb2))
  (try replace HP26 := Lib.hid (HP26.out.below hb2))
  have HP22 := Lib.hid hp22
  clear hp22
  clear hb2
  refine rdy 9 (fun KK hKK => ?_)
  go_simp
  refine (HD3.out _ _ _ HS3.out HS2.out).mono ?_
  rintro e wk ⟨o23, s23, g23, A23, n23, c23, B23, m23, d23, N23, p23, s73, g73, A73, n73, c73, B73, m73, d73, N73, p73, rfl, hp23, hb3⟩
  go_wp2_with fail
  refine hKK.out _ _ (hHeld.keep hb3) (fun _ => ?_)
  clear hKK KK hHeld
  rename_i hHeld
  try simp only [Act.put, lay]
  (try replace HS1 := Lib.hid (HS1.out.below hb3))
  (try replace HS2 := Lib.hid (HS2.out.below hb3))
  (try replace HS3 := Lib.hid (HS3.out.below hb3))
  (try replace HS4 := Lib.hid (HS4.out.below hb3))
  (try replace HP21 := Lib.hid (HP21.out.below hb3))
  (try replace HP22 := Lib.hid (HP22.out.below hb3))
  (try replace HP24 := Lib.hid (HP24.out.below hb3))
  (try replace HP25 := Lib.hid (HP25.out.below hb3))
  (try replace HP26 := Lib.hid (HP26.out.below hb3))
  have HP23 := Lib.hid hp23
  clear hp23
  clear hb3
  refine rdy 10 (fun KK hKK => ?_)
  go_simp
  refine (HP23.out.2 _ (Below.refl _ _)).mono ?_
  rintro e wk ⟨o24, s24, g24, A24, n24, c24, B24, m24, d24, N24, p24, s74, g74, A74, n74, c74, B74, m74, d74, N74, p74, rfl, hp24, hb4⟩
  go_wp2_with fail
  refine hKK.out _ _ (hHeld.keep hb4) (fun _ => ?_)
  clear hKK KK hHeld
  rename_i hHeld
  try simp only [Act.put, lay]
  (try replace HS1 := Lib.hid (HS1.out.below hb4))
  (try replace HS2 := Lib.hid (HS2.out.below hb4))
  (try replace HS3 := Lib.hid (HS3.out.below hb4))
  (try replace HS4 := Lib.hid (HS4.out.below hb4))
  (try replace HP21 := Lib.hid (HP21.out.below hb4))
  (try replace HP22 := Lib.hid (HP22.out.below hb4))
  (try replace HP23 := Lib.hid (HP23.out.below hb4))
  (try replace HP25 := Lib.hid (HP25.out.below hb4))
  (try replace HP26 := Lib.hid (HP26.out.below hb4))
  have HP24 := Lib.hid hp24
  clear hp24
  clear hb4
  refine rdy 13 (fun KK hKK => ?_)
  go_simp
  refine (HD4.out _ _ _ HS1.out HS4.out).mono ?_
  rintro e wk ⟨o25, s25, g25, A25, n25, c25, B25, m25, d25, N25, p25, s75, g75, A75, n75, c75, B75, m75, d75, N75, p75, rfl, hp25, hb5⟩
  go_wp2_with fail
  refine hKK.out _ _ (hHeld.keep hb5) (fun _ => ?_)
  clear hKK KK hHeld
  rename_i hHeld
  try simp only [Act.put, lay]
  (try replace HS1 := Lib.hid (HS1.out.below hb5))
  (try replace HS2 := Lib.hid (HS2.out.below hb5))
  (try replace HS3 := Lib.hid (HS3.out.below hb5))
  (try replace HS4 := Lib.hid (HS4.out.below hb5))
  (try replace HP21 := Lib.hid (HP21.out.below hb5))
  (try replace HP22 := Lib.hid (HP22.out.below hb5))
  (try replace HP23 := Lib.hid (HP23.out.below hb5))
  (try replace HP24 := Lib.hid (HP24.out.below hb5))
  (try replace HP26 := Lib.hid (HP26.out.below hb5))
  have HP25 := Lib.hid hp25
  clear hp25
  clear hb5
  refine rdy 14 (fun KK hKK => ?_)
  go_simp
  refine (HP25.out.2 _ (Below.refl _ _)).mono ?_
  rintro e wk ⟨o26, s26, g26, A26, n26, c26, B26, m26, d26, N26, p26, s76, g76, A76, n76, c76, B76, m76, d76, N76, p76, rfl, hp26, hb6⟩
  go_wp2_with fail
  refine hKK.out _ _ (hHeld.keep hb6) (fun _ => ?_)
  clear hKK KK hHeld
  rename_i hHeld
  try simp only [Act.put, lay]
  (try replace HS1 := Lib.hid (HS1.out.below hb6))
  (try replace HS2 := Lib.hid (HS2.out.below hb6))
  (try replace HS3 := Lib.hid (HS3.out.below hb6))
  (try replace HS4 := Lib.hid (HS4.out.below hb6))
  (try replace HP21 := Lib.hid (HP21.out.below hb6))
  (try replace HP22 := Lib.hid (HP22.out.below hb6))
  (try replace HP23 := Lib.hid (HP23.out.below hb6))
  (try replace HP24 := Lib.hid (HP24.out.below hb6))
  (try replace HP25 := Lib.hid (HP25.out.below hb6))
  have HP26 := Lib.hid hp26
  clear hp26
  clear hb6
  refine rdy 15 (fun KK hKK => ?_)
  go_simp
  have hl_js := hHeld.lts
  refine hKK.out _ _ (hHeld.alloc _) (fun _ => ?_)
  clear hKK KK hHeld
  rename_i hHeld
  try simp only [Act.put, lay]
  generalize hwn : World.alloc wk _ = wn at hHeld ⊢
  have B_js := Blk.newE hwn
  (try replace HS1 := Lib.hid (HS1.out.below (below_allocE hwn)))
  (try replace HS2 := Lib.hid (HS2.out.below (below_allocE hwn)))
  (try replace HS3 := Lib.hid (HS3.out.below (below_allocE hwn)))
  (try replace HS4 := Lib.hid (HS4.out.below (below_allocE hwn)))
  (try replace HP21 := Lib.hid (HP21.out.below (below_allocE hwn)))
  (try replace HP22 := Lib.hid (HP22.out.below (below_allocE hwn)))
  (try replace HP23 := Lib.hid (HP23.out.below (below_allocE hwn)))
  (try replace HP24 := Lib.hid (HP24.out.below (below_allocE hwn)))
  (try replace HP25 := Lib.hid (HP25.out.below (below_allocE hwn)))
  (try replace HP26 := Lib.hid (HP26.out.below (below_allocE hwn)))
  simp only [List.mem_cons, List.not_mem_nil, or_false, forall_eq_or_imp, forall_eq, false_imp_iff, implies_true, and_true] at hl_js
  clear hwn
  generalize wk.heap.size = js at B_js hl_js ⊢
  obtain ⟨wk, rfl⟩ : ∃ X, X = wn := ⟨_, rfl⟩
  refine rdy 16 (fun KK hKK => ?_)
  go_simp
  refine (HA.out _ _ _ (Nat.le_refl _) (fun h => absurd h (by omega)) (fun k hk => ⟨_, rfl, by match k, hk with | 0, _ => exact HL0.out ▸ PcG.at B_js 0 (HP21.out.1) ⟨rfl, rfl, rfl, rfl, rfl, rfl, rfl, rfl, rfl, rfl, rfl, rfl, rfl⟩ | 1, _ => exact HL1.out ▸ PcG.at B_js 1 (HP22.out.1) ⟨rfl, rfl, rfl, rfl, rfl, rfl, rfl, rfl, rfl, rfl, rfl, rfl, rfl⟩ | 2, _ => exact HL2.out ▸ PcG.at B_js 2 (HP24.out) ⟨rfl, rfl, rfl, rfl, rfl, rfl, rfl, rfl, rfl, rfl, rfl, rfl, rfl⟩ | 3, _ => exact HL3.out ▸ PcG.at B_js 3 (HP26.out) ⟨rfl, rfl, rfl, rfl, rfl, rfl, rfl, rfl, rfl, rfl, rfl, rfl, rfl⟩⟩)).mono ?_
  rintro e wk ⟨rfl, hb7⟩
  go_wp2_with fail
  refine hKK.out _ _ (hHeld.keep hb7) (fun _ => ?_)
  clear hKK KK hHeld
  rename_i hHeld
  try simp only [Act.put, lay]
  (try replace HS1 := Lib.hid (HS1.out.below hb7))
  (try replace HS2 := Lib.hid (HS2.out.below hb7))
  (try replace HS3 := Lib.hid (HS3.out.below hb7))
  (try replace HS4 := Lib.hid (HS4.out.below hb7))
  (try replace HP21 := Lib.hid (HP21.out.below hb7))
  (try replace HP22 := Lib.hid (HP22.out.below hb7))
  (try replace HP23 := Lib.hid (HP23.out.below hb7))
  (try replace HP24 := Lib.hid (HP24.out.below hb7))
  (try replace HP25 := Lib.hid (HP25.out.below hb7))
  (try replace HP26 := Lib.hid (HP26.out.below hb7))
  clear hb7
  refine rdy 17 (fun KK hKK => ?_)
  obtain ⟨ha0, hf0, ha1, hf1⟩ := (hHeld.has 0 rfl).sf2
  obtain ⟨csx, hbx, -, hcx⟩ := hHeld.has 0 rfl
  (try clear HS1)
  (try clear HS2)
  (try clear HS3)
  (try clear HS4)
  (try clear HP21)
  (try clear HP22)
  (try clear HP23)
  (try clear HP24)
  (try clear HP25)
  (try clear HP26)
  clear hbx hcx
  go_simp
  have HS_0 := (hHeld.has 0 rfl).laid [.int .u64 (r1 : Int), .int .u64 (r2 : Int)] rfl
  refine hKK.out _ _ (hHeld.over 0 rfl [.int .u64 (r1 : Int), .int .u64 (r2 : Int)] rfl rfl (by first | omega | exact hHeld.le_of 0 rfl) (by simp <;> omega) (by simp <;> omega)) (fun _ => ?_)
  clear hKK KK hHeld
  rename_i hHeld
  try simp only [Act.put, lay]
  refine wpAnyH_done (by kernel_rfl) ?_ _
  have LB := Lib.hid hHeld.b
  clear hHeld
  obtain ⟨hk6_0, hk6_1⟩ := HS_0.c2
  clear HS_0
  simp [sets] at hk6_0 hk6_1
  go_wp2
  refine bodyPost_ret (v := .agg #[.int .u64 (r1 : Int), .int .u64 (r2 : Int)]) (by simp [results, Tryz.results43, go_sem, hk6_0, hk6_1]) rfl ?_
  exact ⟨rfl, LB.out⟩
end Go.Proofs.YtmjkmoahkanblaaGreat
