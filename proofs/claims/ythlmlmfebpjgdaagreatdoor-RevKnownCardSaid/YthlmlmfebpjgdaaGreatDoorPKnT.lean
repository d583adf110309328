/-
Walk: RevKnown.
-/
import Derived.Test.YthlmlmfebpjgdaaGreatDoorPBothT
import Derived.Deep.DeepCutAuto
set_option linter.unusedSimpArgs false
set_option linter.unusedVariables false
set_option maxHeartbeats 12800000

namespace Go.Proofs.YthlmlmfebpjgdaaGreatDoor
open Go.RowKit
attribute [local go_sem] run_store_float run_negf run_eqf
set_option maxRecDepth 16000 in
theorem known_law (w : World) (hA : ∀ W, Calls Tryz.prog 21 #[] W fun e w' => e = .returned (.bool true) ∧ Below W.heap.size W w') (hO : ∀ (a b : Nat) W, Calls Tryz.prog 20 #[.float .f64 a, .float .f64 b] W fun e w' => e = .returned (.agg #[.float .f64 a, .float .f64 b]) ∧ Below W.heap.size W w')
    (hK0 : ∀ W, Calls Tryz.prog 22 #[.agg #[.float .f64 1, .float .f64 1], .agg #[.float .f64 4607182418800017408, .float .f64 4607182418800017408], .agg #[.float .f64 4607182418800017408, .float .f64 4611686018427387904]] W fun e w' => e = .returned (.agg #[.float .f64 9218868437227405312, .float .f64 18442240474082181120]) ∧ Below W.heap.size W w') (hK1 : ∀ W, Calls Tryz.prog 22 #[.agg #[.float .f64 1, .float .f64 1], .agg #[.float .f64 4607182418800017408, .float .f64 4607182418800017408], .agg #[.float .f64 0, .float .f64 4607182418800017408]] W fun e w' => e = .returned (.agg #[.float .f64 4607182418800017407, .float .f64 4607182418800017408]) ∧ Below W.heap.size W w') (hK2 : ∀ W, Calls Tryz.prog 23 #[.agg #[.float .f64 4607182418800017408, .float .f64 4611686018427387904], .agg #[.float .f64 4617315517961601024, .float .f64 4617315517961601024], .agg #[.float .f64 18442240474082181120, .float .f64 9218868437227405312]] W fun e w' => e = .returned (.agg #[.float .f64 4618441417868443648, .float .f64 4619567317775286272]) ∧ Below W.heap.size W w') (hK3 : ∀ W, Calls Tryz.prog 24 #[.agg #[.float .f64 4617315517961601024, .float .f64 4617315517961601024], .agg #[.float .f64 4607182418800017408, .float .f64 4611686018427387904], .agg #[.float .f64 18442240474082181120, .float .f64 9218868437227405312]] W fun e w' => e = .returned (.agg #[.float .f64 4613937818241073152, .float .f64 4616189618054758400]) ∧ Below W.heap.size W w') (hK4 : ∀ W, Calls Tryz.prog 25 #[.agg #[.float .f64 0, .float .f64 4607182418800017408], .agg #[.float .f64 0, .float .f64 4611686018427387904], .agg #[.float .f64 4619567317775286272, .float .f64 4620693217682128896]] W fun e w' => e = .returned (.agg #[.float .f64 4619567317775286272, .float .f64 4620693217682128896]) ∧ Below W.heap.size W w') (hK5 : ∀ W, Calls Tryz.prog 25 #[.agg #[.float .f64 13830554455654793216, .float .f64 4611686018427387904], .agg #[.float .f64 4607182418800017408, .float .f64 4607182418800017408], .agg #[.float .f64 18442240474082181120, .float .f64 9218868437227405312]] W fun e w' => e = .returned (.agg #[.float .f64 18442240474082181120, .float .f64 9218868437227405312]) ∧ Below W.heap.size W w') (hK6 : ∀ W, Calls Tryz.prog 25 #[.agg #[.float .f64 13830554455654793216, .float .f64 4611686018427387904], .agg #[.float .f64 4607182418800017408, .float .f64 4607182418800017408], .agg #[.float .f64 13826050856027422720, .float .f64 4617315517961601024]] W fun e w' => e = .returned (.agg #[.float .f64 4602678819172646912, .float .f64 4617315517961601024]) ∧ Below W.heap.size W w') (hK7 : ∀ W, Calls Tryz.prog 25 #[.agg #[.float .f64 4607182418800017408, .float .f64 9218868437227405312], .agg #[.float .f64 4607182418800017408, .float .f64 4607182418800017408], .agg #[.float .f64 13840687554816376832, .float .f64 0]] W fun e w' => e = .returned (.agg #[.float .f64 9218868437227405312, .float .f64 18442240474082181120]) ∧ Below W.heap.size W w') (hK8 : ∀ W, Calls Tryz.prog 25 #[.agg #[.float .f64 4607182418800017408, .float .f64 9218868437227405312], .agg #[.float .f64 4607182418800017408, .float .f64 4607182418800017408], .agg #[.float .f64 0, .float .f64 4617315517961601024]] W fun e w' => e = .returned (.agg #[.float .f64 0, .float .f64 4607182418800017408]) ∧ Below W.heap.size W w') (hK9 : ∀ W, Calls Tryz.prog 25 #[.agg #[.float .f64 0, .float .f64 0], .agg #[.float .f64 4607182418800017408, .float .f64 4611686018427387904], .agg #[.float .f64 18442240474082181120, .float .f64 9218868437227405312]] W fun e w' => e = .returned (.agg #[.float .f64 9218868437227405312, .float .f64 18442240474082181120]) ∧ Below W.heap.size W w') (hK10 : ∀ W, Calls Tryz.prog 25 #[.agg #[.float .f64 0, .float .f64 0], .agg #[.float .f64 0, .float .f64 4611686018427387904], .agg #[.float .f64 18442240474082181120, .float .f64 9218868437227405312]] W fun e w' => e = .returned (.agg #[.float .f64 18442240474082181120, .float .f64 9218868437227405312]) ∧ Below W.heap.size W w') (hK11 : ∀ W, Calls Tryz.prog 25 #[.agg #[.float .f64 4613937818241073152, .float .f64 4613937818241073152], .agg #[.float .f64 4607182418800017408, .float .f64 4607182418800017408], .agg #[.float .f64 0, .float .f64 4607182418800017408]] W fun e w' => e = .returned (.agg #[.float .f64 4599676419421066581, .float .f64 4599676419421066582]) ∧ Below W.heap.size W w') (hK12 : ∀ W, Calls Tryz.prog 26 #[.agg #[.float .f64 0, .float .f64 4607182418800017408], .agg #[.float .f64 4607182418800017408, .float .f64 4611686018427387904], .agg #[.float .f64 13837309855095848960, .float .f64 0]] W fun e w' => e = .returned (.agg #[.float .f64 9218868437227405312, .float .f64 18442240474082181120]) ∧ Below W.heap.size W w') (hK13 : ∀ W, Calls Tryz.prog 26 #[.agg #[.float .f64 0, .float .f64 4607182418800017408], .agg #[.float .f64 4607182418800017408, .float .f64 4611686018427387904], .agg #[.float .f64 13837309855095848960, .float .f64 4607182418800017408]] W fun e w' => e = .returned (.agg #[.float .f64 0, .float .f64 4607182418800017408]) ∧ Below W.heap.size W w') (hK14 : ∀ W, Calls Tryz.prog 26 #[.agg #[.float .f64 0, .float .f64 0], .agg #[.float .f64 18442240474082181120, .float .f64 9218868437227405312], .agg #[.float .f64 18442240474082181120, .float .f64 9218868437227405312]] W fun e w' => e = .returned (.agg #[.float .f64 9218868437227405312, .float .f64 18442240474082181120]) ∧ Below W.heap.size W w') (hK15 : ∀ W, Calls Tryz.prog 27 #[.agg #[.float .f64 0, .float .f64 4607182418800017408], .agg #[.float .f64 0, .float .f64 0], .agg #[.float .f64 0, .float .f64 0]] W fun e w' => e = .returned (.agg #[.float .f64 9218868437227405312, .float .f64 18442240474082181120]) ∧ Below W.heap.size W w') (hK16 : ∀ W, Calls Tryz.prog 27 #[.agg #[.float .f64 0, .float .f64 4607182418800017408], .agg #[.float .f64 0, .float .f64 0], .agg #[.float .f64 0, .float .f64 4617315517961601024]] W fun e w' => e = .returned (.agg #[.float .f64 0, .float .f64 4617315517961601024]) ∧ Below W.heap.size W w') (hK17 : ∀ W, Calls Tryz.prog 27 #[.agg #[.float .f64 4607182418800017408, .float .f64 4607182418800017408], .agg #[.float .f64 4611686018427387904, .float .f64 9218868437227405312], .agg #[.float .f64 18442240474082181120, .float .f64 9218868437227405312]] W fun e w' => e = .returned (.agg #[.float .f64 0, .float .f64 4602678819172646912]) ∧ Below W.heap.size W w') (hK18 : ∀ W, Calls Tryz.prog 27 #[.agg #[.float .f64 4607182418800017408, .float .f64 4607182418800017408], .agg #[.float .f64 4611686018427387904, .float .f64 9218868437227405312], .agg #[.float .f64 13830554455654793216, .float .f64 0]] W fun e w' => e = .returned (.agg #[.float .f64 9218868437227405312, .float .f64 18442240474082181120]) ∧ Below W.heap.size W w') (hK19 : ∀ W, Calls Tryz.prog 28 #[.agg #[.float .f64 18442240474082181120, .float .f64 13835058055282163712], .agg #[.float .f64 0, .float .f64 4607182418800017408]] W fun e w' => e = .returned (.agg #[.float .f64 9218868437227405312, .float .f64 18442240474082181120]) ∧ Below W.heap.size W w') (hK20 : ∀ W, Calls Tryz.prog 29 #[.agg #[.float .f64 4607182418800017408, .float .f64 4611686018427387904], .agg #[.float .f64 4611686018427387904, .float .f64 4613937818241073152], .agg #[.float .f64 13844628204490326016, .float .f64 4621256167635550208]] W fun e w' => e = .returned (.agg #[.float .f64 4611686018427387904, .float .f64 4621256167635550208]) ∧ Below W.heap.size W w') (hK21 : ∀ W, Calls Tryz.prog 29 #[.agg #[.float .f64 4617315517961601024, .float .f64 4618441417868443648], .agg #[.float .f64 4611686018427387904, .float .f64 4613937818241073152], .agg #[.float .f64 13844628204490326016, .float .f64 4621256167635550208]] W fun e w' => e = .returned (.agg #[.float .f64 4611686018427387904, .float .f64 4613937818241073152]) ∧ Below W.heap.size W w') (hK22 : ∀ W, Calls Tryz.prog 29 #[.agg #[.float .f64 4607182418800017408, .float .f64 4611686018427387904], .agg #[.float .f64 4613937818241073152, .float .f64 4616189618054758400], .agg #[.float .f64 18442240474082181120, .float .f64 9218868437227405312]] W fun e w' => e = .returned (.agg #[.float .f64 9218868437227405312, .float .f64 18442240474082181120]) ∧ Below W.heap.size W w') (hK23 : ∀ W, Calls Tryz.prog 30 #[.agg #[.float .f64 4607182418800017408, .float .f64 4611686018427387904], .agg #[.float .f64 0, .float .f64 4607182418800017408], .agg #[.float .f64 13844628204490326016, .float .f64 4621256167635550208]] W fun e w' => e = .returned (.agg #[.float .f64 13844628204490326016, .float .f64 4607182418800017408]) ∧ Below W.heap.size W w') (hK24 : ∀ W, Calls Tryz.prog 30 #[.agg #[.float .f64 4607182418800017408, .float .f64 4611686018427387904], .agg #[.float .f64 4613937818241073152, .float .f64 4616189618054758400], .agg #[.float .f64 13844628204490326016, .float .f64 4621256167635550208]] W fun e w' => e = .returned (.agg #[.float .f64 4613937818241073152, .float .f64 4616189618054758400]) ∧ Below W.heap.size W w') (hK25 : ∀ W, Calls Tryz.prog 31 #[.agg #[.float .f64 4611686018427387904, .float .f64 4611686018427387904], .agg #[.float .f64 4607182418800017408, .float .f64 4607182418800017408], .agg #[.float .f64 4617315517961601024, .float .f64 4619567317775286272], .agg #[.float .f64 18442240474082181120, .float .f64 9218868437227405312]] W fun e w' => e = .returned (.agg #[.float .f64 4611686018427387904, .float .f64 4613937818241073152]) ∧ Below W.heap.size W w') (hK26 : ∀ W, Calls Tryz.prog 32 #[.agg #[.float .f64 4611686018427387904, .float .f64 4611686018427387904], .agg #[.float .f64 4613937818241073152, .float .f64 4613937818241073152], .agg #[.float .f64 4617315517961601024, .float .f64 4619567317775286272], .agg #[.float .f64 18442240474082181120, .float .f64 9218868437227405312]] W fun e w' => e = .returned (.agg #[.float .f64 13830554455654793216, .float .f64 4607182418800017408]) ∧ Below W.heap.size W w') :
    Calls Tryz.prog 4 #[] w fun e w' => e = .returned (.bool true) ∧ Below w.heap.size w w' := by
  have HA := Lib.hid hA
  have HO := Lib.hid hO
  have HI := Lib.hid fun W => inf_pos W
  clear hA hO
  have hng : Op.negFloat .f64 9218868437227405312 = 18442240474082181120 := by kernel_rfl
  have K0 := Lib.hid hK0
  have K1 := Lib.hid hK1
  have K2 := Lib.hid hK2
  have K3 := Lib.hid hK3
  have K4 := Lib.hid hK4
  have K5 := Lib.hid hK5
  have K6 := Lib.hid hK6
  have K7 := Lib.hid hK7
  have K8 := Lib.hid hK8
  have K9 := Lib.hid hK9
  have K10 := Lib.hid hK10
  have K11 := Lib.hid hK11
  have K12 := Lib.hid hK12
  have K13 := Lib.hid hK13
  have K14 := Lib.hid hK14
  have K15 := Lib.hid hK15
  have K16 := Lib.hid hK16
  have K17 := Lib.hid hK17
  have K18 := Lib.hid hK18
  have K19 := Lib.hid hK19
  have K20 := Lib.hid hK20
  have K21 := Lib.hid hK21
  have K22 := Lib.hid hK22
  have K23 := Lib.hid hK23
  have K24 := Lib.hid hK24
  have K25 := Lib.hid hK25
  have K26 := Lib.hid hK26
  clear hK0 hK1 hK2 hK3 hK4 hK5 hK6 hK7 hK8 hK9 hK10 hK11 hK12 hK13 hK14 hK15 hK16 hK17 hK18 hK19 hK20 hK21 hK22 hK23 hK24 hK25 hK26
  have o0 : FloatKind.f64.format.order 0 0 = some .eq := by kernel_rfl
  have o4599676419421066581 : FloatKind.f64.format.order 4599676419421066581 4599676419421066581 = some .eq := by kernel_rfl
  have o4599676419421066582 : FloatKind.f64.format.order 4599676419421066582 4599676419421066582 = some .eq := by kernel_rfl
  have o4602678819172646912 : FloatKind.f64.format.order 4602678819172646912 4602678819172646912 = some .eq := by kernel_rfl
  have o4607182418800017407 : FloatKind.f64.format.order 4607182418800017407 4607182418800017407 = some .eq := by kernel_rfl
  have o4607182418800017408 : FloatKind.f64.format.order 4607182418800017408 4607182418800017408 = some .eq := by kernel_rfl
  have o4611686018427387904 : FloatKind.f64.format.order 4611686018427387904 4611686018427387904 = some .eq := by kernel_rfl
  have o4613937818241073152 : FloatKind.f64.format.order 4613937818241073152 4613937818241073152 = some .eq := by kernel_rfl
  have o4616189618054758400 : FloatKind.f64.format.order 4616189618054758400 4616189618054758400 = some .eq := by kernel_rfl
  have o4617315517961601024 : FloatKind.f64.format.order 4617315517961601024 4617315517961601024 = some .eq := by kernel_rfl
  have o4618441417868443648 : FloatKind.f64.format.order 4618441417868443648 4618441417868443648 = some .eq := by kernel_rfl
  have o4619567317775286272 : FloatKind.f64.format.order 4619567317775286272 4619567317775286272 = some .eq := by kernel_rfl
  have o4620693217682128896 : FloatKind.f64.format.order 4620693217682128896 4620693217682128896 = some .eq := by kernel_rfl
  have o4621256167635550208 : FloatKind.f64.format.order 4621256167635550208 4621256167635550208 = some .eq := by kernel_rfl
  have o9218868437227405312 : FloatKind.f64.format.order 9218868437227405312 9218868437227405312 = some .eq := by kernel_rfl
  have o13830554455654793216 : FloatKind.f64.format.order 13830554455654793216 13830554455654793216 = some .eq := by kernel_rfl
  have o13844628204490326016 : FloatKind.f64.format.order 13844628204490326016 13844628204490326016 = some .eq := by kernel_rfl
  have o18442240474082181120 : FloatKind.f64.format.order 18442240474082181120 18442240474082181120 = some .eq := by kernel_rfl
  have LL := Lib.hid (show Lies w w [] [] from ⟨Below.refl _ _, by simp, by simp⟩)
  go_enter Tryz.func4, Tryz.ntmps4
  go_wp2_with fail
  refine (HI.out _).mono ?_
  rintro e wk ⟨rfl, rfl⟩
  clear HI
  go_wp2_with fail
  refine (HO.out _ _ _).mono ?_
  rintro e wk ⟨rfl, hb⟩
  replace LL := stL LL hb
  clear hb
  go_upto_region 3 with fail
  have hl_j2 := LL.out.lts
  generalize hwn : World.alloc wk _ = wn
  replace LL := Lib.hid (LL.out.newE hwn)
  simp only [List.cons_append, List.nil_append] at LL
  simp only [List.mem_cons, List.not_mem_nil, or_false, forall_eq_or_imp, forall_eq, false_imp_iff, implies_true, and_true] at hl_j2
  clear hwn
  generalize wk.heap.size = j2 at LL hl_j2 ⊢
  go_wp2_with fail
  refine (HO.out _ _ _).mono ?_
  rintro e wk ⟨rfl, hb⟩
  replace LL := stL LL hb
  clear hb
  go_upto_region 4 with fail
  have hl_j3 := LL.out.lts
  generalize hwn : World.alloc wk _ = wn
  replace LL := Lib.hid (LL.out.newE hwn)
  simp only [List.cons_append, List.nil_append] at LL
  simp only [List.mem_cons, List.not_mem_nil, or_false, forall_eq_or_imp, forall_eq, false_imp_iff, implies_true, and_true] at hl_j3
  clear hwn
  generalize wk.heap.size = j3 at LL hl_j3 ⊢
  go_upto_region 5 with fail
  refine regL LL (fun hHeld => ?_)
  clear LL
  generalize World.drew _ = wk at hHeld  ⊢
  refine rdy 0 (fun KK hKK => ?_)
  go_simp
  refine (HA.out _).mono ?_
  rintro e wk ⟨rfl, hb0⟩
  go_wp2_with fail
  refine hKK.out _ _ (hHeld.keep hb0) (fun _ => ?_)
  clear hKK KK hHeld
  rename_i hHeld
  try simp only [Act.put, lay]
  clear hb0
  refine tk 1 ?_
  try simp only [Act.put, lay]
  refine tk 2 ?_
  try simp only [Act.put, lay]
  refine tk 3 ?_
  try simp only [Act.put, lay]
  refine tk 4 ?_
  try simp only [Act.put, lay]
  refine tk 9 ?_ (hv := by intro W2 hSw; obtain ⟨q0, q1⟩ := (hSw.blk 0 rfl).c2; go_simp; (try with_reducible rfl))
  try simp only [Act.put, lay]
  refine rdy 5 (fun KK hKK => ?_)
  go_simp
  refine (HO.out _ _ _).mono ?_
  rintro e wk ⟨rfl, hb1⟩
  go_wp2_with fail
  refine hKK.out _ _ (hHeld.keep hb1) (fun _ => ?_)
  clear hKK KK hHeld
  rename_i hHeld
  try simp only [Act.put, lay]
  clear hb1
  refine rdy 6 (fun KK hKK => ?_)
  go_simp
  refine (HO.out _ _ _).mono ?_
  rintro e wk ⟨rfl, hb2⟩
  go_wp2_with fail
  refine hKK.out _ _ (hHeld.keep hb2) (fun _ => ?_)
  clear hKK KK hHeld
  rename_i hHeld
  try simp only [Act.put, lay]
  clear hb2
  refine rdy 7 (fun KK hKK => ?_)
  go_simp
  refine (HO.out _ _ _).mono ?_
  rintro e wk ⟨rfl, hb3⟩
  go_wp2_with fail
  refine hKK.out _ _ (hHeld.keep hb3) (fun _ => ?_)
  clear hKK KK hHeld
  rename_i hHeld
  try simp only [Act.put, lay]
  clear hb3
  refine rdy 8 (fun KK hKK => ?_)
  go_simp
  refine (K0.out _).mono ?_
  rintro e wk ⟨rfl, hb4⟩
  go_wp2_with fail
  refine hKK.out _ _ (hHeld.keep hb4) (fun _ => ?_)
  clear hKK KK hHeld
  rename_i hHeld
  try simp only [Act.put, lay]
  clear hb4
  refine tk 10 ?_
  try simp only [Act.put, lay]
  refine tk 11 ?_
  try simp only [Act.put, lay]
  refine tk 12 ?_
  try simp only [Act.put, lay]
  refine tk 13 ?_
  try simp only [Act.put, lay]
  refine tk 14 ?_
  try simp only [Act.put, lay]
  refine rdy 15 (fun KK hKK => ?_)
  go_simp
  refine (HO.out _ _ _).mono ?_
  rintro e wk ⟨rfl, hb5⟩
  go_wp2_with fail
  refine hKK.out _ _ (hHeld.keep hb5) (fun _ => ?_)
  clear hKK KK hHeld
  rename_i hHeld
  try simp only [Act.put, lay]
  clear hb5
  refine rdy 16 (fun KK hKK => ?_)
  go_simp
  refine (HO.out _ _ _).mono ?_
  rintro e wk ⟨rfl, hb6⟩
  go_wp2_with fail
  refine hKK.out _ _ (hHeld.keep hb6) (fun _ => ?_)
  clear hKK KK hHeld
  rename_i hHeld
  try simp only [Act.put, lay]
  clear hb6
  refine rdy 17 (fun KK hKK => ?_)
  go_simp
  refine (HO.out _ _ _).mono ?_
  rintro e wk ⟨rfl, hb7⟩
  go_wp2_with fail
  refine hKK.out _ _ (hHeld.keep hb7) (fun _ => ?_)
  clear hKK KK hHeld
  rename_i hHeld
  try simp only [Act.put, lay]
  clear hb7
  refine rdy 18 (fun KK hKK => ?_)
  go_simp
  refine (K1.out _).mono ?_
  rintro e wk ⟨rfl, hb8⟩
  go_wp2_with fail
  refine hKK.out _ _ (hHeld.keep hb8) (fun _ => ?_)
  clear hKK KK hHeld
  rename_i hHeld
  try simp only [Act.put, lay]
  clear hb8
  refine rdy 19 (fun KK hKK => ?_)
  go_simp
  refine (HO.out _ _ _).mono ?_
  rintro e wk ⟨rfl, hb9⟩
  go_wp2_with fail
  refine hKK.out _ _ (hHeld.keep hb9) (fun _ => ?_)
  clear hKK KK hHeld
  rename_i hHeld
  try simp only [Act.put, lay]
  clear hb9
  refine tk 20 ?_
  try simp only [Act.put, lay]
  refine tk 21 ?_
  try simp only [Act.put, lay]
  refine tk 22 ?_
  try simp only [Act.put, lay]
  refine tk 25 ?_ (hv := by intro W2 hSw; obtain ⟨q0, q1⟩ := (hSw.blk 1 rfl).c2; go_simp; (try with_reducible rfl))
  try simp only [Act.put, lay]
  refine rdy 23 (fun KK hKK => ?_)
  go_simp
  refine (HO.out _ _ _).mono ?_
  rintro e wk ⟨rfl, hb10⟩
  go_wp2_with fail
  refine hKK.out _ _ (hHeld.keep hb10) (fun _ => ?_)
  clear hKK KK hHeld
  rename_i hHeld
  try simp only [Act.put, lay]
  clear hb10
  refine rdy 24 (fun KK hKK => ?_)
  go_simp
  refine (HO.out _ _ _).mono ?_
  rintro e wk ⟨rfl, hb11⟩
  go_wp2_with fail
  refine hKK.out _ _ (hHeld.keep hb11) (fun _ => ?_)
  clear hKK KK hHeld
  rename_i hHeld
  try simp only [Act.put, lay]
  clear hb11
  refine rdy 26 (fun KK hKK => ?_)
  go_simp
  refine (K2.out _).mono ?_
  rintro e wk ⟨rfl, hb12⟩
  go_wp2_with fail
  refine hKK.out _ _ (hHeld.keep hb12) (fun _ => ?_)
  clear hKK KK hHeld
  rename_i hHeld
  try simp only [Act.put, lay]
  clear hb12
  refine rdy 27 (fun KK hKK => ?_)
  go_simp
  refine (HO.out _ _ _).mono ?_
  rintro e wk ⟨rfl, hb13⟩
  go_wp2_with fail
  refine hKK.out _ _ (hHeld.keep hb13) (fun _ => ?_)
  clear hKK KK hHeld
  rename_i hHeld
  try simp only [Act.put, lay]
  clear hb13
  refine tk 28 ?_
  try simp only [Act.put, lay]
  refine tk 29 ?_
  try simp only [Act.put, lay]
  refine tk 30 ?_
  try simp only [Act.put, lay]
  refine tk 33 ?_ (hv := by intro W2 hSw; obtain ⟨q0, q1⟩ := (hSw.blk 1 rfl).c2; go_simp; (try with_reducible rfl))
  try simp only [Act.put, lay]
  refine rdy 31 (fun KK hKK => ?_)
  go_simp
  refine (HO.out _ _ _).mono ?_
  rintro e wk ⟨rfl, hb14⟩
  go_wp2_with fail
  refine hKK.out _ _ (hHeld.keep hb14) (fun _ => ?_)
  clear hKK KK hHeld
  rename_i hHeld
  try simp only [Act.put, lay]
  clear hb14
  refine rdy 32 (fun KK hKK => ?_)
  go_simp
  refine (HO.out _ _ _).mono ?_
  rintro e wk ⟨rfl, hb15⟩
  go_wp2_with fail
  refine hKK.out _ _ (hHeld.keep hb15) (fun _ => ?_)
  clear hKK KK hHeld
  rename_i hHeld
  try simp only [Act.put, lay]
  clear hb15
  refine rdy 34 (fun KK hKK => ?_)
  go_simp
  refine (K3.out _).mono ?_
  rintro e wk ⟨rfl, hb16⟩
  go_wp2_with fail
  refine hKK.out _ _ (hHeld.keep hb16) (fun _ => ?_)
  clear hKK KK hHeld
  rename_i hHeld
  try simp only [Act.put, lay]
  clear hb16
  refine rdy 35 (fun KK hKK => ?_)
  go_simp
  refine (HO.out _ _ _).mono ?_
  rintro e wk ⟨rfl, hb17⟩
  go_wp2_with fail
  refine hKK.out _ _ (hHeld.keep hb17) (fun _ => ?_)
  clear hKK KK hHeld
  rename_i hHeld
  try simp only [Act.put, lay]
  clear hb17
  refine tk 36 ?_
  try simp only [Act.put, lay]
  refine tk 37 ?_
  try simp only [Act.put, lay]
  refine wpAnyH_done (by kernel_rfl) ?_ _
  have LL := Lib.hid hHeld
  clear hHeld
  clear K0 K1 K2 K3
  go_upto_region 7 with fail
  refine regL LL (fun hHeld => ?_)
  clear LL
  generalize World.drew _ = wk at hHeld  ⊢
  refine rdy 0 (fun KK hKK => ?_)
  go_simp
  refine (HO.out _ _ _).mono ?_
  rintro e wk ⟨rfl, hb0⟩
  go_wp2_with fail
  refine hKK.out _ _ (hHeld.keep hb0) (fun _ => ?_)
  clear hKK KK hHeld
  rename_i hHeld
  try simp only [Act.put, lay]
  clear hb0
  refine rdy 1 (fun KK hKK => ?_)
  go_simp
  refine (HO.out _ _ _).mono ?_
  rintro e wk ⟨rfl, hb1⟩
  go_wp2_with fail
  refine hKK.out _ _ (hHeld.keep hb1) (fun _ => ?_)
  clear hKK KK hHeld
  rename_i hHeld
  try simp only [Act.put, lay]
  clear hb1
  refine rdy 2 (fun KK hKK => ?_)
  go_simp
  refine (HO.out _ _ _).mono ?_
  rintro e wk ⟨rfl, hb2⟩
  go_wp2_with fail
  refine hKK.out _ _ (hHeld.keep hb2) (fun _ => ?_)
  clear hKK KK hHeld
  rename_i hHeld
  try simp only [Act.put, lay]
  clear hb2
  refine rdy 3 (fun KK hKK => ?_)
  go_simp
  refine (K4.out _).mono ?_
  rintro e wk ⟨rfl, hb3⟩
  go_wp2_with fail
  refine hKK.out _ _ (hHeld.keep hb3) (fun _ => ?_)
  clear hKK KK hHeld
  rename_i hHeld
  try simp only [Act.put, lay]
  clear hb3
  refine rdy 4 (fun KK hKK => ?_)
  go_simp
  refine (HO.out _ _ _).mono ?_
  rintro e wk ⟨rfl, hb4⟩
  go_wp2_with fail
  refine hKK.out _ _ (hHeld.keep hb4) (fun _ => ?_)
  clear hKK KK hHeld
  rename_i hHeld
  try simp only [Act.put, lay]
  clear hb4
  refine tk 5 ?_
  try simp only [Act.put, lay]
  refine tk 6 ?_
  try simp only [Act.put, lay]
  refine tk 9 ?_ (hv := by intro W2 hSw; obtain ⟨q0, q1⟩ := (hSw.blk 1 rfl).c2; go_simp; (try with_reducible rfl))
  try simp only [Act.put, lay]
  refine tk 11 ?_ (hv := by intro W2 hSw; obtain ⟨q0, q1⟩ := (hSw.blk 1 rfl).c2; go_simp; (try with_reducible rfl))
  try simp only [Act.put, lay]
  refine rdy 7 (fun KK hKK => ?_)
  go_simp
  refine (HO.out _ _ _).mono ?_
  rintro e wk ⟨rfl, hb5⟩
  go_wp2_with fail
  refine hKK.out _ _ (hHeld.keep hb5) (fun _ => ?_)
  clear hKK KK hHeld
  rename_i hHeld
  try simp only [Act.put, lay]
  clear hb5
  refine rdy 8 (fun KK hKK => ?_)
  go_simp
  refine (HO.out _ _ _).mono ?_
  rintro e wk ⟨rfl, hb6⟩
  go_wp2_with fail
  refine hKK.out _ _ (hHeld.keep hb6) (fun _ => ?_)
  clear hKK KK hHeld
  rename_i hHeld
  try simp only [Act.put, lay]
  clear hb6
  refine rdy 10 (fun KK hKK => ?_)
  go_simp
  refine (K5.out _).mono ?_
  rintro e wk ⟨rfl, hb7⟩
  go_wp2_with fail
  refine hKK.out _ _ (hHeld.keep hb7) (fun _ => ?_)
  clear hKK KK hHeld
  rename_i hHeld
  try simp only [Act.put, lay]
  clear hb7
  refine tk 12 ?_
  try simp only [Act.put, lay]
  refine tk 13 ?_
  try simp only [Act.put, lay]
  refine tk 14 ?_
  try simp only [Act.put, lay]
  refine rdy 15 (fun KK hKK => ?_)
  go_simp
  refine (HO.out _ _ _).mono ?_
  rintro e wk ⟨rfl, hb8⟩
  go_wp2_with fail
  refine hKK.out _ _ (hHeld.keep hb8) (fun _ => ?_)
  clear hKK KK hHeld
  rename_i hHeld
  try simp only [Act.put, lay]
  clear hb8
  refine rdy 16 (fun KK hKK => ?_)
  go_simp
  refine (HO.out _ _ _).mono ?_
  rintro e wk ⟨rfl, hb9⟩
  go_wp2_with fail
  refine hKK.out _ _ (hHeld.keep hb9) (fun _ => ?_)
  clear hKK KK hHeld
  rename_i hHeld
  try simp only [Act.put, lay]
  clear hb9
  refine rdy 17 (fun KK hKK => ?_)
  go_simp
  refine (HO.out _ _ _).mono ?_
  rintro e wk ⟨rfl, hb10⟩
  go_wp2_with fail
  refine hKK.out _ _ (hHeld.keep hb10) (fun _ => ?_)
  clear hKK KK hHeld
  rename_i hHeld
  try simp only [Act.put, lay]
  clear hb10
  refine rdy 18 (fun KK hKK => ?_)
  go_simp
  refine (K6.out _).mono ?_
  rintro e wk ⟨rfl, hb11⟩
  go_wp2_with fail
  refine hKK.out _ _ (hHeld.keep hb11) (fun _ => ?_)
  clear hKK KK hHeld
  rename_i hHeld
  try simp only [Act.put, lay]
  clear hb11
  refine rdy 19 (fun KK hKK => ?_)
  go_simp
  refine (HO.out _ _ _).mono ?_
  rintro e wk ⟨rfl, hb12⟩
  go_wp2_with fail
  refine hKK.out _ _ (hHeld.keep hb12) (fun _ => ?_)
  clear hKK KK hHeld
  rename_i hHeld
  try simp only [Act.put, lay]
  clear hb12
  refine tk 20 ?_
  try simp only [Act.put, lay]
  refine tk 21 ?_
  try simp only [Act.put, lay]
  refine wpAnyH_done (by kernel_rfl) ?_ _
  have LL := Lib.hid hHeld
  clear hHeld
  clear K4 K5 K6
  go_upto_region 9 with fail
  refine regL LL (fun hHeld => ?_)
  clear LL
  generalize World.drew _ = wk at hHeld  ⊢
  refine tk 0 ?_
  try simp only [Act.put, lay]
  refine tk 5 ?_ (hv := by intro W2 hSw; obtain ⟨q0, q1⟩ := (hSw.blk 0 rfl).c2; go_simp; (try with_reducible rfl))
  try simp only [Act.put, lay]
  refine rdy 1 (fun KK hKK => ?_)
  go_simp
  refine (HO.out _ _ _).mono ?_
  rintro e wk ⟨rfl, hb0⟩
  go_wp2_with fail
  refine hKK.out _ _ (hHeld.keep hb0) (fun _ => ?_)
  clear hKK KK hHeld
  rename_i hHeld
  try simp only [Act.put, lay]
  clear hb0
  refine rdy 2 (fun KK hKK => ?_)
  go_simp
  refine (HO.out _ _ _).mono ?_
  rintro e wk ⟨rfl, hb1⟩
  go_wp2_with fail
  refine hKK.out _ _ (hHeld.keep hb1) (fun _ => ?_)
  clear hKK KK hHeld
  rename_i hHeld
  try simp only [Act.put, lay]
  clear hb1
  refine rdy 3 (fun KK hKK => ?_)
  go_simp
  refine (HO.out _ _ _).mono ?_
  rintro e wk ⟨rfl, hb2⟩
  go_wp2_with fail
  refine hKK.out _ _ (hHeld.keep hb2) (fun _ => ?_)
  clear hKK KK hHeld
  rename_i hHeld
  try simp only [Act.put, lay]
  clear hb2
  refine rdy 4 (fun KK hKK => ?_)
  go_simp
  refine (K7.out _).mono ?_
  rintro e wk ⟨rfl, hb3⟩
  go_wp2_with fail
  refine hKK.out _ _ (hHeld.keep hb3) (fun _ => ?_)
  clear hKK KK hHeld
  rename_i hHeld
  try simp only [Act.put, lay]
  clear hb3
  refine tk 6 ?_
  try simp only [Act.put, lay]
  refine tk 7 ?_
  try simp only [Act.put, lay]
  refine tk 8 ?_
  try simp only [Act.put, lay]
  refine rdy 9 (fun KK hKK => ?_)
  go_simp
  refine (HO.out _ _ _).mono ?_
  rintro e wk ⟨rfl, hb4⟩
  go_wp2_with fail
  refine hKK.out _ _ (hHeld.keep hb4) (fun _ => ?_)
  clear hKK KK hHeld
  rename_i hHeld
  try simp only [Act.put, lay]
  clear hb4
  refine rdy 10 (fun KK hKK => ?_)
  go_simp
  refine (HO.out _ _ _).mono ?_
  rintro e wk ⟨rfl, hb5⟩
  go_wp2_with fail
  refine hKK.out _ _ (hHeld.keep hb5) (fun _ => ?_)
  clear hKK KK hHeld
  rename_i hHeld
  try simp only [Act.put, lay]
  clear hb5
  refine rdy 11 (fun KK hKK => ?_)
  go_simp
  refine (HO.out _ _ _).mono ?_
  rintro e wk ⟨rfl, hb6⟩
  go_wp2_with fail
  refine hKK.out _ _ (hHeld.keep hb6) (fun _ => ?_)
  clear hKK KK hHeld
  rename_i hHeld
  try simp only [Act.put, lay]
  clear hb6
  refine rdy 12 (fun KK hKK => ?_)
  go_simp
  refine (K8.out _).mono ?_
  rintro e wk ⟨rfl, hb7⟩
  go_wp2_with fail
  refine hKK.out _ _ (hHeld.keep hb7) (fun _ => ?_)
  clear hKK KK hHeld
  rename_i hHeld
  try simp only [Act.put, lay]
  clear hb7
  refine rdy 13 (fun KK hKK => ?_)
  go_simp
  refine (HO.out _ _ _).mono ?_
  rintro e wk ⟨rfl, hb8⟩
  go_wp2_with fail
  refine hKK.out _ _ (hHeld.keep hb8) (fun _ => ?_)
  clear hKK KK hHeld
  rename_i hHeld
  try simp only [Act.put, lay]
  clear hb8
  refine tk 14 ?_
  try simp only [Act.put, lay]
  refine tk 15 ?_
  try simp only [Act.put, lay]
  refine tk 16 ?_
  try simp only [Act.put, lay]
  refine tk 19 ?_ (hv := by intro W2 hSw; obtain ⟨q0, q1⟩ := (hSw.blk 1 rfl).c2; go_simp; (try with_reducible rfl))
  try simp only [Act.put, lay]
  refine tk 21 ?_ (hv := by intro W2 hSw; obtain ⟨q0, q1⟩ := (hSw.blk 0 rfl).c2; go_simp; (try with_reducible rfl))
  try simp only [Act.put, lay]
  refine rdy 17 (fun KK hKK => ?_)
  go_simp
  refine (HO.out _ _ _).mono ?_
  rintro e wk ⟨rfl, hb9⟩
  go_wp2_with fail
  refine hKK.out _ _ (hHeld.keep hb9) (fun _ => ?_)
  clear hKK KK hHeld
  rename_i hHeld
  try simp only [Act.put, lay]
  clear hb9
  refine rdy 18 (fun KK hKK => ?_)
  go_simp
  refine (HO.out _ _ _).mono ?_
  rintro e wk ⟨rfl, hb10⟩
  go_wp2_with fail
  refine hKK.out _ _ (hHeld.keep hb10) (fun _ => ?_)
  clear hKK KK hHeld
  rename_i hHeld
  try simp only [Act.put, lay]
  clear hb10
  refine rdy 20 (fun KK hKK => ?_)
  go_simp
  refine (K9.out _).mono ?_
  rintro e wk ⟨rfl, hb11⟩
  go_wp2_with fail
  refine hKK.out _ _ (hHeld.keep hb11) (fun _ => ?_)
  clear hKK KK hHeld
  rename_i hHeld
  try simp only [Act.put, lay]
  clear hb11
  refine tk 22 ?_
  try simp only [Act.put, lay]
  refine tk 23 ?_
  try simp only [Act.put, lay]
  refine tk 24 ?_
  try simp only [Act.put, lay]
  refine tk 27 ?_ (hv := by intro W2 hSw; obtain ⟨q0, q1⟩ := (hSw.blk 1 rfl).c2; go_simp; (try with_reducible rfl))
  try simp only [Act.put, lay]
  refine tk 29 ?_ (hv := by intro W2 hSw; obtain ⟨q0, q1⟩ := (hSw.blk 1 rfl).c2; go_simp; (try with_reducible rfl))
  try simp only [Act.put, lay]
  refine rdy 25 (fun KK hKK => ?_)
  go_simp
  refine (HO.out _ _ _).mono ?_
  rintro e wk ⟨rfl, hb12⟩
  go_wp2_with fail
  refine hKK.out _ _ (hHeld.keep hb12) (fun _ => ?_)
  clear hKK KK hHeld
  rename_i hHeld
  try simp only [Act.put, lay]
  clear hb12
  refine rdy 26 (fun KK hKK => ?_)
  go_simp
  refine (HO.out _ _ _).mono ?_
  rintro e wk ⟨rfl, hb13⟩
  go_wp2_with fail
  refine hKK.out _ _ (hHeld.keep hb13) (fun _ => ?_)
  clear hKK KK hHeld
  rename_i hHeld
  try simp only [Act.put, lay]
  clear hb13
  refine rdy 28 (fun KK hKK => ?_)
  go_simp
  refine (K10.out _).mono ?_
  rintro e wk ⟨rfl, hb14⟩
  go_wp2_with fail
  refine hKK.out _ _ (hHeld.keep hb14) (fun _ => ?_)
  clear hKK KK hHeld
  rename_i hHeld
  try simp only [Act.put, lay]
  clear hb14
  refine tk 30 ?_
  try simp only [Act.put, lay]
  refine tk 31 ?_
  try simp only [Act.put, lay]
  refine wpAnyH_done (by kernel_rfl) ?_ _
  have LL := Lib.hid hHeld
  clear hHeld
  clear K7 K8 K9 K10
  go_wp2_with fail
  refine (HO.out _ _ _).mono ?_
  rintro e wk ⟨rfl, hb⟩
  replace LL := stL LL hb
  clear hb
  go_wp2_with fail
  refine (HO.out _ _ _).mono ?_
  rintro e wk ⟨rfl, hb⟩
  replace LL := stL LL hb
  clear hb
  go_wp2_with fail
  refine (HO.out _ _ _).mono ?_
  rintro e wk ⟨rfl, hb⟩
  replace LL := stL LL hb
  clear hb
  go_wp2_with fail
  refine (K11.out _).mono ?_
  rintro e wk ⟨rfl, hb⟩
  replace LL := stL LL hb
  clear hb
  go_wp2_with fail
  refine (HO.out _ _ _).mono ?_
  rintro e wk ⟨rfl, hb⟩
  replace LL := stL LL hb
  clear hb
  go_upto_region 13 with fail
  refine regL LL (fun hHeld => ?_)
  clear LL
  generalize World.drew _ = wk at hHeld  ⊢
  refine tk 4 ?_ (hv := by intro W2 hSw; obtain ⟨q0, q1⟩ := (hSw.blk 0 rfl).c2; go_simp; (try with_reducible rfl))
  try simp only [Act.put, lay]
  refine rdy 0 (fun KK hKK => ?_)
  go_simp
  refine (HO.out _ _ _).mono ?_
  rintro e wk ⟨rfl, hb0⟩
  go_wp2_with fail
  refine hKK.out _ _ (hHeld.keep hb0) (fun _ => ?_)
  clear hKK KK hHeld
  rename_i hHeld
  try simp only [Act.put, lay]
  clear hb0
  refine rdy 1 (fun KK hKK => ?_)
  go_simp
  refine (HO.out _ _ _).mono ?_
  rintro e wk ⟨rfl, hb1⟩
  go_wp2_with fail
  refine hKK.out _ _ (hHeld.keep hb1) (fun _ => ?_)
  clear hKK KK hHeld
  rename_i hHeld
  try simp only [Act.put, lay]
  clear hb1
  refine rdy 2 (fun KK hKK => ?_)
  go_simp
  refine (HO.out _ _ _).mono ?_
  rintro e wk ⟨rfl, hb2⟩
  go_wp2_with fail
  refine hKK.out _ _ (hHeld.keep hb2) (fun _ => ?_)
  clear hKK KK hHeld
  rename_i hHeld
  try simp only [Act.put, lay]
  clear hb2
  refine rdy 3 (fun KK hKK => ?_)
  go_simp
  refine (K12.out _).mono ?_
  rintro e wk ⟨rfl, hb3⟩
  go_wp2_with fail
  refine hKK.out _ _ (hHeld.keep hb3) (fun _ => ?_)
  clear hKK KK hHeld
  rename_i hHeld
  try simp only [Act.put, lay]
  clear hb3
  refine tk 5 ?_
  try simp only [Act.put, lay]
  refine tk 6 ?_
  try simp only [Act.put, lay]
  refine rdy 7 (fun KK hKK => ?_)
  go_simp
  refine (HO.out _ _ _).mono ?_
  rintro e wk ⟨rfl, hb4⟩
  go_wp2_with fail
  refine hKK.out _ _ (hHeld.keep hb4) (fun _ => ?_)
  clear hKK KK hHeld
  rename_i hHeld
  try simp only [Act.put, lay]
  clear hb4
  refine rdy 8 (fun KK hKK => ?_)
  go_simp
  refine (HO.out _ _ _).mono ?_
  rintro e wk ⟨rfl, hb5⟩
  go_wp2_with fail
  refine hKK.out _ _ (hHeld.keep hb5) (fun _ => ?_)
  clear hKK KK hHeld
  rename_i hHeld
  try simp only [Act.put, lay]
  clear hb5
  refine rdy 9 (fun KK hKK => ?_)
  go_simp
  refine (HO.out _ _ _).mono ?_
  rintro e wk ⟨rfl, hb6⟩
  go_wp2_with fail
  refine hKK.out _ _ (hHeld.keep hb6) (fun _ => ?_)
  clear hKK KK hHeld
  rename_i hHeld
  try simp only [Act.put, lay]
  clear hb6
  refine rdy 10 (fun KK hKK => ?_)
  go_simp
  refine (K13.out _).mono ?_
  rintro e wk ⟨rfl, hb7⟩
  go_wp2_with fail
  refine hKK.out _ _ (hHeld.keep hb7) (fun _ => ?_)
  clear hKK KK hHeld
  rename_i hHeld
  try simp only [Act.put, lay]
  clear hb7
  refine rdy 11 (fun KK hKK => ?_)
  go_simp
  refine (HO.out _ _ _).mono ?_
  rintro e wk ⟨rfl, hb8⟩
  go_wp2_with fail
  refine hKK.out _ _ (hHeld.keep hb8) (fun _ => ?_)
  clear hKK KK hHeld
  rename_i hHeld
  try simp only [Act.put, lay]
  clear hb8
  refine tk 12 ?_
  try simp only [Act.put, lay]
  refine tk 13 ?_
  try simp only [Act.put, lay]
  refine tk 14 ?_
  try simp only [Act.put, lay]
  refine tk 16 ?_ (hv := by intro W2 hSw; obtain ⟨q0, q1⟩ := (hSw.blk 1 rfl).c2; go_simp; (try with_reducible rfl))
  try simp only [Act.put, lay]
  refine tk 17 ?_ (hv := by intro W2 hSw; obtain ⟨q0, q1⟩ := (hSw.blk 1 rfl).c2; go_simp; (try with_reducible rfl))
  try simp only [Act.put, lay]
  refine tk 19 ?_ (hv := by intro W2 hSw; obtain ⟨q0, q1⟩ := (hSw.blk 0 rfl).c2; go_simp; (try with_reducible rfl))
  try simp only [Act.put, lay]
  refine rdy 15 (fun KK hKK => ?_)
  go_simp
  refine (HO.out _ _ _).mono ?_
  rintro e wk ⟨rfl, hb9⟩
  go_wp2_with fail
  refine hKK.out _ _ (hHeld.keep hb9) (fun _ => ?_)
  clear hKK KK hHeld
  rename_i hHeld
  try simp only [Act.put, lay]
  clear hb9
  refine rdy 18 (fun KK hKK => ?_)
  go_simp
  refine (K14.out _).mono ?_
  rintro e wk ⟨rfl, hb10⟩
  go_wp2_with fail
  refine hKK.out _ _ (hHeld.keep hb10) (fun _ => ?_)
  clear hKK KK hHeld
  rename_i hHeld
  try simp only [Act.put, lay]
  clear hb10
  refine tk 20 ?_
  try simp only [Act.put, lay]
  refine tk 21 ?_
  try simp only [Act.put, lay]
  refine wpAnyH_done (by kernel_rfl) ?_ _
  have LL := Lib.hid hHeld
  clear hHeld
  clear K12 K13 K14
  go_upto_region 15 with fail
  refine regL LL (fun hHeld => ?_)
  clear LL
  generalize World.drew _ = wk at hHeld  ⊢
  refine tk 4 ?_ (hv := by intro W2 hSw; obtain ⟨q0, q1⟩ := (hSw.blk 0 rfl).c2; go_simp; (try with_reducible rfl))
  try simp only [Act.put, lay]
  refine rdy 0 (fun KK hKK => ?_)
  go_simp
  refine (HO.out _ _ _).mono ?_
  rintro e wk ⟨rfl, hb0⟩
  go_wp2_with fail
  refine hKK.out _ _ (hHeld.keep hb0) (fun _ => ?_)
  clear hKK KK hHeld
  rename_i hHeld
  try simp only [Act.put, lay]
  clear hb0
  refine rdy 1 (fun KK hKK => ?_)
  go_simp
  refine (HO.out _ _ _).mono ?_
  rintro e wk ⟨rfl, hb1⟩
  go_wp2_with fail
  refine hKK.out _ _ (hHeld.keep hb1) (fun _ => ?_)
  clear hKK KK hHeld
  rename_i hHeld
  try simp only [Act.put, lay]
  clear hb1
  refine rdy 2 (fun KK hKK => ?_)
  go_simp
  refine (HO.out _ _ _).mono ?_
  rintro e wk ⟨rfl, hb2⟩
  go_wp2_with fail
  refine hKK.out _ _ (hHeld.keep hb2) (fun _ => ?_)
  clear hKK KK hHeld
  rename_i hHeld
  try simp only [Act.put, lay]
  clear hb2
  refine rdy 3 (fun KK hKK => ?_)
  go_simp
  refine (K15.out _).mono ?_
  rintro e wk ⟨rfl, hb3⟩
  go_wp2_with fail
  refine hKK.out _ _ (hHeld.keep hb3) (fun _ => ?_)
  clear hKK KK hHeld
  rename_i hHeld
  try simp only [Act.put, lay]
  clear hb3
  refine tk 5 ?_
  try simp only [Act.put, lay]
  refine tk 6 ?_
  try simp only [Act.put, lay]
  refine rdy 7 (fun KK hKK => ?_)
  go_simp
  refine (HO.out _ _ _).mono ?_
  rintro e wk ⟨rfl, hb4⟩
  go_wp2_with fail
  refine hKK.out _ _ (hHeld.keep hb4) (fun _ => ?_)
  clear hKK KK hHeld
  rename_i hHeld
  try simp only [Act.put, lay]
  clear hb4
  refine rdy 8 (fun KK hKK => ?_)
  go_simp
  refine (HO.out _ _ _).mono ?_
  rintro e wk ⟨rfl, hb5⟩
  go_wp2_with fail
  refine hKK.out _ _ (hHeld.keep hb5) (fun _ => ?_)
  clear hKK KK hHeld
  rename_i hHeld
  try simp only [Act.put, lay]
  clear hb5
  refine rdy 9 (fun KK hKK => ?_)
  go_simp
  refine (HO.out _ _ _).mono ?_
  rintro e wk ⟨rfl, hb6⟩
  go_wp2_with fail
  refine hKK.out _ _ (hHeld.keep hb6) (fun _ => ?_)
  clear hKK KK hHeld
  rename_i hHeld
  try simp only [Act.put, lay]
  clear hb6
  refine rdy 10 (fun KK hKK => ?_)
  go_simp
  refine (K16.out _).mono ?_
  rintro e wk ⟨rfl, hb7⟩
  go_wp2_with fail
  refine hKK.out _ _ (hHeld.keep hb7) (fun _ => ?_)
  clear hKK KK hHeld
  rename_i hHeld
  try simp only [Act.put, lay]
  clear hb7
  refine rdy 11 (fun KK hKK => ?_)
  go_simp
  refine (HO.out _ _ _).mono ?_
  rintro e wk ⟨rfl, hb8⟩
  go_wp2_with fail
  refine hKK.out _ _ (hHeld.keep hb8) (fun _ => ?_)
  clear hKK KK hHeld
  rename_i hHeld
  try simp only [Act.put, lay]
  clear hb8
  refine tk 12 ?_
  try simp only [Act.put, lay]
  refine tk 13 ?_
  try simp only [Act.put, lay]
  refine tk 14 ?_
  try simp only [Act.put, lay]
  refine tk 16 ?_
  try simp only [Act.put, lay]
  refine tk 18 ?_ (hv := by intro W2 hSw; obtain ⟨q0, q1⟩ := (hSw.blk 1 rfl).c2; go_simp; (try with_reducible rfl))
  try simp only [Act.put, lay]
  refine rdy 15 (fun KK hKK => ?_)
  go_simp
  refine (HO.out _ _ _).mono ?_
  rintro e wk ⟨rfl, hb9⟩
  go_wp2_with fail
  refine hKK.out _ _ (hHeld.keep hb9) (fun _ => ?_)
  clear hKK KK hHeld
  rename_i hHeld
  try simp only [Act.put, lay]
  clear hb9
  refine rdy 17 (fun KK hKK => ?_)
  go_simp
  refine (HO.out _ _ _).mono ?_
  rintro e wk ⟨rfl, hb10⟩
  go_wp2_with fail
  refine hKK.out _ _ (hHeld.keep hb10) (fun _ => ?_)
  clear hKK KK hHeld
  rename_i hHeld
  try simp only [Act.put, lay]
  clear hb10
  refine rdy 19 (fun KK hKK => ?_)
  go_simp
  refine (K17.out _).mono ?_
  rintro e wk ⟨rfl, hb11⟩
  go_wp2_with fail
  refine hKK.out _ _ (hHeld.keep hb11) (fun _ => ?_)
  clear hKK KK hHeld
  rename_i hHeld
  try simp only [Act.put, lay]
  clear hb11
  refine rdy 20 (fun KK hKK => ?_)
  go_simp
  refine (HO.out _ _ _).mono ?_
  rintro e wk ⟨rfl, hb12⟩
  go_wp2_with fail
  refine hKK.out _ _ (hHeld.keep hb12) (fun _ => ?_)
  clear hKK KK hHeld
  rename_i hHeld
  try simp only [Act.put, lay]
  clear hb12
  refine tk 21 ?_
  try simp only [Act.put, lay]
  refine tk 22 ?_
  try simp only [Act.put, lay]
  refine tk 23 ?_
  try simp only [Act.put, lay]
  refine tk 25 ?_
  try simp only [Act.put, lay]
  refine tk 29 ?_ (hv := by intro W2 hSw; obtain ⟨q0, q1⟩ := (hSw.blk 0 rfl).c2; go_simp; (try with_reducible rfl))
  try simp only [Act.put, lay]
  refine rdy 24 (fun KK hKK => ?_)
  go_simp
  refine (HO.out _ _ _).mono ?_
  rintro e wk ⟨rfl, hb13⟩
  go_wp2_with fail
  refine hKK.out _ _ (hHeld.keep hb13) (fun _ => ?_)
  clear hKK KK hHeld
  rename_i hHeld
  try simp only [Act.put, lay]
  clear hb13
  refine rdy 26 (fun KK hKK => ?_)
  go_simp
  refine (HO.out _ _ _).mono ?_
  rintro e wk ⟨rfl, hb14⟩
  go_wp2_with fail
  refine hKK.out _ _ (hHeld.keep hb14) (fun _ => ?_)
  clear hKK KK hHeld
  rename_i hHeld
  try simp only [Act.put, lay]
  clear hb14
  refine rdy 27 (fun KK hKK => ?_)
  go_simp
  refine (HO.out _ _ _).mono ?_
  rintro e wk ⟨rfl, hb15⟩
  go_wp2_with fail
  refine hKK.out _ _ (hHeld.keep hb15) (fun _ => ?_)
  clear hKK KK hHeld
  rename_i hHeld
  try simp only [Act.put, lay]
  clear hb15
  refine rdy 28 (fun KK hKK => ?_)
  go_simp
  refine (K18.out _).mono ?_
  rintro e wk ⟨rfl, hb16⟩
  go_wp2_with fail
  refine hKK.out _ _ (hHeld.keep hb16) (fun _ => ?_)
  clear hKK KK hHeld
  rename_i hHeld
  try simp only [Act.put, lay]
  clear hb16
  refine tk 30 ?_
  try simp only [Act.put, lay]
  refine tk 31 ?_
  try simp only [Act.put, lay]
  refine tk 32 ?_
  try simp only [Act.put, lay]
  refine tk 33 ?_
  try simp only [Act.put, lay]
  refine tk 34 ?_
  try simp only [Act.put, lay]
  refine tk 38 ?_ (hv := by intro W2 hSw; obtain ⟨q0, q1⟩ := (hSw.blk 0 rfl).c2; go_simp; (try with_reducible rfl))
  try simp only [Act.put, lay]
  refine rdy 35 (fun KK hKK => ?_)
  go_simp
  refine (HO.out _ _ _).mono ?_
  rintro e wk ⟨rfl, hb17⟩
  go_wp2_with fail
  refine hKK.out _ _ (hHeld.keep hb17) (fun _ => ?_)
  clear hKK KK hHeld
  rename_i hHeld
  try simp only [Act.put, lay]
  clear hb17
  refine rdy 36 (fun KK hKK => ?_)
  go_simp
  refine (HO.out _ _ _).mono ?_
  rintro e wk ⟨rfl, hb18⟩
  go_wp2_with fail
  refine hKK.out _ _ (hHeld.keep hb18) (fun _ => ?_)
  clear hKK KK hHeld
  rename_i hHeld
  try simp only [Act.put, lay]
  clear hb18
  refine rdy 37 (fun KK hKK => ?_)
  go_simp
  refine (K19.out _).mono ?_
  rintro e wk ⟨rfl, hb19⟩
  go_wp2_with fail
  refine hKK.out _ _ (hHeld.keep hb19) (fun _ => ?_)
  clear hKK KK hHeld
  rename_i hHeld
  try simp only [Act.put, lay]
  clear hb19
  refine tk 39 ?_
  try simp only [Act.put, lay]
  refine tk 40 ?_
  try simp only [Act.put, lay]
  refine wpAnyH_done (by kernel_rfl) ?_ _
  have LL := Lib.hid hHeld
  clear hHeld
  clear K15 K16 K17 K18 K19
  go_upto_region 17 with fail
  refine regL LL (fun hHeld => ?_)
  clear LL
  generalize World.drew _ = wk at hHeld  ⊢
  refine rdy 0 (fun KK hKK => ?_)
  go_simp
  refine (HO.out _ _ _).mono ?_
  rintro e wk ⟨rfl, hb0⟩
  go_wp2_with fail
  refine hKK.out _ _ (hHeld.keep hb0) (fun _ => ?_)
  clear hKK KK hHeld
  rename_i hHeld
  try simp only [Act.put, lay]
  clear hb0
  refine rdy 1 (fun KK hKK => ?_)
  go_simp
  refine (HO.out _ _ _).mono ?_
  rintro e wk ⟨rfl, hb1⟩
  go_wp2_with fail
  refine hKK.out _ _ (hHeld.keep hb1) (fun _ => ?_)
  clear hKK KK hHeld
  rename_i hHeld
  try simp only [Act.put, lay]
  clear hb1
  refine rdy 2 (fun KK hKK => ?_)
  go_simp
  refine (HO.out _ _ _).mono ?_
  rintro e wk ⟨rfl, hb2⟩
  go_wp2_with fail
  refine hKK.out _ _ (hHeld.keep hb2) (fun _ => ?_)
  clear hKK KK hHeld
  rename_i hHeld
  try simp only [Act.put, lay]
  clear hb2
  refine rdy 3 (fun KK hKK => ?_)
  go_simp
  refine (K20.out _).mono ?_
  rintro e wk ⟨rfl, hb3⟩
  go_wp2_with fail
  refine hKK.out _ _ (hHeld.keep hb3) (fun _ => ?_)
  clear hKK KK hHeld
  rename_i hHeld
  try simp only [Act.put, lay]
  clear hb3
  refine rdy 4 (fun KK hKK => ?_)
  go_simp
  refine (HO.out _ _ _).mono ?_
  rintro e wk ⟨rfl, hb4⟩
  go_wp2_with fail
  refine hKK.out _ _ (hHeld.keep hb4) (fun _ => ?_)
  clear hKK KK hHeld
  rename_i hHeld
  try simp only [Act.put, lay]
  clear hb4
  refine tk 5 ?_
  try simp only [Act.put, lay]
  refine tk 6 ?_
  try simp only [Act.put, lay]
  refine rdy 7 (fun KK hKK => ?_)
  go_simp
  refine (HO.out _ _ _).mono ?_
  rintro e wk ⟨rfl, hb5⟩
  go_wp2_with fail
  refine hKK.out _ _ (hHeld.keep hb5) (fun _ => ?_)
  clear hKK KK hHeld
  rename_i hHeld
  try simp only [Act.put, lay]
  clear hb5
  refine rdy 8 (fun KK hKK => ?_)
  go_simp
  refine (HO.out _ _ _).mono ?_
  rintro e wk ⟨rfl, hb6⟩
  go_wp2_with fail
  refine hKK.out _ _ (hHeld.keep hb6) (fun _ => ?_)
  clear hKK KK hHeld
  rename_i hHeld
  try simp only [Act.put, lay]
  clear hb6
  refine rdy 9 (fun KK hKK => ?_)
  go_simp
  refine (HO.out _ _ _).mono ?_
  rintro e wk ⟨rfl, hb7⟩
  go_wp2_with fail
  refine hKK.out _ _ (hHeld.keep hb7) (fun _ => ?_)
  clear hKK KK hHeld
  rename_i hHeld
  try simp only [Act.put, lay]
  clear hb7
  refine rdy 10 (fun KK hKK => ?_)
  go_simp
  refine (K21.out _).mono ?_
  rintro e wk ⟨rfl, hb8⟩
  go_wp2_with fail
  refine hKK.out _ _ (hHeld.keep hb8) (fun _ => ?_)
  clear hKK KK hHeld
  rename_i hHeld
  try simp only [Act.put, lay]
  clear hb8
  refine rdy 11 (fun KK hKK => ?_)
  go_simp
  refine (HO.out _ _ _).mono ?_
  rintro e wk ⟨rfl, hb9⟩
  go_wp2_with fail
  refine hKK.out _ _ (hHeld.keep hb9) (fun _ => ?_)
  clear hKK KK hHeld
  rename_i hHeld
  try simp only [Act.put, lay]
  clear hb9
  refine tk 12 ?_
  try simp only [Act.put, lay]
  refine tk 13 ?_
  try simp only [Act.put, lay]
  refine tk 14 ?_
  try simp only [Act.put, lay]
  refine tk 17 ?_ (hv := by intro W2 hSw; obtain ⟨q0, q1⟩ := (hSw.blk 1 rfl).c2; go_simp; (try with_reducible rfl))
  try simp only [Act.put, lay]
  refine tk 19 ?_ (hv := by intro W2 hSw; obtain ⟨q0, q1⟩ := (hSw.blk 0 rfl).c2; go_simp; (try with_reducible rfl))
  try simp only [Act.put, lay]
  refine rdy 15 (fun KK hKK => ?_)
  go_simp
  refine (HO.out _ _ _).mono ?_
  rintro e wk ⟨rfl, hb10⟩
  go_wp2_with fail
  refine hKK.out _ _ (hHeld.keep hb10) (fun _ => ?_)
  clear hKK KK hHeld
  rename_i hHeld
  try simp only [Act.put, lay]
  clear hb10
  refine rdy 16 (fun KK hKK => ?_)
  go_simp
  refine (HO.out _ _ _).mono ?_
  rintro e wk ⟨rfl, hb11⟩
  go_wp2_with fail
  refine hKK.out _ _ (hHeld.keep hb11) (fun _ => ?_)
  clear hKK KK hHeld
  rename_i hHeld
  try simp only [Act.put, lay]
  clear hb11
  refine rdy 18 (fun KK hKK => ?_)
  go_simp
  refine (K22.out _).mono ?_
  rintro e wk ⟨rfl, hb12⟩
  go_wp2_with fail
  refine hKK.out _ _ (hHeld.keep hb12) (fun _ => ?_)
  clear hKK KK hHeld
  rename_i hHeld
  try simp only [Act.put, lay]
  clear hb12
  refine tk 20 ?_
  try simp only [Act.put, lay]
  refine tk 21 ?_
  try simp only [Act.put, lay]
  refine wpAnyH_done (by kernel_rfl) ?_ _
  have LL := Lib.hid hHeld
  clear hHeld
  clear K20 K21 K22
  go_wp2_with fail
  refine (HO.out _ _ _).mono ?_
  rintro e wk ⟨rfl, hb⟩
  replace LL := stL LL hb
  clear hb
  go_wp2_with fail
  refine (HO.out _ _ _).mono ?_
  rintro e wk ⟨rfl, hb⟩
  replace LL := stL LL hb
  clear hb
  go_wp2_with fail
  refine (HO.out _ _ _).mono ?_
  rintro e wk ⟨rfl, hb⟩
  replace LL := stL LL hb
  clear hb
  go_wp2_with fail
  refine (K23.out _).mono ?_
  rintro e wk ⟨rfl, hb⟩
  replace LL := stL LL hb
  clear hb
  go_wp2_with fail
  refine (HO.out _ _ _).mono ?_
  rintro e wk ⟨rfl, hb⟩
  replace LL := stL LL hb
  clear hb
  go_wp2_with fail
  refine (HO.out _ _ _).mono ?_
  rintro e wk ⟨rfl, hb⟩
  replace LL := stL LL hb
  clear hb
  go_wp2_with fail
  refine (HO.out _ _ _).mono ?_
  rintro e wk ⟨rfl, hb⟩
  replace LL := stL LL hb
  clear hb
  go_wp2_with fail
  refine (HO.out _ _ _).mono ?_
  rintro e wk ⟨rfl, hb⟩
  replace LL := stL LL hb
  clear hb
  go_wp2_with fail
  refine (K24.out _).mono ?_
  rintro e wk ⟨rfl, hb⟩
  replace LL := stL LL hb
  clear hb
  go_wp2_with fail
  refine (HO.out _ _ _).mono ?_
  rintro e wk ⟨rfl, hb⟩
  replace LL := stL LL hb
  clear hb
  go_upto_region 21 with fail
  refine regL LL (fun hHeld => ?_)
  clear LL
  generalize World.drew _ = wk at hHeld  ⊢
  refine tk 3 ?_ (hv := by intro W2 hSw; obtain ⟨q0, q1⟩ := (hSw.blk 1 rfl).c2; go_simp; (try with_reducible rfl))
  try simp only [Act.put, lay]
  refine rdy 0 (fun KK hKK => ?_)
  go_simp
  refine (HO.out _ _ _).mono ?_
  rintro e wk ⟨rfl, hb0⟩
  go_wp2_with fail
  refine hKK.out _ _ (hHeld.keep hb0) (fun _ => ?_)
  clear hKK KK hHeld
  rename_i hHeld
  try simp only [Act.put, lay]
  clear hb0
  refine rdy 1 (fun KK hKK => ?_)
  go_simp
  refine (HO.out _ _ _).mono ?_
  rintro e wk ⟨rfl, hb1⟩
  go_wp2_with fail
  refine hKK.out _ _ (hHeld.keep hb1) (fun _ => ?_)
  clear hKK KK hHeld
  rename_i hHeld
  try simp only [Act.put, lay]
  clear hb1
  refine rdy 2 (fun KK hKK => ?_)
  go_simp
  refine (HO.out _ _ _).mono ?_
  rintro e wk ⟨rfl, hb2⟩
  go_wp2_with fail
  refine hKK.out _ _ (hHeld.keep hb2) (fun _ => ?_)
  clear hKK KK hHeld
  rename_i hHeld
  try simp only [Act.put, lay]
  clear hb2
  refine rdy 4 (fun KK hKK => ?_)
  go_simp
  refine (K25.out _).mono ?_
  rintro e wk ⟨rfl, hb3⟩
  go_wp2_with fail
  refine hKK.out _ _ (hHeld.keep hb3) (fun _ => ?_)
  clear hKK KK hHeld
  rename_i hHeld
  try simp only [Act.put, lay]
  clear hb3
  refine rdy 5 (fun KK hKK => ?_)
  go_simp
  refine (HO.out _ _ _).mono ?_
  rintro e wk ⟨rfl, hb4⟩
  go_wp2_with fail
  refine hKK.out _ _ (hHeld.keep hb4) (fun _ => ?_)
  clear hKK KK hHeld
  rename_i hHeld
  try simp only [Act.put, lay]
  clear hb4
  refine tk 6 ?_
  try simp only [Act.put, lay]
  refine tk 7 ?_
  try simp only [Act.put, lay]
  refine tk 11 ?_ (hv := by intro W2 hSw; obtain ⟨q0, q1⟩ := (hSw.blk 1 rfl).c2; go_simp; (try with_reducible rfl))
  try simp only [Act.put, lay]
  refine rdy 8 (fun KK hKK => ?_)
  go_simp
  refine (HO.out _ _ _).mono ?_
  rintro e wk ⟨rfl, hb5⟩
  go_wp2_with fail
  refine hKK.out _ _ (hHeld.keep hb5) (fun _ => ?_)
  clear hKK KK hHeld
  rename_i hHeld
  try simp only [Act.put, lay]
  clear hb5
  refine rdy 9 (fun KK hKK => ?_)
  go_simp
  refine (HO.out _ _ _).mono ?_
  rintro e wk ⟨rfl, hb6⟩
  go_wp2_with fail
  refine hKK.out _ _ (hHeld.keep hb6) (fun _ => ?_)
  clear hKK KK hHeld
  rename_i hHeld
  try simp only [Act.put, lay]
  clear hb6
  refine rdy 10 (fun KK hKK => ?_)
  go_simp
  refine (HO.out _ _ _).mono ?_
  rintro e wk ⟨rfl, hb7⟩
  go_wp2_with fail
  refine hKK.out _ _ (hHeld.keep hb7) (fun _ => ?_)
  clear hKK KK hHeld
  rename_i hHeld
  try simp only [Act.put, lay]
  clear hb7
  refine rdy 12 (fun KK hKK => ?_)
  go_simp
  refine (K26.out _).mono ?_
  rintro e wk ⟨rfl, hb8⟩
  go_wp2_with fail
  refine hKK.out _ _ (hHeld.keep hb8) (fun _ => ?_)
  clear hKK KK hHeld
  rename_i hHeld
  try simp only [Act.put, lay]
  clear hb8
  refine rdy 13 (fun KK hKK => ?_)
  go_simp
  refine (HO.out _ _ _).mono ?_
  rintro e wk ⟨rfl, hb9⟩
  go_wp2_with fail
  refine hKK.out _ _ (hHeld.keep hb9) (fun _ => ?_)
  clear hKK KK hHeld
  rename_i hHeld
  try simp only [Act.put, lay]
  clear hb9
  refine tk 14 ?_
  try simp only [Act.put, lay]
  refine tk 15 ?_
  try simp only [Act.put, lay]
  refine tk 16 ?_
  try simp only [Act.put, lay]
  refine wpAnyH_done (by kernel_rfl) ?_ _
  have LL := Lib.hid hHeld
  clear hHeld
  clear K25 K26
  go_wp2
  go_ret
  exact ⟨rfl, LL.out.b⟩
end Go.Proofs.YthlmlmfebpjgdaaGreatDoor
