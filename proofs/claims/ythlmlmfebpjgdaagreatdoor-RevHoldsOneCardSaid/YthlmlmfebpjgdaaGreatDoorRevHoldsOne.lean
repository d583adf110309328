/-
A real of x whose image under an operation of one operand lies in c lies in what its reverse answers: RevHoldsOne returns true. For every input: no condition.
-/
import Derived.Test.YthlmlmfebpjgdaaGreatDoorM21
import Derived.Test.YthlmlmfebpjgdaaGreatDoorM22
import Derived.Carry
import Derived.SizedLaws
import Derived.Test.YthlmlmfebpjgdaaGreatDoorCards
import Derived.Test.YthlmlmfebpjgdaaGreatDoorTie
import Derived.SevenTiedAt
import Derived.Test.YthlmlmfebpjgdaaGreatDoorRows
import Derived.WalkKit
import Derived.ProofKit
import Derived.OpenShut
import Derived.Below
import Derived.ChangeSame
set_option linter.unusedSimpArgs false
set_option linter.unusedVariables false
set_option maxHeartbeats 12800000

namespace Go.Proofs.YthlmlmfebpjgdaaGreatDoor.revHoldsOne
open Go.ChangeShapes Go.WideShapes Go.ChangeAt Go.RowKit Go.Proofs.YthlmlmfebpjgdaaGreatDoor
set_option linter.unusedVariables false
theorem own : ownKnob Tryz.prog.godebug = none := by kernel_rfl
section
variable {H : Type} {enc : TypeId × Value → H} {P : Program}
theorem post_of_below {f : Func} {s : ChangeSpec} {apart fresh handsOn again : Bool} {W W' : World} {args : Array Value} {v : Value} {ds gs : List (DataW H)} {before pa pv : List MemPlace}
    (hW : DataW.Whole enc P f.params.toList s.vars apart W args.toList ds gs before)
    (hres : ∀ (b : Nat) (sp : Nat → Bool) (hd : Bool), DataW.TrodAll enc P W' b sp hd f.resultTypes.toList (v.resultList f.resultTypes.size) (s.fn H (ds ++ gs)).results [])
    (hargs : ∀ sp : Nat → Bool, (∀ p ∈ before, sp p.block = true) → DataW.TrodAll enc P W' 0 sp true f.params.toList args.toList (s.fn H (ds ++ gs)).args pa)
    (hvars : ∀ sp : Nat → Bool, (∀ p ∈ before, sp p.block = true) → DataW.TrodVars enc P W' sp s.vars (s.fn H (ds ++ gs)).vars pv)
    (hps : before = pa ++ pv) (hb : Below W.heap.size W W')
    (hok : ∀ (j : Nat) (t : TypeId) (r : Value), f.resultTypes[j]? = some t → (v.resultList f.resultTypes.size)[j]? = some r → Value.okWide P W' .any 0 t r) :
    s.post enc P f apart fresh handsOn again W args v W' := by
  have hlt : ∀ p ∈ before, p.block < W.heap.size := fun p hp => hW.lt p hp
  have hold : ∀ p ∈ before, (fun b => decide (b < W.heap.size)) p.block = true := fun p hp => by simpa using hlt p hp
  refine ⟨ds, gs, before, [], pa, pv, hW, hres _ _ _, hargs _ hold, hvars _ hold, World.keptBut_mono (fun p hp => ⟨hp, ?_⟩) (hb.frame (· ∈ before)), fun _ => ?_⟩
  · rw [hps, List.mem_append] at hp
    exact Or.inr hp
  · obtain ⟨_, _, _, _, _, hz, hn⟩ := hW
    refine ⟨hok, _, _, ([] ++ pa) ++ pv, ⟨[] ++ pa, pv, trodAll_append (hargs _ (fun _ _ => rfl)) (hres _ _ _), hvars _ (fun _ _ => rfl), rfl, ?_, ?_⟩, ?_⟩
    · intro b off hp
      have hin : MemPlace.cell b off ∈ before := by rw [hps]; simpa using hp
      rw [hb.frozen (hlt _ hin)]
      exact hz b off hin
    · intro ha
      have := hn ha
      rw [hps] at this
      simpa using this
    · intro p hp _
      rw [hps]
      simpa using hp
end
section
variable {H : Type} {enc : TypeId × Value → H} {w : World} {base : Nat} {spare : Nat → Bool} {held : Bool}
theorem open_two {fuel : Nat} {c0 c1 : Value} {x : DataW H × List MemPlace} (h : DataW.trod enc Tryz.prog w base spare held fuel 24 [c0, c1] = some x) :
    ∃ a b : Int, c0 = .int .u64 a ∧ c1 = .int .u64 b ∧ x = (.agg [.lit (.int .u64 a), .lit (.int .u64 b)], []) ∧ (Lit.int .u64 a).wf = true ∧ (Lit.int .u64 b).wf = true := by
  obtain ⟨xs, n, _, hx, _, hlen, hg⟩ := DataW.trod_struct Tryz.underlying24 h
  have hc : Tryz.prog.cellsOf 22 = 1 := by kernel_rfl
  match xs, hlen with
  | [y0, y1], _ =>
    have g0 := hg 0 _ rfl
    have g1 := hg 1 _ rfl
    simp [hc] at g0 g1
    obtain ⟨a, e0, rfl, wa⟩ := DataW.trod_int Tryz.underlying22 g0
    obtain ⟨b, e1, rfl, wb⟩ := DataW.trod_int Tryz.underlying22 g1
    simp at e0 e1
    exact ⟨a, b, e0, e1, by simpa using hx, wa, wb⟩
set_option maxRecDepth 100000 in
theorem open_i {r : Reach} {b0 : Nat} {v : Value} {d : DataW H} {p : List MemPlace} (hv : Value.okWide Tryz.prog w r b0 24 v) (h : DataW.Trod enc Tryz.prog w base spare held 24 v d p) :
    ∃ a b : Int, v = .agg #[.int .u64 a, .int .u64 b] ∧ d = .agg [.lit (.int .u64 a), .lit (.int .u64 b)] ∧ p = [] ∧ (Lit.int .u64 a).wf = true ∧ (Lit.int .u64 b).wf = true := by
  obtain ⟨cs, rfl, hsz⟩ := okWide_struct Tryz.underlying24 hv
  have hC : Tryz.prog.cellsOf 24 = 2 := by kernel_rfl
  obtain ⟨l⟩ := cs
  match l, hsz.trans hC with
  | [c0, c1], _ =>
    obtain ⟨fuel, hf⟩ := h
    obtain ⟨a, b, rfl, rfl, e, wa, wb⟩ := open_two hf
    cases e
    exact ⟨a, b, rfl, rfl, rfl, wa, wb⟩
set_option maxRecDepth 100000 in
theorem open_arg {r : Reach} {b0 : Nat} {v : Value} {d : DataW H} {p : List MemPlace} (hv : Value.okWide Tryz.prog w r b0 42 v) (h : DataW.Trod enc Tryz.prog w base spare held 42 v d p) :
    ∃ g A n c B m e, v = .agg #[.bool g, .slice A n c, .slice B m e] ∧ ((∀ b ∈ d.weights Tryz.prog 42, b ≤ reachBytes) → ∃ xs ys, U32b w A n c xs ∧ U32b w B m e ys) := by
  obtain ⟨cs, rfl, hsz⟩ := okWide_struct Tryz.underlying42 hv
  have hC : Tryz.prog.cellsOf 42 = 3 := by kernel_rfl
  obtain ⟨l⟩ := cs
  match l, hsz.trans hC with
  | [c0, c1, c2], _ =>
    obtain ⟨fuel, hf⟩ := h
    obtain ⟨g, A, n, c, B, m, e, rfl, rfl, rfl, hu⟩ := open_ratio hf
    exact ⟨g, A, n, c, B, m, e, rfl, hu⟩
end
theorem u64_nat {a : Int} (h : (Lit.int .u64 a).wf = true) : ∃ n : Nat, a = n ∧ n < 18446744073709551616 := by
  simp only [Lit.wf, Bool.and_eq_true, decide_eq_true_eq] at h
  have h1 : (0 : Int) ≤ a := h.1
  have h2 : a ≤ 18446744073709551615 := h.2
  exact ⟨a.toNat, by omega, by omega⟩
def cells32 : Array Value := #[.int .u8 0, .int .u8 1, .int .u8 28, .int .u8 2, .int .u8 29, .int .u8 14, .int .u8 24, .int .u8 3, .int .u8 30, .int .u8 22, .int .u8 20, .int .u8 15, .int .u8 25, .int .u8 17, .int .u8 4, .int .u8 8, .int .u8 31, .int .u8 27, .int .u8 13, .int .u8 23, .int .u8 21, .int .u8 19, .int .u8 16, .int .u8 7, .int .u8 26, .int .u8 12, .int .u8 18, .int .u8 6, .int .u8 11, .int .u8 5, .int .u8 10, .int .u8 9]
noncomputable def laidWorld (os : Os) : World :=
  { World.holding Tryz.prog os ⟨#[], #[], []⟩ with heap := (World.holding Tryz.prog os ⟨#[], #[], []⟩).heap.modify 1 fun
      | .cells _ t frozen => .cells cells32 t frozen
      | o => o }
theorem laidWorld_row (os : Os) : ((laidWorld os).forCall (fun _ _ => 0) ⟨#[], #[.int .i64 0, .agg #[.int .u64 0, .int .u64 0], .agg #[.int .u64 0, .int .u64 0], .agg #[.bool false, .slice none 0 0, .slice none 0 0]], []⟩).memory.heap[1]? = some (.cells cells32 226 (0, 0)) := by kernel_rfl
set_option maxRecDepth 100000 in
theorem lifted (os : Os) (started : os.Started) (H : Type) (enc : TypeId × Value → H) :
    ReturnsInHanded {} Tryz.checked os 8 .any (fun w args => (Rows.revHoldsOneSpec.pre enc Tryz.prog Tryz.f8 Rows.revHoldsOneRow.domain false w args ∧ laidMet Tryz.prog [("math/bits.deBruijn32tab", Rows.laid_math_bits_deBruijn32tab)] w) ∧ sizedMet enc Tryz.prog Tryz.f8 (OpenSpec.ofChange Rows.revHoldsOneSpec) false w args)
      (Rows.revHoldsOneSpec.post enc Tryz.prog Tryz.f8 false true false false) := by
  refine returnsInHanded_of_change_and (C := Tryz.checked) (X := fun w _ => laidMet Tryz.prog [("math/bits.deBruijn32tab", Rows.laid_math_bits_deBruijn32tab)] w) (fun _ _ _ hh h => h.of_heap hh) own started (by kernel_rfl) Tryz.func8
    (ChangeSpec.witness_at (enc := enc) (C := Tryz.checked) (os := os) (X := fun w _ => laidMet Tryz.prog [("math/bits.deBruijn32tab", Rows.laid_math_bits_deBruijn32tab)] w) false (laidWorld os) #[.int .i64 0, .agg #[.int .u64 0, .int .u64 0], .agg #[.int .u64 0, .int .u64 0], .agg #[.bool false, .slice none 0 0, .slice none 0 0]] 10 rfl (by kernel_rfl) (by kernel_rfl) (by kernel_rfl) (by kernel_rfl) (by kernel_rfl)
      ⟨_, ⟨1, 226, cells32, 8, [], [], by kernel_rfl, by kernel_rfl, by kernel_rfl, by kernel_rfl, rfl, rfl⟩, by decide, fun b off h => by
        have h' : MemPlace.cell b off ∈ [MemPlace.cell 1 0, MemPlace.cell 1 1, MemPlace.cell 1 2, MemPlace.cell 1 3, MemPlace.cell 1 4, MemPlace.cell 1 5, MemPlace.cell 1 6, MemPlace.cell 1 7, MemPlace.cell 1 8, MemPlace.cell 1 9, MemPlace.cell 1 10, MemPlace.cell 1 11, MemPlace.cell 1 12, MemPlace.cell 1 13, MemPlace.cell 1 14, MemPlace.cell 1 15, MemPlace.cell 1 16, MemPlace.cell 1 17, MemPlace.cell 1 18, MemPlace.cell 1 19, MemPlace.cell 1 20, MemPlace.cell 1 21, MemPlace.cell 1 22, MemPlace.cell 1 23, MemPlace.cell 1 24, MemPlace.cell 1 25, MemPlace.cell 1 26, MemPlace.cell 1 27, MemPlace.cell 1 28, MemPlace.cell 1 29, MemPlace.cell 1 30, MemPlace.cell 1 31] := h
        have hb : b = 1 := by
          simp at h'
          omega
        subst hb
        refine ⟨⟨_, _, laidWorld_row os⟩, fun u v hc => ?_⟩
        simp only [World.cell?, laidWorld_row os] at hc
        simp at h'
        rcases h' with rfl | rfl | rfl | rfl | rfl | rfl | rfl | rfl | rfl | rfl | rfl | rfl | rfl | rfl | rfl | rfl | rfl | rfl | rfl | rfl | rfl | rfl | rfl | rfl | rfl | rfl | rfl | rfl | rfl | rfl | rfl | rfl <;> simp [cells32] at hc⟩) ?_
  intro W base args ds gs before hval0 hW _ hsz hL _
  have hval : ∀ (j : Nat) t v, Tryz.f8.params[j]? = some t → args[j]? = some v → Value.okWide Tryz.prog W .any base t v := hval0
  have hW' := hW
  obtain ⟨p, q, hA0, hV, rfl, hfz, hnd⟩ := hW
  have hA : DataW.TrodAll enc Tryz.prog W 0 (fun _ => true) true Tryz.f8.params.toList args.toList ds p := hA0
  rw [Tryz.params8] at hA hval
  obtain ⟨v0, v1, v2, v3, f0, f1, f2, f3, p0, p1, p2, p3, rfl, rfl, rfl, h0, h1, h2, h3⟩ := trodAll_four hA
  obtain ⟨rfl, rfl⟩ := trodVars_none hV
  have hs1 : ∀ b ∈ f3.weights Tryz.prog 42, b ≤ reachBytes := fun b hb => by
    have k := List.all_eq_true.1 hsz b (DataW.weights_mem_each (j := 3) (t := 42) (d := f3) (by rw [Tryz.params8]; rfl) rfl b hb)
    simpa using k
  have hlt := hW'.lt
  obtain ⟨z, rfl, rfl, rfl, wz⟩ := open_int Tryz.underlying3 (hval 0 3 v0 rfl rfl) h0
  obtain ⟨a0, a1, rfl, rfl, rfl, w0, w1⟩ := open_i (hval 1 24 v1 rfl rfl) h1
  obtain ⟨a2, a3, rfl, rfl, rfl, w2, w3⟩ := open_i (hval 2 24 v2 rfl rfl) h2
  obtain ⟨g1, A1, n1, c1, B1, m1, d1, rfl, hu1⟩ := open_arg (hval 3 42 v3 rfl rfl) h3
  obtain ⟨s1, t1, u1, z1⟩ := hu1 hs1
  clear hA0 hval0
  simp only [List.append_nil, List.nil_append] at hW' hlt
  obtain ⟨k0, rfl, l0⟩ := u64_nat w0
  obtain ⟨k1, rfl, l1⟩ := u64_nat w1
  obtain ⟨k2, rfl, l2⟩ := u64_nat w2
  obtain ⟨k3, rfl, l3⟩ := u64_nat w3
  have hz : -9223372036854775808 ≤ z ∧ z < 9223372036854775808 := by
    simp only [Lit.wf, Bool.and_eq_true, decide_eq_true_eq] at wz
    have h1 : (-9223372036854775808 : Int) ≤ z := wz.1
    have h2 : z ≤ 9223372036854775807 := wz.2
    omega
  refine (one_full z k0 k1 k2 k3 g1 A1 n1 c1 B1 m1 d1 s1 t1 W hz.1 hz.2 l0 l1 l2 l3 u1 z1 (tab_of_laid hL)).mono fun e W' ⟨he, hb⟩ => ?_
  subst he
  exact ⟨_, rfl, post_of_below (pa := p3) (pv := []) hW' (fun _ _ _ => (trodAll_cons_mk (shut_bool Tryz.underlying4 _) trodAll_mk0))
    (fun sp hsp => trodAll_mk4 (WideElems.Trod_stays (by kernel_rfl) (by kernel_rfl) (of_decide_eq_true (by kernel_rfl)) h0 (fun x hx => by cases hx) (fun x hx => by cases hx)) (WideElems.Trod_stays (by kernel_rfl) (by kernel_rfl) (of_decide_eq_true (by kernel_rfl)) h1 (fun x hx => by cases hx) (fun x hx => by cases hx)) (WideElems.Trod_stays (by kernel_rfl) (by kernel_rfl) (of_decide_eq_true (by kernel_rfl)) h2 (fun x hx => by cases hx) (fun x hx => by cases hx)) (WideElems.Trod_stays (by kernel_rfl) (by kernel_rfl) (of_decide_eq_true (by kernel_rfl)) h3 (fun x hx => hb.same (hlt x hx)) (fun x hx => hsp x hx))) (fun _ _ => rfl) (by simp)
    hb (ok_one (by kernel_rfl) rfl (okWide_bool_mk Tryz.underlying4 _))⟩
theorem overk : Rows.revHoldsOneRow.holds Tryz.pinned (OpenSpec.ofChange Rows.revHoldsOneSpec) :=
  OpenClaim.holds_of_wide 8 Tryz.f8 rfl rfl rfl rfl rfl rfl rfl ⟨rfl, rfl, rfl, rfl, rfl⟩ rfl rfl rfl rfl rfl (by kernel_rfl) Tryz.func8 (by kernel_rfl)
    (of_decide_eq_true (by kernel_rfl)) (by unfold Func.isWrapper; first | (rw [if_pos (by decide +kernel)]; kernel_rfl) | (rw [if_neg (by decide +kernel)]; exact ⟨rfl, rfl⟩))
    (fun os started H enc _ => lifted os started H enc)
theorem rowed : Rows.RevHoldsOneSaid :=
  overk
theorem wsi : Tryz.pinned.checked.prog.wantsStandIn 24 = false := by kernel_rfl
theorem wsz : Tryz.pinned.checked.prog.wantsStandIn 3 = false := by kernel_rfl
theorem wsj : Tryz.pinned.checked.prog.wantsStandIn 42 = false := by kernel_rfl
theorem proved : Rows.RevHoldsOneCardSaid :=
  Claim7.holds_tied_plain_at .later [] [.data] true (true, "61ef237ff37b31c34a8bdfa5e2f37c57f5a342fb520db1bf31263ed6e9a53d21") false
    rowed (fun _ h => by cases h) (by kernel_rfl) (fun _ h => by cases h) revHoldsOne_row_tie rfl ⟨rfl, rfl⟩ (by kernel_rfl) rfl
    (fun f fn hf hfn => by
      obtain rfl : f = 8 := Option.some.inj ((show Tryz.prog.funcNamed "verge/vergelaw10.RevHoldsOne" = some 8 by kernel_rfl).symm.trans hf) |>.symm
      obtain rfl : fn = Tryz.f8 := (Option.some.inj (Tryz.func8.symm.trans hfn)).symm
      exact ⟨by kernel_rfl, fun j t ht => by
        rw [Tryz.params8] at ht
        match j, ht with
        | 0, h => exact (show t = 3 from (Option.some.inj h).symm) ▸ wsz
        | 1, h => exact (show t = 24 from (Option.some.inj h).symm) ▸ wsi
        | 2, h => exact (show t = 24 from (Option.some.inj h).symm) ▸ wsi
        | 3, h => exact (show t = 42 from (Option.some.inj h).symm) ▸ wsj⟩)
    (by kernel_rfl)
#print axioms proved
end Go.Proofs.YthlmlmfebpjgdaaGreatDoor.revHoldsOne
