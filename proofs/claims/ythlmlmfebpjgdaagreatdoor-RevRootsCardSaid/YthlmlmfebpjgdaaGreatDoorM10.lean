/-
Walks: package vergeref10, against.
Walks: package vergeref10, Within of pieces whose bounds are numbers or infinities.
Sets of read intervals: the calls of vergeref6 on them.
-/
import Derived.Test.YthlmlmfebpjgdaaGreatDoorM04
import Derived.Test.YthlmlmfebpjgdaaGreatDoorM08
import Derived.Test.YthlmlmfebpjgdaaGreatDoorM09
set_option linter.unusedSimpArgs false
set_option linter.unusedVariables false
set_option maxHeartbeats 12800000

namespace Go.Proofs.YthlmlmfebpjgdaaGreatDoor
open Go.RowKit
theorem rc_neg (x y : Rat) : rc (-x) (-y) = - rc x y := by
  unfold rc
  by_cases h : x < y
  · rw [if_neg (show ¬ -x < -y by grind), if_pos (show -y < -x by grind), if_pos h]; rfl
  · by_cases h2 : y < x
    · rw [if_pos (show -x < -y by grind), if_neg h, if_pos h2]
    · rw [if_neg (show ¬ -x < -y by grind), if_neg (show ¬ -y < -x by grind), if_neg h, if_neg h2]; rfl
theorem rc_range (x y : Rat) : -1 ≤ rc x y ∧ rc x y ≤ 1 := by unfold rc; split <;> (try split) <;> omega
theorem rsg_range (x : Rat) : -1 ≤ rsg x ∧ rsg x ≤ 1 := by unfold rsg; split <;> (try split) <;> omega
theorem rc_zero_zero : rc 0 0 = 0 := by decide
theorem rsg_zero_iff {x : Rat} : rsg x = 0 ↔ x = 0 := by
  unfold rsg
  constructor
  · intro h
    split at h
    · assumption
    · split at h <;> cases h
  · rintro rfl; rfl
def SameSign (r c : Int) : Prop := (r < 0 ↔ c < 0) ∧ (0 < r ↔ 0 < c)
theorem SameSign.refl (c : Int) : SameSign c c := ⟨Iff.rfl, Iff.rfl⟩
theorem same_diff {x y : Rat} (h : rsg x ≠ rsg y) : SameSign (rsg x - rsg y) (rc x y) := by
  rcases Int.lt_trichotomy (rsg x) (rsg y) with h1 | h1 | h1
  · rw [rc_below h1]; unfold SameSign; omega
  · exact absurd h1 h
  · rw [rc_above h1]; unfold SameSign; omega
def Ag (w : World) (c : Int) (e : Ending) (w' : World) : Prop := ∃ r : Int, e = .returned (.int .i64 r) ∧ SameSign r c ∧ Below w.heap.size w w'
theorem against_inf {N1 : Int} (K : Nat) (i : Int) (s1 : Int) (g1 : Bool) (A1 : Option Addr) (n1 c1 : Nat) (B1 : Option Addr) (m1 d1 : Nat) (x1 : Rat) (o1 : Bool) (w : World) (hi : i = M ∨ i = -(M : Int)) (h1 : RatV w K g1 (.slice A1 n1 c1) (.slice B1 m1 d1) x1) (hK : 34 ≤ K) (hK2 : K ≤ 1048576) :
    Calls Tryz.prog 208 #[.int .u64 (pat i : Int), .agg #[.int .i64 s1, .bool g1, .slice A1 n1 c1, .slice B1 m1 d1, .int .i64 N1, .bool o1]] w (Ag w (ec (es i) (ex i) s1 x1)) := by
  have hM : M = 9218868437227405312 := rfl
  have hr := rung_pat (i := i) (by omega) (by omega)
  have hpl := pat_lt (i := i) (by omega) (by omega)
  have HI := Lib.hid fun W => isinf_any (pat i) W hpl
  have HB := Lib.hid fun W => bound_raw (pat i) W hpl (by rw [hr]; omega)
  rw [idx_pat (by omega) (by omega)] at HB
  rw [hr, show decide (i.natAbs = M) = true from by simp; omega] at HI
  have HC := Lib.hid fun W (g : Bool) (A : Option Addr) (n c : Nat) (B : Option Addr) (m d : Nat) (hW : Below w.heap.size w W) (h : RatV W 34 g (.slice A n c) (.slice B m d) (ex i)) => ecmp_any K (es i) g A n c B m d (ex i) s1 g1 A1 n1 c1 B1 m1 d1 x1 W (h.mono hK) (h1.below hW) (by omega)
  obtain ⟨P, hP⟩ : ∃ P, pat i = P := ⟨_, rfl⟩
  rw [hP] at HI HB hpl ⊢
  obtain ⟨s0, e1⟩ : ∃ s, es i = s := ⟨_, rfl⟩
  obtain ⟨x0, e2⟩ : ∃ s, ex i = s := ⟨_, rfl⟩
  rw [e1, e2] at HB HC ⊢
  obtain ⟨r, hr⟩ : ∃ r, ec s0 x0 s1 x1 = r := ⟨_, rfl⟩
  rw [hr] at HC ⊢
  clear hi hM hP e1 e2 hr h1 hpl hK hK2
  obtain ⟨LB0, LG0_0⟩ := bx1 w #[.int .i64 s1, .bool g1, .slice A1 n1 c1, .slice B1 m1 d1, .int .i64 N1, .bool o1] 82
  go_enter Tryz.func208, Tryz.ntmps208
  go_wp2_with fail
  refine (HI.out _).mono ?_
  rintro e w1 ⟨rfl, k, rfl⟩
  have LB1 := Lib.hid (below_drewN LB0.out k)
  have LG0_1 := Lib.hid (LG0_0.out.drewN k)
  clear LB0 LG0_0
  have q0_0 := LG0_1.out.ce 0 rfl
  go_upto_region 2 with fail
  clear q0_0
  refine wp_region_held_drew (S := fun W' => Blk W' w.heap.size 82 #[.int .i64 s1, .bool g1, .slice A1 n1 c1, .slice B1 m1 d1, .int .i64 N1, .bool o1] ∧ Below w.heap.size w W') (by kernel_rfl) (by exact ⟨LG0_1.out.drew, LB1.out.drew⟩) (fun hHeld => ?_)
  refine tk 0 ?_
  try simp only [Act.put, lay]
  refine tk 2 ?_
  try simp only [Act.put, lay]
  refine tk 3 ?_ (hv := by intro W2 hSw; obtain ⟨q0, q1, q2, q3, q4, q5⟩ := hSw.1.c6; go_simp; (try with_reducible rfl))
  try simp only [Act.put, lay]
  refine tk 4 ?_
  try simp only [Act.put, lay]
  refine tk 5 ?_ (hv := by intro W2 hSw; obtain ⟨q0, q1, q2, q3, q4, q5⟩ := hSw.1.c6; go_simp; (try with_reducible rfl))
  try simp only [Act.put, lay]
  refine tk 6 ?_
  try simp only [Act.put, lay]
  refine rdy 1 (fun KK hKK => ?_)
  go_simp
  refine (HB.out _).mono ?_
  rintro e w2 ⟨g2, A2, n2, c2, B2, m2, d2, rfl, h2, hb2⟩
  go_wp2_with fail
  refine hKK.out _ _ (⟨hHeld.1.keep hb2, hHeld.2.trans (hb2.mono hHeld.2.size)⟩) (fun _ => ?_)
  clear hKK KK hHeld; rename_i hHeld
  try simp only [Act.put, lay]
  refine rdy 7 (fun KK hKK => ?_)
  go_simp
  refine (HC.out _ g2 A2 n2 c2 B2 m2 d2 hHeld.2 h2).mono ?_
  rintro e w3 ⟨rfl, hb3⟩
  go_wp2_with fail
  refine hKK.out _ _ (⟨hHeld.1.keep hb3, hHeld.2.trans (hb3.mono hHeld.2.size)⟩) (fun _ => ?_)
  clear hKK KK hHeld; rename_i hHeld
  try simp only [Act.put, lay]
  refine tk 8 ?_
  try simp only [Act.put, lay]
  refine wpAnyH_done (by kernel_rfl) ?_ _
  have LB3 := Lib.hid hHeld.2
  clear hHeld hb2 hb3 h2 LB1 LG0_1 HB HC HI
  go_wp2
  go_ret
  exact ⟨r, rfl, SameSign.refl r, LB3.out⟩
theorem against_far {N1 : Int} (K : Nat) (i : Int) (s1 : Int) (g1 : Bool) (A1 : Option Addr) (n1 c1 : Nat) (B1 : Option Addr) (m1 d1 : Nat) (x1 : Rat) (o1 : Bool) (w : World) (hi : -(M : Int) < i ∧ i < M) (hs : s1 ≠ 0) (h1 : RatV w K g1 (.slice A1 n1 c1) (.slice B1 m1 d1) x1) (hK : 34 ≤ K) (hK2 : K ≤ 1048576) :
    Calls Tryz.prog 208 #[.int .u64 (pat i : Int), .agg #[.int .i64 s1, .bool g1, .slice A1 n1 c1, .slice B1 m1 d1, .int .i64 N1, .bool o1]] w (Ag w (ec (es i) (ex i) s1 x1)) := by
  have hM : M = 9218868437227405312 := rfl
  have hr := rung_pat (i := i) (by omega) (by omega)
  have hpl := pat_lt (i := i) (by omega) (by omega)
  have HI := Lib.hid fun W => isinf_any (pat i) W hpl
  have HB := Lib.hid fun W => bound_raw (pat i) W hpl (by rw [hr]; omega)
  rw [idx_pat (by omega) (by omega)] at HB
  rw [hr, show decide (i.natAbs = M) = false from by simp; omega] at HI
  have HC := Lib.hid fun W (g : Bool) (A : Option Addr) (n c : Nat) (B : Option Addr) (m d : Nat) (hW : Below w.heap.size w W) (h : RatV W 34 g (.slice A n c) (.slice B m d) (ex i)) => ecmp_any K (es i) g A n c B m d (ex i) s1 g1 A1 n1 c1 B1 m1 d1 x1 W (h.mono hK) (h1.below hW) (by omega)
  obtain ⟨P, hP⟩ : ∃ P, pat i = P := ⟨_, rfl⟩
  rw [hP] at HI HB hpl ⊢
  obtain ⟨s0, e1⟩ : ∃ s, es i = s := ⟨_, rfl⟩
  obtain ⟨x0, e2⟩ : ∃ s, ex i = s := ⟨_, rfl⟩
  rw [e1, e2] at HB HC ⊢
  obtain ⟨r, hr⟩ : ∃ r, ec s0 x0 s1 x1 = r := ⟨_, rfl⟩
  rw [hr] at HC ⊢
  have hq : (s1 == 0) = false := by simp; omega
  clear hi hM hP e1 e2 hr h1 hpl hK hK2
  obtain ⟨LB0, LG0_0⟩ := bx1 w #[.int .i64 s1, .bool g1, .slice A1 n1 c1, .slice B1 m1 d1, .int .i64 N1, .bool o1] 82
  go_enter Tryz.func208, Tryz.ntmps208
  go_wp2_with fail
  refine (HI.out _).mono ?_
  rintro e w1 ⟨rfl, k, rfl⟩
  have LB1 := Lib.hid (below_drewN LB0.out k)
  have LG0_1 := Lib.hid (LG0_0.out.drewN k)
  clear LB0 LG0_0
  have q0_0 := LG0_1.out.ce 0 rfl
  go_upto_region 2 with fail
  clear q0_0
  refine wp_region_held_drew (S := fun W' => Blk W' w.heap.size 82 #[.int .i64 s1, .bool g1, .slice A1 n1 c1, .slice B1 m1 d1, .int .i64 N1, .bool o1] ∧ Below w.heap.size w W') (by kernel_rfl) (by exact ⟨LG0_1.out.drew, LB1.out.drew⟩) (fun hHeld => ?_)
  refine tk 0 ?_
  try simp only [Act.put, lay]
  refine tk 2 ?_
  try simp only [Act.put, lay]
  refine tk 3 ?_ (hv := by intro W2 hSw; obtain ⟨q0, q1, q2, q3, q4, q5⟩ := hSw.1.c6; go_simp; (try with_reducible rfl))
  try simp only [Act.put, lay]
  refine tk 4 ?_
  try simp only [Act.put, lay]
  refine tk 5 ?_ (hv := by intro W2 hSw; obtain ⟨q0, q1, q2, q3, q4, q5⟩ := hSw.1.c6; go_simp; (try with_reducible rfl))
  try simp only [Act.put, lay]
  refine tk 6 ?_
  try simp only [Act.put, lay]
  refine rdy 1 (fun KK hKK => ?_)
  go_simp
  refine (HB.out _).mono ?_
  rintro e w2 ⟨g2, A2, n2, c2, B2, m2, d2, rfl, h2, hb2⟩
  go_wp2_with fail
  refine hKK.out _ _ (⟨hHeld.1.keep hb2, hHeld.2.trans (hb2.mono hHeld.2.size)⟩) (fun _ => ?_)
  clear hKK KK hHeld; rename_i hHeld
  try simp only [Act.put, lay]
  refine rdy 7 (fun KK hKK => ?_)
  go_simp
  refine (HC.out _ g2 A2 n2 c2 B2 m2 d2 hHeld.2 h2).mono ?_
  rintro e w3 ⟨rfl, hb3⟩
  go_wp2_with fail
  refine hKK.out _ _ (⟨hHeld.1.keep hb3, hHeld.2.trans (hb3.mono hHeld.2.size)⟩) (fun _ => ?_)
  clear hKK KK hHeld; rename_i hHeld
  try simp only [Act.put, lay]
  refine tk 8 ?_
  try simp only [Act.put, lay]
  refine wpAnyH_done (by kernel_rfl) ?_ _
  have LB3 := Lib.hid hHeld.2
  clear hHeld hb2 hb3 h2 LB1 LG0_1 HB HC HI
  go_wp2
  go_ret
  exact ⟨r, rfl, SameSign.refl r, LB3.out⟩
set_option maxRecDepth 2000 in
theorem against_fin (K : Nat) (i : Int) (g1 : Bool) (A1 : Option Addr) (n1 c1 : Nat) (B1 : Option Addr) (m1 d1 : Nat) (x1 : Rat) (o1 : Bool) (w : World) (hi : -(M : Int) < i ∧ i < M) (h1 : RatV w K g1 (.slice A1 n1 c1) (.slice B1 m1 d1) x1) (hK : 34 ≤ K) (hK2 : K ≤ 1048576) :
    Calls Tryz.prog 208 #[.int .u64 (pat i : Int), .agg #[.int .i64 0, .bool g1, .slice A1 n1 c1, .slice B1 m1 d1, .int .i64 1, .bool o1]] w (Ag w (rc (fl i) x1)) := by
  have hM : M = 9218868437227405312 := rfl
  have hr := rung_pat (i := i) (by omega) (by omega)
  have hpl := pat_lt (i := i) (by omega) (by omega)
  have HI := Lib.hid fun W => isinf_any (pat i) W hpl
  have HF := Lib.hid fun W => (frombits_any (pat i) W hpl (by show rungOf _ < M; rw [hr]; omega)).mono fun _ _ h => h.s
  rw [idx_pat (by omega) (by omega)] at HF
  rw [hr, show decide (i.natAbs = M) = false from by simp; omega] at HI
  have HZ := Lib.hid (size_i hpl)
  rw [hr] at HZ
  have HS1 := Lib.hid fun W (g : Bool) (A : Option Addr) (n c : Nat) (B : Option Addr) (m d : Nat) (h : RatV W 34 g (.slice A n c) (.slice B m d) (fl i)) => rsign_any 34 g _ _ (fl i) W h (by omega)
  have HS2 := Lib.hid fun W (hW : Below w.heap.size w W) => rsign_any K g1 _ _ x1 W (h1.below hW) (by omega)
  have hs1 := rsg_range (fl i)
  have hs2 := rsg_range x1
  have HPW : ∀ W, Below w.heap.size w W → rsg (fl i) = rsg x1 → rsg (fl i) ≠ 0 → Calls Tryz.prog 236 #[.int .u64 (i.natAbs : Int), .int .i64 1, .agg #[.bool false, .slice A1 n1 c1, .slice B1 m1 d1]] W fun e w' => ∃ r : Int, e = .returned (.int .i64 r) ∧ -1 ≤ r ∧ r ≤ 1 ∧ rsg (fl i) * r = rc (fl i) x1 ∧ Below W.heap.size W w' := by
    intro W hW he h0
    obtain ⟨p, q, A, n, c, B, m, d, e1, e2, hu, hv, hq, hp0, hpK, hqK, rfl⟩ := h1
    cases e1; cases e2
    have hp : 0 < p := by
      rcases Nat.eq_zero_or_pos p with h | h
      · subst h; rw [rv_zero] at he; exact absurd (he.trans (rsg_zero_iff.2 rfl)) h0
      · exact h
    have hi0 : i ≠ 0 := by rintro rfl; rw [fl_zero] at h0; exact h0 (rsg_zero_iff.2 rfl)
    refine (power_fin K i.natAbs A1 B1 n1 c1 m1 d1 p q W (by omega) (by omega) (hu.below hW) (hv.below hW) hp hq hpK hqK hK2).mono ?_
    rintro e w' ⟨rfl, hb⟩
    refine ⟨_, rfl, (rc_range _ _).1, (rc_range _ _).2, ?_, hb⟩
    rw [rsg_rv hq hp0, if_neg (by omega)] at he
    rcases Int.lt_or_le i 0 with h | h
    · have hneg : fl i < 0 := by rw [← fl_zero]; exact fl_lt_iff.2 h
      have hr1 : rsg (fl i) = -1 := by unfold rsg; rw [if_neg (by grind), if_pos hneg]
      rw [hr1] at he ⊢
      have hg : g1 = true := by
        cases g1
        · simp at he
        · rfl
      subst hg
      rw [rv_true, show i = -((i.natAbs : Nat) : Int) from by omega, fl_neg, rc_neg, Int.natAbs_neg, Int.natAbs_natCast]
      omega
    · have hpos : 0 < fl i := by rw [← fl_zero]; exact fl_lt_iff.2 (by omega)
      have hr1 : rsg (fl i) = 1 := by unfold rsg; rw [if_neg (by grind), if_neg (by grind)]
      rw [hr1] at he ⊢
      have hg : g1 = false := by
        cases g1
        · rfl
        · simp at he
      subst hg
      rw [show i = ((i.natAbs : Nat) : Int) from by omega, Int.natAbs_natCast, Int.one_mul]
  have HD := Lib.hid (same_diff (x := fl i) (y := x1))
  have HZZ : rsg (fl i) = 0 → rsg x1 = 0 → rc (fl i) x1 = 0 := by
    intro a b
    rw [rsg_zero_iff.1 a, rsg_zero_iff.1 b]; exact rc_zero_zero
  obtain ⟨P, hP⟩ : ∃ P, pat i = P := ⟨_, rfl⟩
  rw [hP] at HI HF HZ ⊢
  obtain ⟨N, hN⟩ : ∃ N, i.natAbs = N := ⟨_, rfl⟩
  rw [hN] at HZ HPW
  obtain ⟨z, hz⟩ : ∃ z, fl i = z := ⟨_, rfl⟩
  rw [hz] at HF HS1 HPW HD HZZ hs1 ⊢
  obtain ⟨s, hs⟩ : ∃ s, rsg z = s := ⟨_, rfl⟩
  obtain ⟨t, ht⟩ : ∃ t, rsg x1 = t := ⟨_, rfl⟩
  obtain ⟨r, hr⟩ : ∃ r, rc z x1 = r := ⟨_, rfl⟩
  rw [hs] at HS1 hs1 HPW HD HZZ
  rw [ht] at HS2 hs2 HPW HD HZZ
  rw [hr] at HPW HD HZZ ⊢
  have HPW := Lib.hid HPW
  have HZZ := Lib.hid HZZ
  have zz := HZ.out
  clear hi hM hP hz hN hs ht hr h1 hpl hK hK2 HZ
  by_cases hst : s = t
  · subst hst
    by_cases h0 : s = 0
    · subst h0
      have hr0 := HZZ.out rfl rfl
      obtain ⟨LB0, LG0_0⟩ := bx1 w #[.int .i64 0, .bool g1, .slice A1 n1 c1, .slice B1 m1 d1, .int .i64 1, .bool o1] 82
      go_enter Tryz.func208, Tryz.ntmps208
      go_wp2_with fail
      refine (HI.out _).mono ?_
      rintro e w1 ⟨rfl, k, rfl⟩
      have LB1 := Lib.hid (below_drewN LB0.out k)
      have LG0_1 := Lib.hid (LG0_0.out.drewN k)
      clear LB0 LG0_0
      go_wp2_with fail
      refine (HF.out _).mono ?_
      rintro e w2 ⟨g2, A2, n2, c2, B2, m2, d2, rfl, h2, hb2⟩
      have LB2 := stB LB1 hb2 LB1.out.size
      have LG0_2 := stG LG0_1 hb2
      clear LB1 LG0_1
      go_upto_region 4 with fail
      have h3 := h2.below (below_alloc w2 (.cells #[.bool g2, .slice A2 n2 c2, .slice B2 m2 d2] 42))
      have LB3 := Lib.hid (LB2.out.alloc LB2.out.size (.cells #[.bool g2, .slice A2 n2 c2, .slice B2 m2 d2] 42))
      have LG0_3 := Lib.hid (LG0_2.out.alloc (.cells #[.bool g2, .slice A2 n2 c2, .slice B2 m2 d2] 42))
      have LG1_3 := Lib.hid (Blk.new w2 42 #[.bool g2, .slice A2 n2 c2, .slice B2 m2 d2])
      clear LB2 LG0_2
      rw [show w2.heap.size = w2.heap.size from rfl]
      obtain ⟨V3, hV3⟩ : ∃ X, w2.alloc (.cells #[.bool g2, .slice A2 n2 c2, .slice B2 m2 d2] 42) = X := ⟨_, rfl⟩
      rw [hV3] at LB3 LG0_3 LG1_3 h3 ⊢
      clear hV3 h2 hb2
      obtain ⟨q1_0, q1_1, q1_2⟩ := LG1_3.out.c3
      go_wp2_with fail
      refine (HS1.out V3 g2 A2 n2 c2 B2 m2 d2 h3).mono ?_
      rintro e w4 ⟨rfl, hb4⟩
      have LB4 := stB LB3 hb4 LB3.out.size
      have LG0_4 := stG LG0_3 hb4
      have LG1_4 := stG LG1_3 hb4
      clear LB3 LG0_3 LG1_3
      clear h3 hb4 q1_0 q1_1 q1_2
      obtain ⟨q0_0, q0_1, q0_2, q0_3, q0_4, q0_5⟩ := LG0_4.out.c6
      go_wp2_with fail
      refine (HS2.out _ LB4.out).mono ?_
      rintro e w5 ⟨rfl, hb5⟩
      have LB5 := stB LB4 hb5 LB4.out.size
      have LG0_5 := stG LG0_4 hb5
      have LG1_5 := stG LG1_4 hb5
      clear LB4 LG0_4 LG1_4
      clear hb5 q0_0 q0_1 q0_2 q0_3 q0_4 q0_5
      go_wp2
      go_ret
      exact ⟨0, rfl, by rw [hr0]; exact SameSign.refl 0, LB5.out⟩
    · have hq : (s == 0) = false := by simp; omega
      have hs3 : s = -1 ∨ s = 1 := by omega
      clear h0
      rcases hs3 with rfl | rfl
      all_goals
        obtain ⟨LB0, LG0_0⟩ := bx1 w #[.int .i64 0, .bool g1, .slice A1 n1 c1, .slice B1 m1 d1, .int .i64 1, .bool o1] 82
        go_enter Tryz.func208, Tryz.ntmps208
        go_wp2_with fail
        refine (HI.out _).mono ?_
        rintro e w1 ⟨rfl, k, rfl⟩
        have LB1 := Lib.hid (below_drewN LB0.out k)
        have LG0_1 := Lib.hid (LG0_0.out.drewN k)
        clear LB0 LG0_0
        go_wp2_with fail
        refine (HF.out _).mono ?_
        rintro e w2 ⟨g2, A2, n2, c2, B2, m2, d2, rfl, h2, hb2⟩
        have LB2 := stB LB1 hb2 LB1.out.size
        have LG0_2 := stG LG0_1 hb2
        clear LB1 LG0_1
        go_upto_region 4 with fail
        have h3 := h2.below (below_alloc w2 (.cells #[.bool g2, .slice A2 n2 c2, .slice B2 m2 d2] 42))
        have LB3 := Lib.hid (LB2.out.alloc LB2.out.size (.cells #[.bool g2, .slice A2 n2 c2, .slice B2 m2 d2] 42))
        have LG0_3 := Lib.hid (LG0_2.out.alloc (.cells #[.bool g2, .slice A2 n2 c2, .slice B2 m2 d2] 42))
        have LG1_3 := Lib.hid (Blk.new w2 42 #[.bool g2, .slice A2 n2 c2, .slice B2 m2 d2])
        clear LB2 LG0_2
        rw [show w2.heap.size = w2.heap.size from rfl]
        obtain ⟨V3, hV3⟩ : ∃ X, w2.alloc (.cells #[.bool g2, .slice A2 n2 c2, .slice B2 m2 d2] 42) = X := ⟨_, rfl⟩
        rw [hV3] at LB3 LG0_3 LG1_3 h3 ⊢
        clear hV3 h2 hb2
        obtain ⟨q1_0, q1_1, q1_2⟩ := LG1_3.out.c3
        go_wp2_with fail
        refine (HS1.out V3 g2 A2 n2 c2 B2 m2 d2 h3).mono ?_
        rintro e w4 ⟨rfl, hb4⟩
        have LB4 := stB LB3 hb4 LB3.out.size
        have LG0_4 := stG LG0_3 hb4
        have LG1_4 := stG LG1_3 hb4
        clear LB3 LG0_3 LG1_3
        clear h3 hb4 q1_0 q1_1 q1_2
        obtain ⟨q0_0, q0_1, q0_2, q0_3, q0_4, q0_5⟩ := LG0_4.out.c6
        go_wp2_with fail
        refine (HS2.out _ LB4.out).mono ?_
        rintro e w5 ⟨rfl, hb5⟩
        have LB5 := stB LB4 hb5 LB4.out.size
        have LG0_5 := stG LG0_4 hb5
        have LG1_5 := stG LG1_4 hb5
        clear LB4 LG0_4 LG1_4
        clear hb5 q0_0 q0_1 q0_2 q0_3 q0_4 q0_5
        obtain ⟨q0_0, q0_1, q0_2, q0_3, q0_4, q0_5⟩ := LG0_5.out.c6
        go_upto_region 10 with fail
        clear q0_0 q0_1 q0_2 q0_3 q0_4 q0_5
        have LB6 := Lib.hid (LB5.out.alloc LB5.out.size (.cells #[.bool false, .slice A1 n1 c1, .slice B1 m1 d1] 42))
        have LG0_6 := Lib.hid (LG0_5.out.alloc (.cells #[.bool false, .slice A1 n1 c1, .slice B1 m1 d1] 42))
        have LG1_6 := Lib.hid (LG1_5.out.alloc (.cells #[.bool false, .slice A1 n1 c1, .slice B1 m1 d1] 42))
        have LG2_6 := Lib.hid (Blk.new w5 42 #[.bool false, .slice A1 n1 c1, .slice B1 m1 d1])
        clear LB5 LG0_5 LG1_5
        obtain ⟨V6, hV6⟩ : ∃ X, (w5.alloc (.cells #[.bool false, .slice A1 n1 c1, .slice B1 m1 d1] 42)) = X := ⟨_, rfl⟩
        rw [hV6] at LB6 LG0_6 LG1_6 LG2_6 ⊢
        clear hV6
        have q0_4 := LG0_6.out.ce 4 rfl
        obtain ⟨q2_0, q2_1, q2_2⟩ := LG2_6.out.c3
        go_wp2_with fail
        refine (HPW.out _ LB6.out trivial (by decide)).mono ?_
        rintro e w6 ⟨r0, rfl, hr1, hr2, hr3, hb6⟩
        have LBF := Lib.hid (LB6.out.trans (hb6.mono LB6.out.size))
        have HR3 := Lib.hid hr3
        clear hb6 hr3 q0_4 q2_0 q2_1 q2_2
        go_wp2
        go_ret
        exact ⟨_, rfl, by rw [← HR3.out]; exact ⟨by omega, by omega⟩, LBF.out⟩
  · have hq : (s == t) = false := by simp; omega
    have HDD := Lib.hid (HD.out hst)
    clear hst
    obtain ⟨LB0, LG0_0⟩ := bx1 w #[.int .i64 0, .bool g1, .slice A1 n1 c1, .slice B1 m1 d1, .int .i64 1, .bool o1] 82
    go_enter Tryz.func208, Tryz.ntmps208
    go_wp2_with fail
    refine (HI.out _).mono ?_
    rintro e w1 ⟨rfl, k, rfl⟩
    have LB1 := Lib.hid (below_drewN LB0.out k)
    have LG0_1 := Lib.hid (LG0_0.out.drewN k)
    clear LB0 LG0_0
    go_wp2_with fail
    refine (HF.out _).mono ?_
    rintro e w2 ⟨g2, A2, n2, c2, B2, m2, d2, rfl, h2, hb2⟩
    have LB2 := stB LB1 hb2 LB1.out.size
    have LG0_2 := stG LG0_1 hb2
    clear LB1 LG0_1
    go_upto_region 4 with fail
    have h3 := h2.below (below_alloc w2 (.cells #[.bool g2, .slice A2 n2 c2, .slice B2 m2 d2] 42))
    have LB3 := Lib.hid (LB2.out.alloc LB2.out.size (.cells #[.bool g2, .slice A2 n2 c2, .slice B2 m2 d2] 42))
    have LG0_3 := Lib.hid (LG0_2.out.alloc (.cells #[.bool g2, .slice A2 n2 c2, .slice B2 m2 d2] 42))
    have LG1_3 := Lib.hid (Blk.new w2 42 #[.bool g2, .slice A2 n2 c2, .slice B2 m2 d2])
    clear LB2 LG0_2
    rw [show w2.heap.size = w2.heap.size from rfl]
    obtain ⟨V3, hV3⟩ : ∃ X, w2.alloc (.cells #[.bool g2, .slice A2 n2 c2, .slice B2 m2 d2] 42) = X := ⟨_, rfl⟩
    rw [hV3] at LB3 LG0_3 LG1_3 h3 ⊢
    clear hV3 h2 hb2
    obtain ⟨q1_0, q1_1, q1_2⟩ := LG1_3.out.c3
    go_wp2_with fail
    refine (HS1.out V3 g2 A2 n2 c2 B2 m2 d2 h3).mono ?_
    rintro e w4 ⟨rfl, hb4⟩
    have LB4 := stB LB3 hb4 LB3.out.size
    have LG0_4 := stG LG0_3 hb4
    have LG1_4 := stG LG1_3 hb4
    clear LB3 LG0_3 LG1_3
    clear h3 hb4 q1_0 q1_1 q1_2
    obtain ⟨q0_0, q0_1, q0_2, q0_3, q0_4, q0_5⟩ := LG0_4.out.c6
    go_wp2_with fail
    refine (HS2.out _ LB4.out).mono ?_
    rintro e w5 ⟨rfl, hb5⟩
    have LB5 := stB LB4 hb5 LB4.out.size
    have LG0_5 := stG LG0_4 hb5
    have LG1_5 := stG LG1_4 hb5
    clear LB4 LG0_4 LG1_4
    clear hb5 q0_0 q0_1 q0_2 q0_3 q0_4 q0_5
    go_wp2
    go_ret
    exact ⟨_, rfl, HDD.out, LB5.out⟩
end Go.Proofs.YthlmlmfebpjgdaaGreatDoor

namespace Go.Proofs.YthlmlmfebpjgdaaGreatDoor
open Go.RowKit
theorem ec_idx {i b : Int} (h1 : -(M : Int) ≤ i) (h2 : i ≤ M) (h3 : -(M : Int) ≤ b) (h4 : b ≤ M) : SameSign (ec (es i) (ex i) (es b) (ex b)) (i - b) := by
  have hM : M = 9218868437227405312 := rfl
  have ei : es i = if i = M then 1 else if i = -(M : Int) then -1 else 0 := rfl
  have eb : es b = if b = M then 1 else if b = -(M : Int) then -1 else 0 := rfl
  rcases Int.lt_trichotomy (es i) (es b) with h | h | h
  · rw [ec_lt _ _ h]
    rw [ei, eb] at h
    unfold SameSign
    split at h <;> split at h <;> (try split at h) <;> (try split at h) <;> omega
  · by_cases h0 : es i = 0
    · have h0' : es b = 0 := by omega
      rw [h0, h0', ec_zero, ex_zero h0, ex_zero h0']
      unfold rc SameSign
      by_cases hc : i < b
      · rw [if_pos (fl_lt_iff.2 hc)]; omega
      · rw [if_neg (fun h => hc (fl_lt_iff.1 h))]
        by_cases hd : b < i
        · rw [if_pos (fl_lt_iff.2 hd)]; omega
        · rw [if_neg (fun h => hd (fl_lt_iff.1 h))]; omega
    · rw [ec_inf _ _ h h0]
      rw [ei, eb] at h
      rw [ei] at h0
      unfold SameSign
      split at h0 <;> (try split at h0) <;> split at h <;> (try split at h) <;> (try split at h) <;> (try split at h) <;> omega
  · rw [ec_gt _ _ h]
    rw [ei, eb] at h
    unfold SameSign
    split at h <;> split at h <;> (try split at h) <;> (try split at h) <;> omega
theorem SameSign.trans {a b c : Int} (h : SameSign a b) (h' : SameSign b c) : SameSign a c := ⟨h.1.trans h'.1, h.2.trans h'.2⟩
theorem Ag.trans {w w' : World} {a b : Int} {e : Ending} (h : Ag w a e w') (h' : SameSign a b) : Ag w b e w' := by
  obtain ⟨r, h1, h2, h3⟩ := h
  exact ⟨r, h1, h2.trans h', h3⟩
theorem rounded10 (K : Nat) (g1 : Bool) (A1 : Option Addr) (n1 c1 : Nat) (B1 : Option Addr) (m1 d1 : Nat) (s1 : Int) (x1 : Rat) (o1 : Bool) (dd : Int) (w : World) (h1 : RatV w K g1 (.slice A1 n1 c1) (.slice B1 m1 d1) x1) (hK : K ≤ 1048576) (hd : dd = -1 ∨ dd = 1) :
    Calls Tryz.prog 209 #[.int .i64 dd, .agg #[.int .i64 s1, .bool g1, .slice A1 n1 c1, .slice B1 m1 d1, .int .i64 1, .bool o1]] w (IsRnd w dd x1) := by
  have HB := Lib.hid fun W (hW : Below w.heap.size w W) => bits_any K g1 A1 B1 n1 c1 m1 d1 x1 dd W (h1.below hW) hK hd
  clear h1 hd
  obtain ⟨LB0, LG0_0⟩ := bx1 w #[.int .i64 s1, .bool g1, .slice A1 n1 c1, .slice B1 m1 d1, .int .i64 1, .bool o1] 82
  go_enter Tryz.func209, Tryz.ntmps209
  go_wp2_with fail
  refine (HB.out _ LB0.out).mono ?_
  rintro e w1 ⟨i, rfl, hr, hb1⟩
  have LB1 := stB LB0 hb1 LB0.out.size
  have LG0_1 := stG LG0_0 hb1
  clear LB0 LG0_0
  have HR := Lib.hid hr
  clear hr hb1
  go_wp2
  go_ret
  exact ⟨i, rfl, HR.out, LB1.out⟩
theorem within_none (s1 : Int) (g1 : Bool) (A1 : Option Addr) (n1 c1 : Nat) (B1 : Option Addr) (m1 d1 : Nat) (x1 : Rat) (s2 : Int) (g2 : Bool) (A2 : Option Addr) (n2 c2 : Nat) (B2 : Option Addr) (m2 d2 : Nat) (x2 : Rat) (o1 o2 : Bool) (w : World) :
    Calls Tryz.prog 147 #[.agg #[.int .u64 9218868437227405312, .int .u64 18442240474082181120], .agg #[.bool false, .int .i64 s1, .bool g1, .slice A1 n1 c1, .slice B1 m1 d1, .int .i64 1, .bool o1, .int .i64 s2, .bool g2, .slice A2 n2 c2, .slice B2 m2 d2, .int .i64 1, .bool o2]] w fun e w' => e = .returned (.agg #[.int .u64 9218868437227405312, .int .u64 18442240474082181120]) ∧ Below w.heap.size w w' := by
  have HE := Lib.hid empty6
  obtain ⟨LB0, LG0_0, LG1_0, LR⟩ := bx3 w #[.int .u64 9218868437227405312, .int .u64 18442240474082181120] 24 #[.bool false, .int .i64 s1, .bool g1, .slice A1 n1 c1, .slice B1 m1 d1, .int .i64 1, .bool o1, .int .i64 s2, .bool g2, .slice A2 n2 c2, .slice B2 m2 d2, .int .i64 1, .bool o2] 84 #[.int .u64 0, .int .u64 0] 24
  have LR0 := Lib.hid (HasBlk.of (n := 2) LR.out rfl rfl)
  clear LR
  go_enter Tryz.func147, Tryz.ntmps147
  go_wp2_with fail
  refine wp_region_held_drew (S := fun W' => Blk W' w.heap.size 24 #[.int .u64 9218868437227405312, .int .u64 18442240474082181120] ∧ Blk W' (w.heap.size + 1) 84 #[.bool false, .int .i64 s1, .bool g1, .slice A1 n1 c1, .slice B1 m1 d1, .int .i64 1, .bool o1, .int .i64 s2, .bool g2, .slice A2 n2 c2, .slice B2 m2 d2, .int .i64 1, .bool o2] ∧ HasBlk W' (w.heap.size + 2) 24 2 ∧ Below w.heap.size w W') (by kernel_rfl) (by exact ⟨LG0_0.out.drew, LG1_0.out.drew, LR0.out.drew, LB0.out.drew⟩) (fun hHeld => ?_)
  refine tk 0 ?_
  try simp only [Act.put, lay]
  refine tk 1 ?_ (hv := by intro W2 hSw; obtain ⟨q0, q1, q2, q3, q4, q5, q6, q7, q8, q9, q10, q11, q12⟩ := hSw.2.1.c13; go_simp; (try with_reducible rfl))
  try simp only [Act.put, lay]
  refine tk 2 ?_
  try simp only [Act.put, lay]
  refine tk 3 ?_ (hv := by intro W2 hSw; obtain ⟨q0, q1⟩ := hSw.1.c2; go_simp; (try with_reducible rfl))
  try simp only [Act.put, lay]
  refine rdy 4 (fun KK hKK => ?_)
  go_simp
  refine (HE.out _).mono ?_
  rintro e w1 ⟨rfl, hb1⟩
  go_wp2_with fail
  refine hKK.out _ _ (⟨hHeld.1.keep hb1, hHeld.2.1.keep hb1, hHeld.2.2.1.keep hb1, hHeld.2.2.2.trans (hb1.mono hHeld.2.2.2.size)⟩) (fun _ => ?_)
  clear hKK KK hHeld; rename_i hHeld
  try simp only [Act.put, lay]
  refine tk 5 ?_
  try simp only [Act.put, lay]
  refine tk 6 ?_
  try simp only [Act.put, lay]
  refine wpAnyH_done (by kernel_rfl) ?_ _
  have LB1 := Lib.hid hHeld.2.2.2
  have LR1 := Lib.hid hHeld.2.2.1
  have LG0_1 := Lib.hid hHeld.1
  have LG1_1 := Lib.hid hHeld.2.1
  clear hHeld hb1 LB0 LR0 LG0_0 LG1_0
  go_wp2_with fail
  refine (HE.out _).mono ?_
  rintro e w2 ⟨rfl, hb2⟩
  have LB2 := stB LB1 hb2 LB1.out.size
  have LR2 := stR LR1 hb2
  have LG0_2 := stG LG0_1 hb2
  have LG1_2 := stG LG1_1 hb2
  clear LB1 LR1 LG0_1 LG1_1
  clear hb2
  obtain ⟨ha0, hf0, ha1, hf1⟩ := LR2.out.sf2
  obtain ⟨hk0, hk1⟩ := LR2.out.sc2 (.int .u64 9218868437227405312) (.int .u64 18442240474082181120)
  have F := Lib.hid (below_sets (w0 := w) (r := (w.heap.size + 2)) (by omega) [.int .u64 9218868437227405312, .int .u64 18442240474082181120] 0 _ LB2.out)
  simp [sets] at hk0 hk1
  go_wp2
  refine bodyPost_ret (v := .agg #[.int .u64 9218868437227405312, .int .u64 18442240474082181120]) (by simp [results, Tryz.results147, go_sem, hk0, hk1]) rfl ?_
  exact ⟨rfl, F.out⟩
end Go.Proofs.YthlmlmfebpjgdaaGreatDoor

namespace Go.Proofs.YthlmlmfebpjgdaaGreatDoor
open Go.RowKit
def SetOf (w : World) (v : Value) (i j : Int) : Prop :=
  (i = M ∧ j = -(M : Int) ∧ ∃ s x t y g A n c B m d g' A' n' c' B' m' d', v = .agg #[.bool true, .int .i64 s, .bool g, .slice A n c, .slice B m d, .int .i64 t, .bool g', .slice A' n' c', .slice B' m' d'] ∧
    RatV w 34 g (.slice A n c) (.slice B m d) x ∧ RatV w 34 g' (.slice A' n' c') (.slice B' m' d') y) ∨
  ((-(M : Int) ≤ i ∧ i ≤ j ∧ j ≤ M ∧ i < M ∧ -(M : Int) < j) ∧ ∃ g A n c B m d g' A' n' c' B' m' d', v = .agg #[.bool false, .int .i64 (es i), .bool g, .slice A n c, .slice B m d, .int .i64 (es j), .bool g', .slice A' n' c', .slice B' m' d'] ∧
    RatV w 34 g (.slice A n c) (.slice B m d) (ex i) ∧ RatV w 34 g' (.slice A' n' c') (.slice B' m' d') (ex j))
theorem SetOf.below {w w' : World} {v : Value} {i j : Int} (h : SetOf w v i j) (hb : Below w.heap.size w w') : SetOf w' v i j := by
  rcases h with ⟨h1, h2, s, x, t, y, g, A, n, c, B, m, d, g', A', n', c', B', m', d', h3, h4, h5⟩ | ⟨h1, g, A, n, c, B, m, d, g', A', n', c', B', m', d', h3, h4, h5⟩
  · exact .inl ⟨h1, h2, s, x, t, y, g, A, n, c, B, m, d, g', A', n', c', B', m', d', h3, h4.below hb, h5.below hb⟩
  · exact .inr ⟨h1, g, A, n, c, B, m, d, g', A', n', c', B', m', d', h3, h4.below hb, h5.below hb⟩
theorem SetOf.iv {w : World} {v : Value} {i j : Int} (h : SetOf w v i j) : Iv i j := by
  rcases h with ⟨h1, h2, -⟩ | ⟨h1, -⟩
  · exact .inr ⟨h1, h2⟩
  · exact .inl h1
theorem of_idx (x y : Nat) (w : World) (hx : x < 18446744073709551616) (hy : y < 18446744073709551616) :
    Calls Tryz.prog 83 #[.agg #[.int .u64 (x : Int), .int .u64 (y : Int)]] w fun e w' => ∃ v, e = .returned v ∧ SetOf w' v (rd x y).1 (rd x y).2 ∧ Below w.heap.size w w' := by
  cases h : snd x y
  · refine (of_none x y w hx hy h).mono ?_
    rintro e w' ⟨g, A, n, c, B, m, d, g', A', n', c', B', m', d', rfl, h1, h2, hb⟩
    refine ⟨_, rfl, .inl ?_, hb⟩
    unfold rd
    rw [h]
    exact ⟨rfl, rfl, _, _, _, _, g, A, n, c, B, m, d, g', A', n', c', B', m', d', rfl, h1.k34, h2.k34⟩
  · refine (of_full x y w hx hy h).mono ?_
    rintro e w' ⟨g, A, n, c, B, m, d, g', A', n', c', B', m', d', rfl, h1, h2, hb⟩
    refine ⟨_, rfl, .inr ?_, hb⟩
    have hd := of_decide_eq_true h
    have hi := idx_bounds hd.1
    have hj := idx_bounds hd.2.1
    unfold rd
    rw [h]
    exact ⟨⟨hi.1, hd.2.2.1, hj.2, hd.2.2.2.1, hd.2.2.2.2⟩, g, A, n, c, B, m, d, g', A', n', c', B', m', d', rfl, h1, h2⟩
def hl (i j i' j' : Int) : Int × Int := if j < i then (i', j') else if j' < i' then (i, j) else (min i i', max j j')
theorem least_idx (v : Value) (i j : Int) (w : World) (h : SetOf w v i j) :
    Calls Tryz.prog 145 #[v] w fun e w' => e = .returned (.agg #[.int .u64 (pat i : Int), .int .u64 (pat j : Int)]) ∧ Below w.heap.size w w' := by
  rcases h with ⟨rfl, rfl, s, x, t, y, g, A, n, c, B, m, d, g', A', n', c', B', m', d', rfl, h4, h5⟩ | ⟨h1, g, A, n, c, B, m, d, g', A', n', c', B', m', d', rfl, h4, h5⟩
  · rw [pat_max, pat_min]
    exact least_none s g A n c B m d x t g' A' n' c' B' m' d' y w
  · refine (least_some 34 _ g A n c B m d _ _ g' A' n' c' B' m' d' _ w h4 h5 (by omega)).mono ?_
    rintro e w' ⟨i', j', rfl, r1, r2, r3, r4, hb⟩
    rw [least_lo (by omega) (by omega) r1 r2, least_hi (by omega) (by omega) r3 r4]
    exact ⟨rfl, hb⟩
theorem ec_sel_lo {i i' : Int} (h0 : -(M : Int) ≤ i ∧ i ≤ M) (h1 : -(M : Int) ≤ i' ∧ i' ≤ M) :
    (if ec (es i') (ex i') (es i) (ex i) < 0 then es i' else es i) = es (min i i') ∧ (if ec (es i') (ex i') (es i) (ex i) < 0 then ex i' else ex i) = ex (min i i') := by
  have := ec_idx h1.1 h1.2 h0.1 h0.2
  unfold SameSign at this
  by_cases h : i' < i
  · rw [if_pos (by omega), if_pos (by omega), show min i i' = i' from by omega]; exact ⟨rfl, rfl⟩
  · rw [if_neg (by omega), if_neg (by omega), show min i i' = i from by omega]; exact ⟨rfl, rfl⟩
theorem ec_sel_hi {i i' : Int} (h0 : -(M : Int) ≤ i ∧ i ≤ M) (h1 : -(M : Int) ≤ i' ∧ i' ≤ M) :
    (if 0 < ec (es i') (ex i') (es i) (ex i) then es i' else es i) = es (max i i') ∧ (if 0 < ec (es i') (ex i') (es i) (ex i) then ex i' else ex i) = ex (max i i') := by
  have := ec_idx h1.1 h1.2 h0.1 h0.2
  unfold SameSign at this
  by_cases h : i < i'
  · rw [if_pos (by omega), if_pos (by omega), show max i i' = i' from by omega]; exact ⟨rfl, rfl⟩
  · rw [if_neg (by omega), if_neg (by omega), show max i i' = i from by omega]; exact ⟨rfl, rfl⟩
theorem hull_idx (u v : Value) (i j i' j' : Int) (w : World) (h : SetOf w u i j) (h' : SetOf w v i' j') :
    Calls Tryz.prog 146 #[u, v] w fun e w' => ∃ t, e = .returned t ∧ SetOf w' t (hl i j i' j').1 (hl i j i' j').2 ∧ Below w.heap.size w w' := by
  have hM : M = 9218868437227405312 := rfl
  rcases h with ⟨rfl, rfl, s1, x1, t1, y1, g, A, n, c, B, m, d, g2, A2, n2, c2, B2, m2, d2, rfl, h4, h5⟩ | ⟨h1, g, A, n, c, B, m, d, g2, A2, n2, c2, B2, m2, d2, rfl, h4, h5⟩
  · have hh : hl M (-(M : Int)) i' j' = (i', j') := by unfold hl; rw [if_pos (by omega)]
    rw [hh]
    rcases h' with ⟨rfl, rfl, s3, x3, t3, y3, g', A', n', c', B', m', d', g4, A4, n4, c4, B4, m4, d4, rfl, h6, h7⟩ | ⟨h1', g', A', n', c', B', m', d', g4, A4, n4, c4, B4, m4, d4, rfl, h6, h7⟩
    · refine (hull_left 34 true s1 g A n c B m d x1 t1 g2 A2 n2 c2 B2 m2 d2 y1 s3 g' A' n' c' B' m' d' x3 t3 g4 A4 n4 c4 B4 m4 d4 y3 w h4 h5 h6 h7).mono ?_
      rintro e w' ⟨g5, A5, n5, c5, B5, m5, d5, g6, A6, n6, c6, B6, m6, d6, rfl, q1, q2, hb⟩
      exact ⟨_, rfl, .inl ⟨rfl, rfl, _, _, _, _, _, _, _, _, _, _, _, _, _, _, _, _, _, _, rfl, q1, q2⟩, hb⟩
    · refine (hull_left 34 false s1 g A n c B m d x1 t1 g2 A2 n2 c2 B2 m2 d2 y1 _ g' A' n' c' B' m' d' _ _ g4 A4 n4 c4 B4 m4 d4 _ w h4 h5 h6 h7).mono ?_
      rintro e w' ⟨g5, A5, n5, c5, B5, m5, d5, g6, A6, n6, c6, B6, m6, d6, rfl, q1, q2, hb⟩
      exact ⟨_, rfl, .inr ⟨h1', _, _, _, _, _, _, _, _, _, _, _, _, _, _, rfl, q1, q2⟩, hb⟩
  · rcases h' with ⟨rfl, rfl, s3, x3, t3, y3, g', A', n', c', B', m', d', g4, A4, n4, c4, B4, m4, d4, rfl, h6, h7⟩ | ⟨h1', g', A', n', c', B', m', d', g4, A4, n4, c4, B4, m4, d4, rfl, h6, h7⟩
    · have hh : hl i j M (-(M : Int)) = (i, j) := by unfold hl; rw [if_neg (by omega), if_pos (by omega)]
      rw [hh]
      refine (hull_right 34 _ g A n c B m d _ _ g2 A2 n2 c2 B2 m2 d2 _ s3 g' A' n' c' B' m' d' x3 t3 g4 A4 n4 c4 B4 m4 d4 y3 w h4 h5 h6 h7).mono ?_
      rintro e w' ⟨g5, A5, n5, c5, B5, m5, d5, g6, A6, n6, c6, B6, m6, d6, rfl, q1, q2, hb⟩
      exact ⟨_, rfl, .inr ⟨h1, _, _, _, _, _, _, _, _, _, _, _, _, _, _, rfl, q1, q2⟩, hb⟩
    · have hh : hl i j i' j' = (min i i', max j j') := by unfold hl; rw [if_neg (by omega), if_neg (by omega)]
      rw [hh]
      have e1 := ec_sel_lo (i := i) (i' := i') (by omega) (by omega)
      have e2 := ec_sel_hi (i := j) (i' := j') (by omega) (by omega)
      have := hull_both 34 (es i) g A n c B m d (ex i) (es j) g2 A2 n2 c2 B2 m2 d2 (ex j) (es i') g' A' n' c' B' m' d' (ex i') (es j') g4 A4 n4 c4 B4 m4 d4 (ex j') w h4 h5 h6 h7 (by omega)
      rw [e1.1, e1.2, e2.1, e2.2] at this
      refine this.mono ?_
      rintro e w' ⟨g5, A5, n5, c5, B5, m5, d5, g6, A6, n6, c6, B6, m6, d6, rfl, q1, q2, hb⟩
      exact ⟨_, rfl, .inr ⟨by dsimp only; omega, _, _, _, _, _, _, _, _, _, _, _, _, _, _, rfl, q1, q2⟩, hb⟩
end Go.Proofs.YthlmlmfebpjgdaaGreatDoor
