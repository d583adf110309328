/-
Walks: package vergeref2, RMul, RQuo; package vergeref6, Sign; package vergeref10, ratio.
Walks: package vergeref10, power (of exponent one).
-/
import Derived.Test.YtmjkmoahkanblaaGreatM03
import Derived.Test.YtmjkmoahkanblaaGreatM06
import Derived.Test.YtmjkmoahkanblaaGreatM16
import Derived.Test.YtmjkmoahkanblaaGreatM09
import Derived.Test.YtmjkmoahkanblaaGreatM02
import Derived.Deep.DeepCutAuto
set_option linter.unusedSimpArgs false
set_option linter.unusedVariables false

namespace Go.Proofs.YtmjkmoahkanblaaGreat
open Go.RowKit

theorem times_q (A B : Option Addr) (n c m d a b : Nat) (w : World) (hx : U32s w A n c (digs a)) (hy : U32s w B m d (digs b)) (hs1 : n ≤ 8589934592) (hs2 : m ≤ 8589934592) :
    Calls Tryz.prog 143 #[.slice A n c, .slice B m d] w (NewU32 w (digs (a * b))) := by
  have h := times_any A B n c m d _ _ w hx hy hs1 hs2
  rw [num_digs, num_digs] at h; exact h
theorem pow_mm {K : Nat} (a b : Nat) (ha : a < 2^(32 * K)) (hb : b < 2^(32 * K)) : a * b < 2^(32 * (2 * K)) := by
  have h : 2^(32 * (2 * K)) = 2^(32 * K) * 2^(32 * K) := by rw [← Nat.pow_add]; congr 1; omega
  rw [h]
  exact Nat.mul_lt_mul'' ha hb
theorem rv_mul (g1 g2 : Bool) (p1 q1 p2 q2 : Nat) : rv g1 p1 q1 * rv g2 p2 q2 = rv (g1 != g2) (p1 * p2) (q1 * q2) := by
  unfold rv
  cases g1 <;> cases g2 <;> simp [Rat.div_def, Rat.natCast_mul, Rat.inv_mul_rev] <;> grind
theorem rv_ne (g : Bool) {p q : Nat} (hp : 0 < p) (hq : 0 < q) : rv g p q ≠ 0 := by
  have h1 := mt (rv_le_false (p := p) (p' := 0) hq (q' := 1) (by omega)).1 (by omega)
  rw [rv_zero] at h1
  cases g
  · grind
  · rw [rv_true]; grind
theorem rv_quo (g1 g2 : Bool) (p1 q1 p2 q2 : Nat) (h1 : 0 < q1) (h2 : 0 < q2) (h3 : 0 < p2) : rv g1 p1 q1 / rv g2 p2 q2 = rv (g1 != g2) (p1 * q2) (q1 * p2) := by
  refine div_eq (rv_ne g2 h3 h2) ?_
  rw [rv_mul, show ((g1 != g2) != g2) = g1 from by cases g1 <;> cases g2 <;> rfl]
  exact rv_eq h1 (Nat.mul_pos (Nat.mul_pos h1 h3) h2) (by ac_rfl)

set_option maxHeartbeats 3200000 in
theorem rquo_walk (K : Nat) (g1 g2 : Bool) (p1 q1 p2 q2 : Nat) (A1 : Option Addr) (n1 c1 : Nat) (B1 : Option Addr) (m1 d1 : Nat) (A2 : Option Addr) (n2 c2 : Nat) (B2 : Option Addr) (m2 d2 : Nat) (w : World) (u1 : U32s w A1 n1 c1 (digs p1)) (v1 : U32s w B1 m1 d1 (digs q1)) (u2 : U32s w A2 n2 c2 (digs p2)) (v2 : U32s w B2 m2 d2 (digs q2)) (l1 : n1 ≤ 8589934592) (l2 : m1 ≤ 8589934592) (l3 : n2 ≤ 8589934592) (l4 : m2 ≤ 8589934592) (hD : 0 < q1 * p2) (k1 : p1 * q2 < 2^(32 * K)) (k2 : q1 * p2 < 2^(32 * K)) (hK : 1 ≤ K) (hK2 : K ≤ 1073741824) :
    Calls Tryz.prog 209 #[.agg #[.bool g1, .slice A1 n1 c1, .slice B1 m1 d1], .agg #[.bool g2, .slice A2 n2 c2, .slice B2 m2 d2]] w (NewRat w K (rv (g1 != g2) (p1 * q2) (q1 * p2))) := by
  have T1 := Lib.hid fun W (hW : Below w.heap.size w W) => times_q A1 B2 n1 c1 m2 d2 p1 q2 W (u1.below hW) (v2.below hW) l1 l4
  have T2 := Lib.hid fun W (hW : Below w.heap.size w W) => times_q B1 A2 m1 d1 n2 c2 q1 p2 W (v1.below hW) (u2.below hW) l2 l3
  obtain ⟨X, eX⟩ : ∃ x, p1 * q2 = x := ⟨_, rfl⟩
  obtain ⟨D, eD⟩ : ∃ x, q1 * p2 = x := ⟨_, rfl⟩
  rw [eX] at T1 k1 ⊢
  rw [eD] at T2 k2 hD ⊢
  have T3 := Lib.hid fun g W (A : Option Addr) (n c : Nat) (B : Option Addr) (m d : Nat) (hx : U32s W A n c (digs X)) (hy : U32s W B m d (digs D)) => frac_plain g A B n c m d K X D W hx hy hD k1 k2 hK hK2
  clear u1 v1 u2 v2 l1 l2 l3 l4 hD k1 k2 hK hK2 eX eD
  obtain ⟨LB0, LG0_0, LG1_0, LR⟩ := bx3 w #[.bool g1, .slice A1 n1 c1, .slice B1 m1 d1] 60 #[.bool g2, .slice A2 n2 c2, .slice B2 m2 d2] 60 #[.bool false, .slice none 0 0, .slice none 0 0] 60
  have LR0 := Lib.hid (HasBlk.of (n := 3) LR.out rfl rfl)
  clear LR
  go_enter Tryz.func209, Tryz.ntmps209
  go_wp2_with fail
  refine wp_region_held_drew (S := fun W' => Blk W' w.heap.size 60 #[.bool g1, .slice A1 n1 c1, .slice B1 m1 d1] ∧ Blk W' (w.heap.size + 1) 60 #[.bool g2, .slice A2 n2 c2, .slice B2 m2 d2] ∧ HasBlk W' (w.heap.size + 2) 60 3 ∧ Below w.heap.size w W') (by kernel_rfl) (by exact ⟨LG0_0.out.drew, LG1_0.out.drew, LR0.out.drew, LB0.out.drew⟩) (fun hHeld => ?_)
  refine tk 0 ?_
  try simp only [Act.put, lay]
  refine tk 1 ?_ (hv := by intro W2 hSw; obtain ⟨q0, q1, q2⟩ := hSw.1.c3; go_simp; (try with_reducible rfl))
  try simp only [Act.put, lay]
  refine tk 2 ?_
  try simp only [Act.put, lay]
  refine tk 3 ?_ (hv := by intro W2 hSw; obtain ⟨q0, q1, q2⟩ := hSw.2.1.c3; go_simp; (try with_reducible rfl))
  try simp only [Act.put, lay]
  refine tk 4 ?_
  try simp only [Act.put, lay]
  refine tk 5 ?_
  try simp only [Act.put, lay]
  refine tk 6 ?_ (hv := by intro W2 hSw; obtain ⟨q0, q1, q2⟩ := hSw.1.c3; go_simp; (try with_reducible rfl))
  try simp only [Act.put, lay]
  refine tk 7 ?_
  try simp only [Act.put, lay]
  refine tk 8 ?_ (hv := by intro W2 hSw; obtain ⟨q0, q1, q2⟩ := hSw.2.1.c3; go_simp; (try with_reducible rfl))
  try simp only [Act.put, lay]
  refine tk 10 ?_
  try simp only [Act.put, lay]
  refine tk 11 ?_ (hv := by intro W2 hSw; obtain ⟨q0, q1, q2⟩ := hSw.1.c3; go_simp; (try with_reducible rfl))
  try simp only [Act.put, lay]
  refine tk 12 ?_
  try simp only [Act.put, lay]
  refine tk 13 ?_ (hv := by intro W2 hSw; obtain ⟨q0, q1, q2⟩ := hSw.2.1.c3; go_simp; (try with_reducible rfl))
  try simp only [Act.put, lay]
  refine rdy 9 (fun KK hKK => ?_)
  go_simp
  refine (T1.out _ hHeld.2.2.2).mono ?_
  rintro e w1 ⟨AX, nX, cX, rfl, hX, hbA⟩
  go_wp2_with fail
  refine hKK.out _ _ (⟨hHeld.1.keep hbA, hHeld.2.1.keep hbA, hHeld.2.2.1.keep hbA, hHeld.2.2.2.trans (hbA.mono hHeld.2.2.2.size)⟩) (fun _ => ?_)
  clear hKK KK hHeld; rename_i hHeld
  try simp only [Act.put, lay]
  refine rdy 14 (fun KK hKK => ?_)
  go_simp
  refine (T2.out _ hHeld.2.2.2).mono ?_
  rintro e w2 ⟨AY, nY, cY, rfl, hY, hbB⟩
  go_wp2_with fail
  refine hKK.out _ _ (⟨hHeld.1.keep hbB, hHeld.2.1.keep hbB, hHeld.2.2.1.keep hbB, hHeld.2.2.2.trans (hbB.mono hHeld.2.2.2.size)⟩) (fun _ => ?_)
  clear hKK KK hHeld; rename_i hHeld
  try simp only [Act.put, lay]
  refine rdy 15 (fun KK hKK => ?_)
  go_simp
  refine (T3.out _ _ _ _ _ _ _ _ (hX.below hbB) hY).mono ?_
  rintro e w3 ⟨gz, vn, vd, rfl, hR, hbC⟩; obtain ⟨AZ, nZ, cZ, BZ, mZ, dZ, rfl, rfl⟩ := hR.shape
  go_wp2_with fail
  refine hKK.out _ _ (⟨hHeld.1.keep hbC, hHeld.2.1.keep hbC, hHeld.2.2.1.keep hbC, hHeld.2.2.2.trans (hbC.mono hHeld.2.2.2.size)⟩) (fun _ => ?_)
  clear hKK KK hHeld; rename_i hHeld
  try simp only [Act.put, lay]
  refine rdy 16 (fun KK hKK => ?_)
  have ha0 := hHeld.2.2.1.someCell 0 (by decide); have hf0 := hHeld.2.2.1.frozen 0; have ha1 := hHeld.2.2.1.someCell 1 (by decide); have hf1 := hHeld.2.2.1.frozen 1; have ha2 := hHeld.2.2.1.someCell 2 (by decide); have hf2 := hHeld.2.2.1.frozen 2; have HK := Lib.hid (hHeld.2.2.1.setCell [.bool gz, .slice AZ nZ cZ, .slice BZ mZ dZ] rfl); have F := Lib.hid (below_sets (w0 := w) (r := (w.heap.size + 2)) (by omega) [.bool gz, .slice AZ nZ cZ, .slice BZ mZ dZ] 0 _ hHeld.2.2.2); have FR := Lib.hid (hHeld.2.2.1.rat hR [.bool gz, .slice AZ nZ cZ, .slice BZ mZ dZ])
  go_simp
  refine hKK.out _ _ (⟨hHeld.1.other (by omega) 0 [.bool gz, .slice AZ nZ cZ, .slice BZ mZ dZ], hHeld.2.1.other (by omega) 0 [.bool gz, .slice AZ nZ cZ, .slice BZ mZ dZ], hHeld.2.2.1.sets [.bool gz, .slice AZ nZ cZ, .slice BZ mZ dZ] rfl rfl, below_sets (by omega) [.bool gz, .slice AZ nZ cZ, .slice BZ mZ dZ] 0 _ hHeld.2.2.2⟩) (fun _ => ?_)
  clear hKK KK hHeld; rename_i hHeld
  try simp only [Act.put, lay]
  refine wpAnyH_done (by kernel_rfl) ?_ _
  have hk0 := HK.out 0 (by decide)
  have hk1 := HK.out 1 (by decide)
  have hk2 := HK.out 2 (by decide)
  simp [sets] at hk0 hk1 hk2
  clear hHeld HK hX hbA hY hbB hR hbC
  clear LB0 LR0 LG0_0 LG1_0
  go_wp2
  refine bodyPost_ret (v := .agg #[.bool gz, .slice AZ nZ cZ, .slice BZ mZ dZ]) (by simp [results, Tryz.results209, go_sem, hk0, hk1, hk2]) rfl ?_
  exact ⟨_, _, _, rfl, FR.out, F.out⟩

theorem rquo_v (K : Nat) (g1 : Bool) (vn1 vd1 : Value) (x1 : Rat) (g2 : Bool) (vn2 vd2 : Value) (x2 : Rat) (w : World) (h1 : RatV w K g1 vn1 vd1 x1) (h2 : RatV w K g2 vn2 vd2 x2) (hK0 : 1 ≤ K) (hK : K ≤ 1048576) (hx : x2 ≠ 0) :
    Calls Tryz.prog 209 #[.agg #[.bool g1, vn1, vd1], .agg #[.bool g2, vn2, vd2]] w (NewRat w (2 * K) (x1 / x2)) := by
  obtain ⟨p1, q1, A1, n1, c1, B1, m1, d1, rfl, rfl, u1, v1, hq1, -, k1, k2, rfl⟩ := h1
  obtain ⟨p2, q2, A2, n2, c2, B2, m2, d2, rfl, rfl, u2, v2, hq2, -, k3, k4, rfl⟩ := h2
  have l1 := u1.len_le k1
  have l2 := v1.len_le k2
  have l3 := u2.len_le k3
  have l4 := v2.len_le k4
  have hp2 : 0 < p2 := by
    rcases Nat.eq_zero_or_pos p2 with h | h
    · exact absurd (by rw [h, rv_zero]) hx
    · exact h
  rw [rv_quo _ _ _ _ _ _ hq1 hq2 hp2]
  exact rquo_walk (2 * K) g1 g2 p1 q1 p2 q2 A1 n1 c1 B1 m1 d1 A2 n2 c2 B2 m2 d2 w u1 v1 u2 v2 (by omega) (by omega) (by omega) (by omega) (Nat.mul_pos hq1 hp2) (pow_mm _ _ k1 k4) (pow_mm _ _ k2 k3) (by omega) (by omega)

set_option maxHeartbeats 1600000 in
theorem sign6_any (K : Nat) (s1 : Int) (g1 : Bool) (A1 : Option Addr) (n1 c1 : Nat) (B1 : Option Addr) (m1 d1 : Nat) (x1 : Rat) (w : World) (h1 : RatV w K g1 (.slice A1 n1 c1) (.slice B1 m1 d1) x1) (hK : K ≤ 1073741824) :
    Calls Tryz.prog 86 #[.agg #[.int .i64 s1, .bool g1, .slice A1 n1 c1, .slice B1 m1 d1]] w fun e w' => e = .returned (.int .i64 (esx s1 x1)) ∧ Below w.heap.size w w' := by
  have HS := Lib.hid fun W (hW : Below w.heap.size w W) => rsign_any K g1 (.slice A1 n1 c1) (.slice B1 m1 d1) x1 W (h1.below hW) hK
  unfold esx
  clear h1 hK
  obtain ⟨LB0, LG0_0⟩ := bx1 w #[.int .i64 s1, .bool g1, .slice A1 n1 c1, .slice B1 m1 d1] 67
  by_cases hs : s1 = 0
  · subst hs
    simp only [ne_eq, not_true_eq_false, if_false]
    obtain ⟨r, hr⟩ : ∃ r, rsg x1 = r := ⟨_, rfl⟩
    rw [hr] at HS ⊢
    clear hr
    go_enter Tryz.func86, Tryz.ntmps86
    obtain ⟨q0_0, q0_1, q0_2, q0_3⟩ := LG0_0.out.c4
    go_wp2_with fail
    refine (HS.out _ LB0.out).mono ?_
    rintro e w1 ⟨rfl, hb1⟩
    have F := Lib.hid (LB0.out.trans (hb1.mono LB0.out.size))
    clear hb1
    go_wp2
    go_ret
    exact ⟨rfl, F.out⟩
  · rw [if_pos hs]
    have hz : (s1 == 0) = false := by simpa using hs
    have hz2 : (s1 != 0) = true := by simp [hs]
    clear hs HS
    have F := Lib.hid LB0.out
    go_enter Tryz.func86, Tryz.ntmps86
    obtain ⟨q0_0, q0_1, q0_2, q0_3⟩ := LG0_0.out.c4
    go_wp2
    go_ret
    exact ⟨rfl, F.out⟩

set_option maxHeartbeats 3200000 in
theorem ratio_nought (K : Nat) (s1 : Int) (g1 : Bool) (A1 : Option Addr) (n1 c1 : Nat) (B1 : Option Addr) (m1 d1 : Nat) (x1 : Rat) (s2 : Int) (g2 : Bool) (A2 : Option Addr) (n2 c2 : Nat) (B2 : Option Addr) (m2 d2 : Nat) (x2 : Rat) (w : World) (h1 : RatV w K g1 (.slice A1 n1 c1) (.slice B1 m1 d1) x1) (h2 : RatV w K g2 (.slice A2 n2 c2) (.slice B2 m2 d2) x2) (hK0 : 1 ≤ K) (hK : K ≤ 1048576) (hs : esx s1 x1 = 0) :
    Calls Tryz.prog 147 #[.agg #[.int .i64 s1, .bool g1, .slice A1 n1 c1, .slice B1 m1 d1], .agg #[.int .i64 s2, .bool g2, .slice A2 n2 c2, .slice B2 m2 d2]] w (NewBd w 1 0 0 1 false) := by
  have HS := Lib.hid fun W (hW : Below w.heap.size w W) => sign6_any K s1 g1 A1 n1 c1 B1 m1 d1 x1 W (h1.below hW) (by omega)
  rw [hs] at HS
  have HW := Lib.hid fun W => whole_nat 0 false W (by omega)
  clear h1 h2 hs hK0 hK
  obtain ⟨LB0, LG0_0, LG1_0, LR⟩ := bx3 w #[.int .i64 s1, .bool g1, .slice A1 n1 c1, .slice B1 m1 d1] 67 #[.int .i64 s2, .bool g2, .slice A2 n2 c2, .slice B2 m2 d2] 67 #[.int .i64 0, .bool false, .slice none 0 0, .slice none 0 0, .int .i64 0, .bool false] 62
  have LR0 := Lib.hid (HasBlk.of (n := 6) LR.out rfl rfl)
  clear LR
  go_enter Tryz.func147, Tryz.ntmps147
  obtain ⟨q0_0, q0_1, q0_2, q0_3⟩ := LG0_0.out.c4
  go_wp2_with fail
  refine (HS.out _ LB0.out).mono ?_
  rintro e w1 ⟨rfl, hb1⟩
  have LB1 := stB LB0 hb1 LB0.out.size
  have LR1 := stR LR0 hb1
  have LG0_1 := stG LG0_0 hb1
  have LG1_1 := stG LG1_0 hb1
  clear LB0 LR0 LG0_0 LG1_0
  clear hb1 HS q0_0 q0_1 q0_2 q0_3
  go_wp2_with fail
  refine (HW.out _).mono ?_
  rintro e w2 ⟨gz, AZ, nZ, cZ, BZ, mZ, dZ, rfl, hR, hb2⟩
  have LB2 := stB LB1 hb2 LB1.out.size
  have LR2 := stR LR1 hb2
  have LG0_2 := stG LG0_1 hb2
  have LG1_2 := stG LG1_1 hb2
  clear LB1 LR1 LG0_1 LG1_1
  clear HW
  have FR := Lib.hid (LR2.out.rat hR [.int .i64 0, .bool gz, .slice AZ nZ cZ, .slice BZ mZ dZ, .int .i64 1, .bool false])
  clear hR hb2
  obtain ⟨ha0, hf0, ha1, hf1, ha2, hf2, ha3, hf3, ha4, hf4, ha5, hf5⟩ := LR2.out.sf6
  have HKK := Lib.hid (LR2.out.setCell [.int .i64 0, .bool gz, .slice AZ nZ cZ, .slice BZ mZ dZ, .int .i64 1, .bool false] rfl)
  have hk0 := HKK.out 0 (by decide)
  have hk1 := HKK.out 1 (by decide)
  have hk2 := HKK.out 2 (by decide)
  have hk3 := HKK.out 3 (by decide)
  have hk4 := HKK.out 4 (by decide)
  have hk5 := HKK.out 5 (by decide)
  clear HKK
  have F := Lib.hid (below_sets (w0 := w) (r := (w.heap.size + 2)) (by omega) [.int .i64 0, .bool gz, .slice AZ nZ cZ, .slice BZ mZ dZ, .int .i64 1, .bool false] 0 _ LB2.out)
  simp [sets] at hk0 hk1 hk2 hk3 hk4 hk5
  go_wp2
  refine bodyPost_ret (v := .agg #[.int .i64 0, .bool gz, .slice AZ nZ cZ, .slice BZ mZ dZ, .int .i64 1, .bool false]) (by simp [results, Tryz.results147, go_sem, hk0, hk1, hk2, hk3, hk4, hk5]) rfl ?_
  exact ⟨_, _, _, _, _, _, _, rfl, FR.out, F.out⟩

set_option maxHeartbeats 3200000 in
theorem ratio_inf (K : Nat) (s1 : Int) (g1 : Bool) (A1 : Option Addr) (n1 c1 : Nat) (B1 : Option Addr) (m1 d1 : Nat) (x1 : Rat) (s2 : Int) (g2 : Bool) (A2 : Option Addr) (n2 c2 : Nat) (B2 : Option Addr) (m2 d2 : Nat) (x2 : Rat) (w : World) (h1 : RatV w K g1 (.slice A1 n1 c1) (.slice B1 m1 d1) x1) (h2 : RatV w K g2 (.slice A2 n2 c2) (.slice B2 m2 d2) x2) (hK0 : 1 ≤ K) (hK : K ≤ 1048576) (hs : esx s1 x1 ≠ 0) (ht : s2 ≠ 0) :
    Calls Tryz.prog 147 #[.agg #[.int .i64 s1, .bool g1, .slice A1 n1 c1, .slice B1 m1 d1], .agg #[.int .i64 s2, .bool g2, .slice A2 n2 c2, .slice B2 m2 d2]] w (NewBd w 1 0 0 1 true) := by
  have HS := Lib.hid fun W (hW : Below w.heap.size w W) => sign6_any K s1 g1 A1 n1 c1 B1 m1 d1 x1 W (h1.below hW) (by omega)
  obtain ⟨sg, hsg⟩ : ∃ z, esx s1 x1 = z := ⟨_, rfl⟩
  rw [hsg] at HS hs
  have hz : (sg == 0) = false := by simpa using hs
  have HW := Lib.hid fun W => whole_nat 0 true W (by omega)
  have hz2 : (s2 == 0) = false := by simpa using ht
  have hz3 : (s2 != 0) = true := by simp [ht]
  clear h1 h2 hs hsg ht hK0 hK
  obtain ⟨LB0, LG0_0, LG1_0, LR⟩ := bx3 w #[.int .i64 s1, .bool g1, .slice A1 n1 c1, .slice B1 m1 d1] 67 #[.int .i64 s2, .bool g2, .slice A2 n2 c2, .slice B2 m2 d2] 67 #[.int .i64 0, .bool false, .slice none 0 0, .slice none 0 0, .int .i64 0, .bool false] 62
  have LR0 := Lib.hid (HasBlk.of (n := 6) LR.out rfl rfl)
  clear LR
  go_enter Tryz.func147, Tryz.ntmps147
  obtain ⟨q0_0, q0_1, q0_2, q0_3⟩ := LG0_0.out.c4
  go_wp2_with fail
  refine (HS.out _ LB0.out).mono ?_
  rintro e w1 ⟨rfl, hb1⟩
  have LB1 := stB LB0 hb1 LB0.out.size
  have LR1 := stR LR0 hb1
  have LG0_1 := stG LG0_0 hb1
  have LG1_1 := stG LG1_0 hb1
  clear LB0 LR0 LG0_0 LG1_0
  clear hb1 HS q0_0 q0_1 q0_2 q0_3
  obtain ⟨q1_0, q1_1, q1_2, q1_3⟩ := LG1_1.out.c4
  go_wp2_with fail
  refine (HW.out _).mono ?_
  rintro e w2 ⟨gz, AZ, nZ, cZ, BZ, mZ, dZ, rfl, hR, hb2⟩
  have LB2 := stB LB1 hb2 LB1.out.size
  have LR2 := stR LR1 hb2
  have LG0_2 := stG LG0_1 hb2
  have LG1_2 := stG LG1_1 hb2
  clear LB1 LR1 LG0_1 LG1_1
  clear HW q1_0 q1_1 q1_2 q1_3
  have FR := Lib.hid (LR2.out.rat hR [.int .i64 0, .bool gz, .slice AZ nZ cZ, .slice BZ mZ dZ, .int .i64 1, .bool true])
  clear hR hb2
  obtain ⟨ha0, hf0, ha1, hf1, ha2, hf2, ha3, hf3, ha4, hf4, ha5, hf5⟩ := LR2.out.sf6
  have HKK := Lib.hid (LR2.out.setCell [.int .i64 0, .bool gz, .slice AZ nZ cZ, .slice BZ mZ dZ, .int .i64 1, .bool true] rfl)
  have hk0 := HKK.out 0 (by decide)
  have hk1 := HKK.out 1 (by decide)
  have hk2 := HKK.out 2 (by decide)
  have hk3 := HKK.out 3 (by decide)
  have hk4 := HKK.out 4 (by decide)
  have hk5 := HKK.out 5 (by decide)
  clear HKK
  have F := Lib.hid (below_sets (w0 := w) (r := (w.heap.size + 2)) (by omega) [.int .i64 0, .bool gz, .slice AZ nZ cZ, .slice BZ mZ dZ, .int .i64 1, .bool true] 0 _ LB2.out)
  simp [sets] at hk0 hk1 hk2 hk3 hk4 hk5
  go_wp2
  refine bodyPost_ret (v := .agg #[.int .i64 0, .bool gz, .slice AZ nZ cZ, .slice BZ mZ dZ, .int .i64 1, .bool true]) (by simp [results, Tryz.results147, go_sem, hk0, hk1, hk2, hk3, hk4, hk5]) rfl ?_
  exact ⟨_, _, _, _, _, _, _, rfl, FR.out, F.out⟩

set_option maxHeartbeats 3200000 in
theorem ratio_far (K : Nat) (s1 : Int) (g1 : Bool) (A1 : Option Addr) (n1 c1 : Nat) (B1 : Option Addr) (m1 d1 : Nat) (x1 : Rat) (s2 : Int) (g2 : Bool) (A2 : Option Addr) (n2 c2 : Nat) (B2 : Option Addr) (m2 d2 : Nat) (x2 : Rat) (w : World) (h1 : RatV w K g1 (.slice A1 n1 c1) (.slice B1 m1 d1) x1) (h2 : RatV w K g2 (.slice A2 n2 c2) (.slice B2 m2 d2) x2) (hK0 : 1 ≤ K) (hK : K ≤ 1048576) (hs : esx s1 x1 ≠ 0) (h0 : s2 = 0) (ht : s1 ≠ 0) :
    Calls Tryz.prog 147 #[.agg #[.int .i64 s1, .bool g1, .slice A1 n1 c1, .slice B1 m1 d1], .agg #[.int .i64 s2, .bool g2, .slice A2 n2 c2, .slice B2 m2 d2]] w (NewBd w 1 (esx s1 x1) 0 1 true) := by
  have HS := Lib.hid fun W (hW : Below w.heap.size w W) => sign6_any K s1 g1 A1 n1 c1 B1 m1 d1 x1 W (h1.below hW) (by omega)
  obtain ⟨sg, hsg⟩ : ∃ z, esx s1 x1 = z := ⟨_, rfl⟩
  rw [hsg] at HS hs
  have hz : (sg == 0) = false := by simpa using hs
  have HW := Lib.hid fun W => far_any sg W
  have hz3 : (s1 == 0) = false := by simpa using ht
  have hz4 : (s1 != 0) = true := by simp [ht]
  rw [hsg]
  subst h0
  clear h1 h2 hs hsg ht hK0 hK
  obtain ⟨LB0, LG0_0, LG1_0, LR⟩ := bx3 w #[.int .i64 s1, .bool g1, .slice A1 n1 c1, .slice B1 m1 d1] 67 #[.int .i64 0, .bool g2, .slice A2 n2 c2, .slice B2 m2 d2] 67 #[.int .i64 0, .bool false, .slice none 0 0, .slice none 0 0, .int .i64 0, .bool false] 62
  have LR0 := Lib.hid (HasBlk.of (n := 6) LR.out rfl rfl)
  clear LR
  go_enter Tryz.func147, Tryz.ntmps147
  obtain ⟨q0_0, q0_1, q0_2, q0_3⟩ := LG0_0.out.c4
  go_wp2_with fail
  refine (HS.out _ LB0.out).mono ?_
  rintro e w1 ⟨rfl, hb1⟩
  have LB1 := stB LB0 hb1 LB0.out.size
  have LR1 := stR LR0 hb1
  have LG0_1 := stG LG0_0 hb1
  have LG1_1 := stG LG1_0 hb1
  clear LB0 LR0 LG0_0 LG1_0
  clear hb1 HS q0_0 q0_1 q0_2 q0_3
  obtain ⟨q0_0, q0_1, q0_2, q0_3⟩ := LG0_1.out.c4
  obtain ⟨q1_0, q1_1, q1_2, q1_3⟩ := LG1_1.out.c4
  go_wp2_with fail
  refine (HW.out _).mono ?_
  rintro e w2 ⟨gz, AZ, nZ, cZ, BZ, mZ, dZ, rfl, hR, hb2⟩
  have LB2 := stB LB1 hb2 LB1.out.size
  have LR2 := stR LR1 hb2
  have LG0_2 := stG LG0_1 hb2
  have LG1_2 := stG LG1_1 hb2
  clear LB1 LR1 LG0_1 LG1_1
  clear HW q0_0 q0_1 q0_2 q0_3 q1_0 q1_1 q1_2 q1_3
  have FR := Lib.hid (LR2.out.rat hR [.int .i64 sg, .bool gz, .slice AZ nZ cZ, .slice BZ mZ dZ, .int .i64 1, .bool true])
  clear hR hb2
  obtain ⟨ha0, hf0, ha1, hf1, ha2, hf2, ha3, hf3, ha4, hf4, ha5, hf5⟩ := LR2.out.sf6
  have HKK := Lib.hid (LR2.out.setCell [.int .i64 sg, .bool gz, .slice AZ nZ cZ, .slice BZ mZ dZ, .int .i64 1, .bool true] rfl)
  have hk0 := HKK.out 0 (by decide)
  have hk1 := HKK.out 1 (by decide)
  have hk2 := HKK.out 2 (by decide)
  have hk3 := HKK.out 3 (by decide)
  have hk4 := HKK.out 4 (by decide)
  have hk5 := HKK.out 5 (by decide)
  clear HKK
  have F := Lib.hid (below_sets (w0 := w) (r := (w.heap.size + 2)) (by omega) [.int .i64 sg, .bool gz, .slice AZ nZ cZ, .slice BZ mZ dZ, .int .i64 1, .bool true] 0 _ LB2.out)
  simp [sets] at hk0 hk1 hk2 hk3 hk4 hk5
  go_wp2
  refine bodyPost_ret (v := .agg #[.int .i64 sg, .bool gz, .slice AZ nZ cZ, .slice BZ mZ dZ, .int .i64 1, .bool true]) (by simp [results, Tryz.results147, go_sem, hk0, hk1, hk2, hk3, hk4, hk5]) rfl ?_
  exact ⟨_, _, _, _, _, _, _, rfl, FR.out, F.out⟩

set_option maxHeartbeats 3200000 in
theorem ratio_zero (K : Nat) (s1 : Int) (g1 : Bool) (A1 : Option Addr) (n1 c1 : Nat) (B1 : Option Addr) (m1 d1 : Nat) (x1 : Rat) (s2 : Int) (g2 : Bool) (A2 : Option Addr) (n2 c2 : Nat) (B2 : Option Addr) (m2 d2 : Nat) (x2 : Rat) (w : World) (h1 : RatV w K g1 (.slice A1 n1 c1) (.slice B1 m1 d1) x1) (h2 : RatV w K g2 (.slice A2 n2 c2) (.slice B2 m2 d2) x2) (hK0 : 1 ≤ K) (hK : K ≤ 1048576) (hs : esx s1 x1 ≠ 0) (h0 : s2 = 0) (ht : s1 = 0) (hx : x2 = 0) :
    Calls Tryz.prog 147 #[.agg #[.int .i64 s1, .bool g1, .slice A1 n1 c1, .slice B1 m1 d1], .agg #[.int .i64 s2, .bool g2, .slice A2 n2 c2, .slice B2 m2 d2]] w (NewBd w 1 (esx s1 x1) 0 1 true) := by
  have HS := Lib.hid fun W (hW : Below w.heap.size w W) => sign6_any K s1 g1 A1 n1 c1 B1 m1 d1 x1 W (h1.below hW) (by omega)
  obtain ⟨sg, hsg⟩ : ∃ z, esx s1 x1 = z := ⟨_, rfl⟩
  rw [hsg] at HS hs
  have hz : (sg == 0) = false := by simpa using hs
  have HT := Lib.hid fun W (hW : Below w.heap.size w W) => sign6_any K 0 g2 A2 n2 c2 B2 m2 d2 x2 W (h2.below hW) (by omega)
  rw [show esx 0 x2 = 0 from by rw [hx]; rfl] at HT
  have HW := Lib.hid fun W => far_any sg W
  rw [hsg]
  subst h0
  subst ht
  clear h1 h2 hs hsg hx hK0 hK
  obtain ⟨LB0, LG0_0, LG1_0, LR⟩ := bx3 w #[.int .i64 0, .bool g1, .slice A1 n1 c1, .slice B1 m1 d1] 67 #[.int .i64 0, .bool g2, .slice A2 n2 c2, .slice B2 m2 d2] 67 #[.int .i64 0, .bool false, .slice none 0 0, .slice none 0 0, .int .i64 0, .bool false] 62
  have LR0 := Lib.hid (HasBlk.of (n := 6) LR.out rfl rfl)
  clear LR
  go_enter Tryz.func147, Tryz.ntmps147
  obtain ⟨q0_0, q0_1, q0_2, q0_3⟩ := LG0_0.out.c4
  go_wp2_with fail
  refine (HS.out _ LB0.out).mono ?_
  rintro e w1 ⟨rfl, hb1⟩
  have LB1 := stB LB0 hb1 LB0.out.size
  have LR1 := stR LR0 hb1
  have LG0_1 := stG LG0_0 hb1
  have LG1_1 := stG LG1_0 hb1
  clear LB0 LR0 LG0_0 LG1_0
  clear hb1 HS q0_0 q0_1 q0_2 q0_3
  obtain ⟨q0_0, q0_1, q0_2, q0_3⟩ := LG0_1.out.c4
  obtain ⟨q1_0, q1_1, q1_2, q1_3⟩ := LG1_1.out.c4
  go_wp2_with fail
  refine (HT.out _ LB1.out).mono ?_
  rintro e w2 ⟨rfl, hb2⟩
  have LB2 := stB LB1 hb2 LB1.out.size
  have LR2 := stR LR1 hb2
  have LG0_2 := stG LG0_1 hb2
  have LG1_2 := stG LG1_1 hb2
  clear LB1 LR1 LG0_1 LG1_1
  clear hb2 HT q0_0 q0_1 q0_2 q0_3 q1_0 q1_1 q1_2 q1_3
  go_wp2_with fail
  refine (HW.out _).mono ?_
  rintro e w3 ⟨gz, AZ, nZ, cZ, BZ, mZ, dZ, rfl, hR, hb3⟩
  have LB3 := stB LB2 hb3 LB2.out.size
  have LR3 := stR LR2 hb3
  have LG0_3 := stG LG0_2 hb3
  have LG1_3 := stG LG1_2 hb3
  clear LB2 LR2 LG0_2 LG1_2
  clear HW
  have FR := Lib.hid (LR3.out.rat hR [.int .i64 sg, .bool gz, .slice AZ nZ cZ, .slice BZ mZ dZ, .int .i64 1, .bool true])
  clear hR hb3
  obtain ⟨ha0, hf0, ha1, hf1, ha2, hf2, ha3, hf3, ha4, hf4, ha5, hf5⟩ := LR3.out.sf6
  have HKK := Lib.hid (LR3.out.setCell [.int .i64 sg, .bool gz, .slice AZ nZ cZ, .slice BZ mZ dZ, .int .i64 1, .bool true] rfl)
  have hk0 := HKK.out 0 (by decide)
  have hk1 := HKK.out 1 (by decide)
  have hk2 := HKK.out 2 (by decide)
  have hk3 := HKK.out 3 (by decide)
  have hk4 := HKK.out 4 (by decide)
  have hk5 := HKK.out 5 (by decide)
  clear HKK
  have F := Lib.hid (below_sets (w0 := w) (r := (w.heap.size + 2)) (by omega) [.int .i64 sg, .bool gz, .slice AZ nZ cZ, .slice BZ mZ dZ, .int .i64 1, .bool true] 0 _ LB3.out)
  simp [sets] at hk0 hk1 hk2 hk3 hk4 hk5
  go_wp2
  refine bodyPost_ret (v := .agg #[.int .i64 sg, .bool gz, .slice AZ nZ cZ, .slice BZ mZ dZ, .int .i64 1, .bool true]) (by simp [results, Tryz.results147, go_sem, hk0, hk1, hk2, hk3, hk4, hk5]) rfl ?_
  exact ⟨_, _, _, _, _, _, _, rfl, FR.out, F.out⟩

set_option maxHeartbeats 3200000 in
theorem ratio_fin (K : Nat) (s1 : Int) (g1 : Bool) (A1 : Option Addr) (n1 c1 : Nat) (B1 : Option Addr) (m1 d1 : Nat) (x1 : Rat) (s2 : Int) (g2 : Bool) (A2 : Option Addr) (n2 c2 : Nat) (B2 : Option Addr) (m2 d2 : Nat) (x2 : Rat) (w : World) (h1 : RatV w K g1 (.slice A1 n1 c1) (.slice B1 m1 d1) x1) (h2 : RatV w K g2 (.slice A2 n2 c2) (.slice B2 m2 d2) x2) (hK0 : 1 ≤ K) (hK : K ≤ 1048576) (hs : esx s1 x1 ≠ 0) (h0 : s2 = 0) (ht : s1 = 0) (hx : x2 ≠ 0) :
    Calls Tryz.prog 147 #[.agg #[.int .i64 s1, .bool g1, .slice A1 n1 c1, .slice B1 m1 d1], .agg #[.int .i64 s2, .bool g2, .slice A2 n2 c2, .slice B2 m2 d2]] w (NewBd w (2 * K) 0 (x1 / x2) 1 false) := by
  have HS := Lib.hid fun W (hW : Below w.heap.size w W) => sign6_any K s1 g1 A1 n1 c1 B1 m1 d1 x1 W (h1.below hW) (by omega)
  obtain ⟨sg, hsg⟩ : ∃ z, esx s1 x1 = z := ⟨_, rfl⟩
  rw [hsg] at HS hs
  have hz : (sg == 0) = false := by simpa using hs
  have HT := Lib.hid fun W (hW : Below w.heap.size w W) => sign6_any K 0 g2 A2 n2 c2 B2 m2 d2 x2 W (h2.below hW) (by omega)
  obtain ⟨tg, htg⟩ : ∃ z, esx 0 x2 = z := ⟨_, rfl⟩
  rw [htg] at HT
  have hz5 : (tg == 0) = false := by
    rw [← htg]; unfold esx rsg
    rw [if_neg (by omega), if_neg hx]
    split <;> rfl
  have HW := Lib.hid fun W (hW : Below w.heap.size w W) => (rquo_v K g1 (.slice A1 n1 c1) (.slice B1 m1 d1) x1 g2 (.slice A2 n2 c2) (.slice B2 m2 d2) x2 W (h1.below hW) (h2.below hW) hK0 hK hx).mono fun _ _ h => h.s
  subst h0
  subst ht
  clear h1 h2 hs hsg hx htg hK0 hK
  obtain ⟨LB0, LG0_0, LG1_0, LR⟩ := bx3 w #[.int .i64 0, .bool g1, .slice A1 n1 c1, .slice B1 m1 d1] 67 #[.int .i64 0, .bool g2, .slice A2 n2 c2, .slice B2 m2 d2] 67 #[.int .i64 0, .bool false, .slice none 0 0, .slice none 0 0, .int .i64 0, .bool false] 62
  have LR0 := Lib.hid (HasBlk.of (n := 6) LR.out rfl rfl)
  clear LR
  go_enter Tryz.func147, Tryz.ntmps147
  obtain ⟨q0_0, q0_1, q0_2, q0_3⟩ := LG0_0.out.c4
  go_wp2_with fail
  refine (HS.out _ LB0.out).mono ?_
  rintro e w1 ⟨rfl, hb1⟩
  have LB1 := stB LB0 hb1 LB0.out.size
  have LR1 := stR LR0 hb1
  have LG0_1 := stG LG0_0 hb1
  have LG1_1 := stG LG1_0 hb1
  clear LB0 LR0 LG0_0 LG1_0
  clear hb1 HS q0_0 q0_1 q0_2 q0_3
  obtain ⟨q0_0, q0_1, q0_2, q0_3⟩ := LG0_1.out.c4
  obtain ⟨q1_0, q1_1, q1_2, q1_3⟩ := LG1_1.out.c4
  go_wp2_with fail
  refine (HT.out _ LB1.out).mono ?_
  rintro e w2 ⟨rfl, hb2⟩
  have LB2 := stB LB1 hb2 LB1.out.size
  have LR2 := stR LR1 hb2
  have LG0_2 := stG LG0_1 hb2
  have LG1_2 := stG LG1_1 hb2
  clear LB1 LR1 LG0_1 LG1_1
  clear hb2 HT q0_0 q0_1 q0_2 q0_3 q1_0 q1_1 q1_2 q1_3
  obtain ⟨q0_0, q0_1, q0_2, q0_3⟩ := LG0_2.out.c4
  obtain ⟨q1_0, q1_1, q1_2, q1_3⟩ := LG1_2.out.c4
  go_wp2_with fail
  refine (HW.out _ LB2.out).mono ?_
  rintro e w3 ⟨gz, AZ, nZ, cZ, BZ, mZ, dZ, rfl, hR, hb3⟩
  have LB3 := stB LB2 hb3 LB2.out.size
  have LR3 := stR LR2 hb3
  have LG0_3 := stG LG0_2 hb3
  have LG1_3 := stG LG1_2 hb3
  clear LB2 LR2 LG0_2 LG1_2
  clear HW q0_0 q0_1 q0_2 q0_3 q1_0 q1_1 q1_2 q1_3
  have FR := Lib.hid (LR3.out.rat hR [.int .i64 0, .bool gz, .slice AZ nZ cZ, .slice BZ mZ dZ, .int .i64 1, .bool false])
  clear hR hb3
  obtain ⟨ha0, hf0, ha1, hf1, ha2, hf2, ha3, hf3, ha4, hf4, ha5, hf5⟩ := LR3.out.sf6
  have HKK := Lib.hid (LR3.out.setCell [.int .i64 0, .bool gz, .slice AZ nZ cZ, .slice BZ mZ dZ, .int .i64 1, .bool false] rfl)
  have hk0 := HKK.out 0 (by decide)
  have hk1 := HKK.out 1 (by decide)
  have hk2 := HKK.out 2 (by decide)
  have hk3 := HKK.out 3 (by decide)
  have hk4 := HKK.out 4 (by decide)
  have hk5 := HKK.out 5 (by decide)
  clear HKK
  have F := Lib.hid (below_sets (w0 := w) (r := (w.heap.size + 2)) (by omega) [.int .i64 0, .bool gz, .slice AZ nZ cZ, .slice BZ mZ dZ, .int .i64 1, .bool false] 0 _ LB3.out)
  simp [sets] at hk0 hk1 hk2 hk3 hk4 hk5
  go_wp2
  refine bodyPost_ret (v := .agg #[.int .i64 0, .bool gz, .slice AZ nZ cZ, .slice BZ mZ dZ, .int .i64 1, .bool false]) (by simp [results, Tryz.results147, go_sem, hk0, hk1, hk2, hk3, hk4, hk5]) rfl ?_
  exact ⟨_, _, _, _, _, _, _, rfl, FR.out, F.out⟩

theorem NewBd.up {w w' : World} {K K' : Nat} {s : Int} {x : Rat} {N : Int} {o : Bool} {e : Ending} (h : NewBd w K s x N o e w') (hk : K ≤ K') : NewBd w K' s x N o e w' := by
  obtain ⟨g, A, n, c, B, m, d, rfl, hr, hb⟩ := h
  exact ⟨g, A, n, c, B, m, d, rfl, hr.mono hk, hb⟩
/-- The ratio of two ends, as a bound: its infinity, its value, whether it is open. -/
def rt (s1 : Int) (x1 : Rat) (s2 : Int) (x2 : Rat) : Int × Rat × Bool :=
  if esx s1 x1 = 0 then (0, 0, false) else if s2 ≠ 0 then (0, 0, true) else if s1 ≠ 0 ∨ x2 = 0 then (esx s1 x1, 0, true) else (0, x1 / x2, false)
theorem ratio_gen (K : Nat) (s1 : Int) (g1 : Bool) (A1 : Option Addr) (n1 c1 : Nat) (B1 : Option Addr) (m1 d1 : Nat) (x1 : Rat) (s2 : Int) (g2 : Bool) (A2 : Option Addr) (n2 c2 : Nat) (B2 : Option Addr) (m2 d2 : Nat) (x2 : Rat) (w : World) (h1 : RatV w K g1 (.slice A1 n1 c1) (.slice B1 m1 d1) x1) (h2 : RatV w K g2 (.slice A2 n2 c2) (.slice B2 m2 d2) x2) (hK0 : 1 ≤ K) (hK : K ≤ 1048576) :
    Calls Tryz.prog 147 #[.agg #[.int .i64 s1, .bool g1, .slice A1 n1 c1, .slice B1 m1 d1], .agg #[.int .i64 s2, .bool g2, .slice A2 n2 c2, .slice B2 m2 d2]] w (NewBd w (2 * K) (rt s1 x1 s2 x2).1 (rt s1 x1 s2 x2).2.1 1 (rt s1 x1 s2 x2).2.2) := by
  unfold rt
  by_cases hs : esx s1 x1 = 0
  · rw [if_pos hs]
    exact (ratio_nought K s1 g1 A1 n1 c1 B1 m1 d1 x1 s2 g2 A2 n2 c2 B2 m2 d2 x2 w h1 h2 hK0 hK hs).mono fun _ _ h => h.up (by omega)
  · rw [if_neg hs]
    by_cases ht : s2 = 0
    · rw [if_neg (by simpa using ht)]
      by_cases h3 : s1 = 0
      · by_cases hx : x2 = 0
        · rw [if_pos (.inr hx)]
          exact (ratio_zero K s1 g1 A1 n1 c1 B1 m1 d1 x1 s2 g2 A2 n2 c2 B2 m2 d2 x2 w h1 h2 hK0 hK hs ht h3 hx).mono fun _ _ h => h.up (by omega)
        · rw [if_neg (by rintro (h | h); exact h h3; exact hx h)]
          exact ratio_fin K s1 g1 A1 n1 c1 B1 m1 d1 x1 s2 g2 A2 n2 c2 B2 m2 d2 x2 w h1 h2 hK0 hK hs ht h3 hx
      · rw [if_pos (.inl h3)]
        exact (ratio_far K s1 g1 A1 n1 c1 B1 m1 d1 x1 s2 g2 A2 n2 c2 B2 m2 d2 x2 w h1 h2 hK0 hK hs ht h3).mono fun _ _ h => h.up (by omega)
    · rw [if_pos ht]
      exact (ratio_inf K s1 g1 A1 n1 c1 B1 m1 d1 x1 s2 g2 A2 n2 c2 B2 m2 d2 x2 w h1 h2 hK0 hK hs ht).mono fun _ _ h => h.up (by omega)

end Go.Proofs.YtmjkmoahkanblaaGreat

namespace Go.Proofs.YtmjkmoahkanblaaGreat
open Go.RowKit

theorem rc_false {p q p' q' : Nat} (hq : 0 < q) (hq' : 0 < q') : rc (rv false p q) (rv false p' q') = cmp3 (p * q') (p' * q) := by
  have h1 := rv_lt_false (p := p) (p' := p') hq hq'
  have h2 := rv_lt_false (p := p') (p' := p) hq' hq
  unfold rc cmp3
  by_cases a : p * q' < p' * q
  · rw [if_pos (h1.2 a), if_pos a]
  · rw [if_neg (fun h => a (h1.1 h)), if_neg a]
    by_cases b : p' * q < p * q'
    · rw [if_pos (h2.2 b), if_pos b]
    · rw [if_neg (fun h => b (h2.1 h)), if_neg b]
/-- The lengths tell it. -/
theorem pw_above {a b : Nat} {E : Int} (ha : 0 < a) (h : (blen b : Int) + 1 < (blen a : Int) + E) : cmp3 (a * 2^E.toNat) (b * 2^(-E).toNat) = 1 := by
  refine cmp3_gt ?_
  obtain ⟨L, e1, a1, a2⟩ := blen_bounds ha
  have b2 := lt_pow_blen b
  rcases Int.lt_or_le E 0 with h0 | h0
  · rw [show E.toNat = 0 from by omega, Nat.pow_zero, Nat.mul_one]
    calc b * 2^(-E).toNat < 2^(blen b) * 2^(-E).toNat := Nat.mul_lt_mul_of_pos_right b2 (Nat.two_pow_pos _)
      _ = 2^(blen b + (-E).toNat) := by rw [← Nat.pow_add]
      _ ≤ 2^L := Nat.pow_le_pow_right (by omega) (by omega)
      _ ≤ a := a1
  · rw [show (-E).toNat = 0 from by omega, Nat.pow_zero, Nat.mul_one]
    calc b < 2^(blen b) := b2
      _ ≤ 2^(L + E.toNat) := Nat.pow_le_pow_right (by omega) (by omega)
      _ = 2^L * 2^E.toNat := by rw [Nat.pow_add]
      _ ≤ a * 2^E.toNat := Nat.mul_le_mul_right _ a1
theorem pw_below {a b : Nat} {E : Int} (h : (blen a : Int) + E < (blen b : Int) - 1) (hb : 0 < b) : cmp3 (a * 2^E.toNat) (b * 2^(-E).toNat) = -1 := by
  refine cmp3_lt ?_
  obtain ⟨L, e1, b1, b2⟩ := blen_bounds hb
  have a2 := lt_pow_blen a
  rcases Int.lt_or_le E 0 with h0 | h0
  · rw [show E.toNat = 0 from by omega, Nat.pow_zero, Nat.mul_one]
    calc a < 2^(blen a) := a2
      _ ≤ 2^(L + (-E).toNat) := Nat.pow_le_pow_right (by omega) (by omega)
      _ = 2^L * 2^(-E).toNat := by rw [Nat.pow_add]
      _ ≤ b * 2^(-E).toNat := Nat.mul_le_mul_right _ b1
  · rw [show (-E).toNat = 0 from by omega, Nat.pow_zero, Nat.mul_one]
    calc a * 2^E.toNat < 2^(blen a) * 2^E.toNat := Nat.mul_lt_mul_of_pos_right a2 (Nat.two_pow_pos _)
      _ = 2^(blen a + E.toNat) := by rw [← Nat.pow_add]
      _ ≤ 2^L := Nat.pow_le_pow_right (by omega) (by omega)
      _ ≤ b := b1
/-- A size held against a ratio. -/
theorem pw_rc {F p q : Nat} {E : Int} {x : Rat} (hq : 0 < q) (hx : x = rv false F 1 * 2^E) : rc x (rv false p q) = cmp3 (F * q * 2^E.toNat) (p * 2^(-E).toNat) := by
  have := rv_scale false (p := F) (q := 1) (by omega) E
  rw [Nat.one_mul] at this
  rw [hx, ← this, rc_false (Nat.two_pow_pos _) hq]
  congr 1
  rw [Nat.mul_assoc, Nat.mul_comm (2^E.toNat) q, ← Nat.mul_assoc]

set_option maxRecDepth 4000 in
set_option maxHeartbeats 6400000 in
theorem power_fin (K b : Nat) (A B : Option Addr) (n c m d p q : Nat) (w : World) (hb : b < 9218868437227405312) (hb0 : 0 < b) (hu : U32s w A n c (digs p)) (hv : U32s w B m d (digs q)) (hp : 0 < p) (hq : 0 < q) (hpK : p < 2^(32 * K)) (hqK : q < 2^(32 * K)) (hK : K ≤ 1048576) :
    Calls Tryz.prog 214 #[.int .u64 (b : Int), .int .i64 1, .agg #[.bool false, .slice A n c, .slice B m d]] w fun e w' => e = .returned (.int .i64 (rc (fl (b : Int)) (rv false p q))) ∧ Below w.heap.size w w' := by
  have hc := pat_cases (b := b) (by omega)
  have hfin : fin b := by show rungOf b < M; rw [M_val]; omega
  have hidx : idx b = (b : Int) := by omega
  have hsg : sgn b = false := by
    rcases hc with h | h
    · exact h.2.2.1
    · omega
  obtain ⟨e0, he⟩ : ∃ e, b / 4503599627370496 % 2048 = e := ⟨_, rfl⟩
  obtain ⟨f0, hff⟩ : ∃ f, b % 4503599627370496 = f := ⟨_, rfl⟩
  obtain ⟨he1, hf1, v1, v2⟩ := fl_parts hfin he hff hsg
  rw [hidx] at v1 v2
  have he' : b / 4503599627370496 = e0 := by omega
  have m1 : (b : Int) / 4503599627370496 = (e0 : Int) := by omega
  have m2 := mask52_u64 (x := b) (by omega)
  rw [hff] at m2
  obtain ⟨F, E, hF0, hF, hE1, hE2, hfl, hFe⟩ : ∃ (F : Nat) (E : Int), 0 < F ∧ F < 9007199254740992 ∧ -1074 ≤ E ∧ E ≤ 971 ∧ fl (b : Int) = rv false F 1 * 2^E ∧ ((0 < e0 ∧ F = f0 + 4503599627370496 ∧ (e0 : Int) - 1 - 1074 = E) ∨ (e0 = 0 ∧ F = f0 ∧ (e0 : Int) - 1074 = E)) := by
    rcases Nat.eq_zero_or_pos e0 with h | h
    · exact ⟨f0, (e0 : Int) - 1074, by omega, by omega, by omega, by omega, v2 h, .inr ⟨h, rfl, rfl⟩⟩
    · exact ⟨f0 + 4503599627370496, (e0 : Int) - 1 - 1074, by omega, by omega, by omega, by omega, v1 h, .inl ⟨h, rfl, rfl⟩⟩
  rw [pw_rc hq hfl]
  have hn1 := hu.len_le hpK
  have hm1 := hv.len_le hqK
  have HU := Lib.hid hu
  have HV := Lib.hid hv
  have haK : F * q < 2^(32 * (K + 2)) := by
    calc F * q < 2^64 * 2^(32 * K) := Nat.mul_lt_mul'' (by omega) hqK
      _ = 2^(32 * (K + 2)) := by rw [← Nat.pow_add]; congr 1; omega
  have bp : blen p ≤ 33554432 := Nat.le_trans (blen_le_iff.2 hpK) (by omega)
  have ba : blen (F * q) ≤ 33554496 := Nat.le_trans (blen_le_iff.2 haK) (by omega)
  have hab : 0 < F * q := Nat.mul_pos hF0 hq
  have HSM := Lib.hid fun W => small_any F W (by omega)
  obtain ⟨a, ha⟩ : ∃ a, F * q = a := ⟨_, rfl⟩
  have T0 : ∀ (W : World) (A1 : Option Addr) (n1 c1 : Nat), Below w.heap.size w W → U32s W A1 n1 c1 (digs F) → Calls Tryz.prog 143 #[.slice A1 n1 c1, .slice B m d] W (NewU32 W (digs a)) := by
    intro W A1 n1 c1 hW h1
    have := times_any A1 B n1 c1 m d _ _ W h1 (HV.out.below hW) (by have := h1.len_le (k := 2) (Nat.lt_of_lt_of_le hF (by decide)); omega) (by omega)
    rw [num_digs, num_digs, ha] at this
    exact this
  have P0 : ∀ (W : World) (A1 : Option Addr) (n1 c1 : Nat), U32s W A1 n1 c1 (digs F) → Calls Tryz.prog 240 #[.slice A1 n1 c1, .int .i64 1] W (NewU32 W (digs F)) := by
    intro W A1 n1 c1 h1
    have h2 : F < 2^(32 * 2) := Nat.lt_of_lt_of_le hF (by decide)
    have := power_any A1 n1 c1 1 2 _ W h1 (by have := h1.len_le h2; omega) (by rw [num_digs]; exact hF0) (by rw [num_digs]; exact h2) (by rw [num_digs, Nat.pow_one]; exact h2) (by omega) (by omega)
    rw [num_digs, Nat.pow_one] at this
    exact this
  rw [ha] at haK ba hab ⊢
  have TT := Lib.hid T0
  have PT := Lib.hid P0
  have PA := Lib.hid fun h => pw_above (b := p) (E := E) hab h
  have PB := Lib.hid fun h => pw_below (a := a) (E := E) h hp
  obtain ⟨r, hr⟩ : ∃ r, cmp3 (a * 2^E.toNat) (p * 2^(-E).toNat) = r := ⟨_, rfl⟩
  rw [hr] at PA PB ⊢
  have HR := Lib.hid hr
  obtain ⟨K2, hK2⟩ : ∃ x, K + 2 = x := ⟨_, rfl⟩
  rw [hK2] at haK
  have hK3 : K2 ≤ 1048578 := by omega
  have HAK := Lib.hid haK
  clear hK2
  have HFE := Lib.hid hFe
  clear hr T0 P0 haK hab hFe hfl v1 v2 hc hfin hidx hsg he hff he' hu hv hp hq hpK hqK ha hF0
  rcases HFE.out with ⟨h0, hFF, hEE⟩ | ⟨h0, hFF, hEE⟩
  · skip
    obtain ⟨LB0, LG0_0⟩ := bx1 w #[.bool false, .slice A n c, .slice B m d] 60
    have h1 : (f0 : Int) + 4503599627370496 = (F : Int) := by omega
    have h3 : (0 : Int) < (e0 : Int) := by omega
    clear hFF h0
    clear HFE
    go_enter Tryz.func214, Tryz.ntmps214
    go_upto_region 7 with fail
    refine wp_region_held_drew (S := fun W' => Blk W' w.heap.size 60 #[.bool false, .slice A n c, .slice B m d] ∧ Below w.heap.size w W') (by kernel_rfl) (by exact ⟨LG0_0.out.drew, LB0.out.drew⟩) (fun hHeld => ?_)
    refine tk 0 ?_
    try simp only [Act.put, lay]
    refine tk 2 ?_
    try simp only [Act.put, lay]
    refine tk 4 ?_
    try simp only [Act.put, lay]
    refine tk 5 ?_ (hv := by intro W2 hSw; obtain ⟨q0, q1, q2⟩ := hSw.1.c3; go_simp; (try with_reducible rfl))
    try simp only [Act.put, lay]
    refine rdy 1 (fun KK hKK => ?_)
    go_simp
    refine (HSM.out _).mono ?_
    rintro e w1 ⟨A1, n1, c1, rfl, hu1, hb1⟩
    go_wp2_with fail
    refine hKK.out _ _ (⟨hHeld.1.keep hb1, hHeld.2.trans (hb1.mono hHeld.2.size)⟩) (fun _ => ?_)
    clear hKK KK hHeld; rename_i hHeld
    try simp only [Act.put, lay]
    refine rdy 3 (fun KK hKK => ?_)
    go_simp
    refine (PT.out _ A1 n1 c1 hu1).mono ?_
    rintro e w2 ⟨A2, n2, c2, rfl, hu2, hb2⟩
    go_wp2_with fail
    refine hKK.out _ _ (⟨hHeld.1.keep hb2, hHeld.2.trans (hb2.mono hHeld.2.size)⟩) (fun _ => ?_)
    clear hKK KK hHeld; rename_i hHeld
    try simp only [Act.put, lay]
    refine rdy 6 (fun KK hKK => ?_)
    go_simp
    refine (TT.out _ A2 n2 c2 ?_ hu2).mono ?_; exact hHeld.2
    rintro e w3 ⟨A3, n3, c3, rfl, hu3, hb3⟩
    go_wp2_with fail
    refine hKK.out _ _ (⟨hHeld.1.keep hb3, hHeld.2.trans (hb3.mono hHeld.2.size)⟩) (fun _ => ?_)
    clear hKK KK hHeld; rename_i hHeld
    try simp only [Act.put, lay]
    refine tk 7 ?_
    try simp only [Act.put, lay]
    refine wpAnyH_done (by kernel_rfl) ?_ _
    have LB3 := Lib.hid hHeld.2
    have LG0_3 := Lib.hid hHeld.1
    have HU3 := Lib.hid hu3
    have hn3 := hu3.len_le HAK.out
    clear hHeld hu1 hu2 hu3 hb1 hb2 hb3 HSM PT TT LB0 LG0_0
    obtain ⟨la, hla⟩ : ∃ x, blen a = x := ⟨_, rfl⟩
    obtain ⟨lp, hlp⟩ : ∃ x, blen p = x := ⟨_, rfl⟩
    have H1 := Lib.hid (len_v A3 n3 c3 w3 HU3.out)
    have H2 := Lib.hid (len_v A n c w3 (HU.out.below LB3.out))
    rw [hla] at H1 PA PB ba
    rw [hlp] at H2 PA PB bp
    clear hla hlp
    obtain ⟨q0_0, q0_1, q0_2⟩ := LG0_3.out.c3
    by_cases ho : (lp : Int) + 1 < (la : Int) + E
    · have hr := PA.out ho
      clear PA PB HR
      go_wp2_with fail
      refine H1.out.mono ?_
      rintro e w4 ⟨rfl, rfl⟩
      go_wp2_with fail
      refine H2.out.mono ?_
      rintro e w4 ⟨rfl, rfl⟩
      have HRR := Lib.hid hr
      clear hr
      go_wp2
      go_ret
      exact ⟨ret_int HRR.out.symm, LB3.out⟩
    · by_cases hu : (la : Int) + E < (lp : Int) - 1
      · have hr := PB.out hu
        clear PA PB HR
        go_wp2_with fail
        refine H1.out.mono ?_
        rintro e w4 ⟨rfl, rfl⟩
        go_wp2_with fail
        refine H2.out.mono ?_
        rintro e w4 ⟨rfl, rfl⟩
        go_wp2_with fail
        refine H1.out.mono ?_
        rintro e w4 ⟨rfl, rfl⟩
        go_wp2_with fail
        refine H2.out.mono ?_
        rintro e w4 ⟨rfl, rfl⟩
        have HRR := Lib.hid hr
        clear hr
        go_wp2
        go_ret
        exact ⟨ret_int HRR.out.symm, LB3.out⟩
      · clear PA PB
        go_wp2_with fail
        refine H1.out.mono ?_
        rintro e w4 ⟨rfl, rfl⟩
        go_wp2_with fail
        refine H2.out.mono ?_
        rintro e w4 ⟨rfl, rfl⟩
        go_wp2_with fail
        refine H1.out.mono ?_
        rintro e w4 ⟨rfl, rfl⟩
        go_wp2_with fail
        refine H2.out.mono ?_
        rintro e w4 ⟨rfl, rfl⟩
        clear H1 H2
        by_cases hE : 0 ≤ E
        · skip
          obtain ⟨g, hg⟩ : ∃ g : Nat, E = g := ⟨E.toNat, by omega⟩
          subst hg
          have hg2 : g ≤ 971 := by omega
          have hr := HR.out
          rw [show (-(g : Int)).toNat = 0 from by omega, Int.toNat_natCast, Nat.pow_zero, Nat.mul_one] at hr
          have HLL := Lib.hid (left_v (v := a) A3 n3 c3 g w3 HU3.out (by omega) (by omega))
          have HRR := Lib.hid hr
          clear hr HR
          go_wp2_with fail
          refine HLL.out.mono ?_
          rintro e w5 ⟨A5, n5, c5, rfl, hu5, hb5⟩
          have LB5 := stB LB3 hb5 LB3.out.size
          have HC := Lib.hid (cmp_v A5 A n5 c5 n c w5 hu5 (HU.out.below LB5.out))
          rw [HRR.out] at HC
          clear hb5 hu5 HLL
          go_wp2_with fail
          refine HC.out.mono ?_
          rintro e w6 ⟨rfl, kk, rfl⟩
          go_wp2
          go_ret
          exact ⟨rfl, below_drewN LB5.out kk⟩
        · skip
          obtain ⟨g, hg⟩ : ∃ g : Nat, -E = g := ⟨(-E : Int).toNat, by omega⟩
          have hg2 : g ≤ 1074 := by omega
          have hr := HR.out
          rw [show (E : Int).toNat = 0 from by omega, show (-E : Int).toNat = g from by omega, Nat.pow_zero, Nat.mul_one] at hr
          have HLL := Lib.hid (left_v (v := p) A n c g w3 (HU.out.below LB3.out) (by omega) (by omega))
          have HRR := Lib.hid hr
          clear hr HR
          have c2 : E < 0 := by omega
          go_wp2_with fail
          refine HLL.out.mono ?_
          rintro e w5 ⟨A5, n5, c5, rfl, hu5, hb5⟩
          have HC := Lib.hid (cmp_v A3 A5 n3 c3 n5 c5 w5 (HU3.out.below hb5) hu5)
          have LB5 := stB LB3 hb5 LB3.out.size
          rw [HRR.out] at HC
          clear hb5 hu5 HLL
          go_wp2_with fail
          refine HC.out.mono ?_
          rintro e w6 ⟨rfl, kk, rfl⟩
          go_wp2
          go_ret
          exact ⟨rfl, below_drewN LB5.out kk⟩
  · skip
    obtain ⟨LB0, LG0_0⟩ := bx1 w #[.bool false, .slice A n c, .slice B m d] 60
    subst h0
    subst hFF
    obtain rfl : E = -1074 := by omega
    clear hEE
    clear HFE
    go_enter Tryz.func214, Tryz.ntmps214
    go_upto_region 7 with fail
    refine wp_region_held_drew (S := fun W' => Blk W' w.heap.size 60 #[.bool false, .slice A n c, .slice B m d] ∧ Below w.heap.size w W') (by kernel_rfl) (by exact ⟨LG0_0.out.drew, LB0.out.drew⟩) (fun hHeld => ?_)
    refine tk 0 ?_
    try simp only [Act.put, lay]
    refine tk 2 ?_
    try simp only [Act.put, lay]
    refine tk 4 ?_
    try simp only [Act.put, lay]
    refine tk 5 ?_ (hv := by intro W2 hSw; obtain ⟨q0, q1, q2⟩ := hSw.1.c3; go_simp; (try with_reducible rfl))
    try simp only [Act.put, lay]
    refine rdy 1 (fun KK hKK => ?_)
    go_simp
    refine (HSM.out _).mono ?_
    rintro e w1 ⟨A1, n1, c1, rfl, hu1, hb1⟩
    go_wp2_with fail
    refine hKK.out _ _ (⟨hHeld.1.keep hb1, hHeld.2.trans (hb1.mono hHeld.2.size)⟩) (fun _ => ?_)
    clear hKK KK hHeld; rename_i hHeld
    try simp only [Act.put, lay]
    refine rdy 3 (fun KK hKK => ?_)
    go_simp
    refine (PT.out _ A1 n1 c1 hu1).mono ?_
    rintro e w2 ⟨A2, n2, c2, rfl, hu2, hb2⟩
    go_wp2_with fail
    refine hKK.out _ _ (⟨hHeld.1.keep hb2, hHeld.2.trans (hb2.mono hHeld.2.size)⟩) (fun _ => ?_)
    clear hKK KK hHeld; rename_i hHeld
    try simp only [Act.put, lay]
    refine rdy 6 (fun KK hKK => ?_)
    go_simp
    refine (TT.out _ A2 n2 c2 ?_ hu2).mono ?_; exact hHeld.2
    rintro e w3 ⟨A3, n3, c3, rfl, hu3, hb3⟩
    go_wp2_with fail
    refine hKK.out _ _ (⟨hHeld.1.keep hb3, hHeld.2.trans (hb3.mono hHeld.2.size)⟩) (fun _ => ?_)
    clear hKK KK hHeld; rename_i hHeld
    try simp only [Act.put, lay]
    refine tk 7 ?_
    try simp only [Act.put, lay]
    refine wpAnyH_done (by kernel_rfl) ?_ _
    have LB3 := Lib.hid hHeld.2
    have LG0_3 := Lib.hid hHeld.1
    have HU3 := Lib.hid hu3
    have hn3 := hu3.len_le HAK.out
    clear hHeld hu1 hu2 hu3 hb1 hb2 hb3 HSM PT TT LB0 LG0_0
    obtain ⟨la, hla⟩ : ∃ x, blen a = x := ⟨_, rfl⟩
    obtain ⟨lp, hlp⟩ : ∃ x, blen p = x := ⟨_, rfl⟩
    have H1 := Lib.hid (len_v A3 n3 c3 w3 HU3.out)
    have H2 := Lib.hid (len_v A n c w3 (HU.out.below LB3.out))
    rw [hla] at H1 PA PB ba
    rw [hlp] at H2 PA PB bp
    clear hla hlp
    obtain ⟨q0_0, q0_1, q0_2⟩ := LG0_3.out.c3
    by_cases ho : (lp : Int) + 1 < (la : Int) + (-1074)
    · have hr := PA.out ho
      clear PA PB HR
      go_wp2_with fail
      refine H1.out.mono ?_
      rintro e w4 ⟨rfl, rfl⟩
      go_wp2_with fail
      refine H2.out.mono ?_
      rintro e w4 ⟨rfl, rfl⟩
      have HRR := Lib.hid hr
      clear hr
      go_wp2
      go_ret
      exact ⟨ret_int HRR.out.symm, LB3.out⟩
    · by_cases hu : (la : Int) + (-1074) < (lp : Int) - 1
      · have hr := PB.out hu
        clear PA PB HR
        go_wp2_with fail
        refine H1.out.mono ?_
        rintro e w4 ⟨rfl, rfl⟩
        go_wp2_with fail
        refine H2.out.mono ?_
        rintro e w4 ⟨rfl, rfl⟩
        go_wp2_with fail
        refine H1.out.mono ?_
        rintro e w4 ⟨rfl, rfl⟩
        go_wp2_with fail
        refine H2.out.mono ?_
        rintro e w4 ⟨rfl, rfl⟩
        have HRR := Lib.hid hr
        clear hr
        go_wp2
        go_ret
        exact ⟨ret_int HRR.out.symm, LB3.out⟩
      · clear PA PB
        go_wp2_with fail
        refine H1.out.mono ?_
        rintro e w4 ⟨rfl, rfl⟩
        go_wp2_with fail
        refine H2.out.mono ?_
        rintro e w4 ⟨rfl, rfl⟩
        go_wp2_with fail
        refine H1.out.mono ?_
        rintro e w4 ⟨rfl, rfl⟩
        go_wp2_with fail
        refine H2.out.mono ?_
        rintro e w4 ⟨rfl, rfl⟩
        clear H1 H2
        obtain ⟨g, hg⟩ : ∃ g : Nat, g = 1074 := ⟨_, rfl⟩
        have hr := HR.out
        rw [show ((-1074) : Int).toNat = 0 from by omega, show (-(-1074) : Int).toNat = g from by omega, Nat.pow_zero, Nat.mul_one] at hr
        have HLL := Lib.hid (left_v (v := p) A n c g w3 (HU.out.below LB3.out) (by omega) (by omega))
        rw [show ((g : Nat) : Int) = 1074 from by omega] at HLL
        clear hg
        have HRR := Lib.hid hr
        clear hr HR
        go_wp2_with fail
        refine HLL.out.mono ?_
        rintro e w5 ⟨A5, n5, c5, rfl, hu5, hb5⟩
        have HC := Lib.hid (cmp_v A3 A5 n3 c3 n5 c5 w5 (HU3.out.below hb5) hu5)
        have LB5 := stB LB3 hb5 LB3.out.size
        rw [HRR.out] at HC
        clear hb5 hu5 HLL
        go_wp2_with fail
        refine HC.out.mono ?_
        rintro e w6 ⟨rfl, kk, rfl⟩
        go_wp2
        go_ret
        exact ⟨rfl, below_drewN LB5.out kk⟩

end Go.Proofs.YtmjkmoahkanblaaGreat
