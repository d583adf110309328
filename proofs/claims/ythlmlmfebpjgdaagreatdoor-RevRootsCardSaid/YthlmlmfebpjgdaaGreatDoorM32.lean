/-
Walks: package vergeref3, RootOf.
-/
import Derived.Test.YthlmlmfebpjgdaaGreatDoorM31
import Derived.Test.YthlmlmfebpjgdaaGreatDoorM07
import Derived.Test.YthlmlmfebpjgdaaGreatDoorM02
import Derived.Test.YthlmlmfebpjgdaaGreatDoorM04
import Derived.Deep.DeepCutAuto
set_option linter.unusedSimpArgs false
set_option linter.unusedVariables false
set_option maxHeartbeats 12800000

namespace Go.Proofs.YthlmlmfebpjgdaaGreatDoor
open Go.RowKit
theorem below_dr6 {w w' : World} {k : Nat} (h : w' = w.drewN k) : Below w.heap.size w w' := by rw [h]; exact below_drewN (Below.refl _ _) k
theorem len_b {a L : Nat} {A : Option Addr} {n c : Nat} {w : World} (hx : U32s w A n c (digs a)) (h : blen a = L) :
    Calls Tryz.prog 224 #[.slice A n c] w fun e w' => e = .returned (.int .i64 (L : Int)) ∧ Below w.heap.size w w' := by
  rw [← h]
  refine (len_v A n c w hx).mono ?_
  rintro e w' ⟨he, rfl⟩
  exact ⟨he, Below.refl _ _⟩
theorem cmp_b6 {a b : Nat} {cc : Int} {A B : Option Addr} {n c m d : Nat} {w : World} (hx : U32s w A n c (digs a)) (hy : U32s w B m d (digs b)) (h : cmp3 a b = cc) :
    Calls Tryz.prog 98 #[.slice A n c, .slice B m d] w fun e w' => e = .returned (.int .i64 cc) ∧ Below w.heap.size w w' := by
  rw [← h]
  refine (cmp_v A B n c m d w hx hy).mono ?_
  rintro e w' ⟨he, k, hk⟩
  exact ⟨he, below_dr6 hk⟩
theorem power_v {a n S : Nat} {A : Option Addr} {m c : Nat} {w : World} (hx : U32s w A m c (digs a)) (h0 : 0 < a) (h1 : a < 2 ^ (32 * S)) (hn : 0 < n) (h2 : a ^ n < 2 ^ (32 * S)) (hS : S ≤ 1073741824) (hk : n ≤ 1048576) :
    Calls Tryz.prog 120 #[.slice A m c, .int .i64 (n : Int)] w (NewU32 w (digs (a ^ n))) := by
  have h := power_any A m c n S _ w hx (by have := hx.len_le h1; omega) (by rw [num_digs]; exact h0) (by rw [num_digs]; exact h1) (by rw [num_digs]; exact h2) hS hk
  rw [num_digs] at h
  exact h
theorem times_v {a b : Nat} {A B : Option Addr} {n c m d : Nat} {w : World} (hx : U32s w A n c (digs a)) (hy : U32s w B m d (digs b)) (h1 : n ≤ 1073741824) (h2 : m ≤ 1073741824) :
    Calls Tryz.prog 95 #[.slice A n c, .slice B m d] w (NewU32 w (digs (a * b))) := by
  have h := times_any A B n c m d _ _ w hx hy (by omega) (by omega)
  rw [num_digs, num_digs] at h
  exact h
theorem plus_v6 {a b : Nat} {A B : Option Addr} {n c m d : Nat} {w : World} (hx : U32s w A n c (digs a)) (hy : U32s w B m d (digs b)) (h1 : n ≤ 1073741824) (h2 : m ≤ 1073741824) :
    Calls Tryz.prog 97 #[.slice A n c, .slice B m d] w (NewU32 w (digs (a + b))) := by
  have h := plus_any A B n c m d _ _ w hx hy (by omega) (by omega)
  rw [num_digs, num_digs] at h
  exact h
theorem lt_64 {t S : Nat} (hS : 2 ≤ S) (h : t < 18446744073709551616) : t < 2 ^ (32 * S) :=
  Nat.lt_of_lt_of_le (show t < 2 ^ 64 from h) (Nat.pow_le_pow_right (by omega) (by omega))
theorem pow_lt_64 {t n S : Nat} (hS : 2048 ≤ S) (h : t < 18446744073709551616) (hn : 0 < n) (hn2 : n ≤ 1024) : t ^ n < 2 ^ (32 * S) := by
  have h1 : t ^ n < (2 ^ 64) ^ n := Nat.pow_lt_pow_left (show t < 2 ^ 64 from h) (by omega)
  rw [← Nat.pow_mul] at h1
  exact Nat.lt_of_lt_of_le h1 (Nat.pow_le_pow_right (by omega) (by omega))
theorem left_d1 {a : Nat} {A : Option Addr} {n c : Nat} {w : World} (hx : U32s w A n c (digs a)) (hs : n ≤ 1073741824) :
    Calls Tryz.prog 166 #[.slice A n c, .int .i64 1] w (NewU32 w (digs (2 * a))) := by
  have h := left_v A n c 1 w hx hs (by omega)
  rw [show a * 2 ^ 1 = 2 * a from by omega] at h
  exact h
theorem sh_one {i P : Nat} (hi : i < 63) (hP : 2 ^ i = P) : IntKind.u64.wrap ((2 : Int) ^ i) = (P : Int) := by
  have h1 : P ≤ 4611686018427387904 := by rw [← hP]; exact (show 2 ^ i ≤ 2 ^ 62 from Nat.pow_le_pow_right (by omega) (by omega))
  have h2 : (2 : Int) ^ i = (P : Int) := by rw [← hP]; simp
  rw [h2, IntKind.wrap_u64]
  omega
set_option maxRecDepth 8000 in
theorem rootof_pos (d : Int) (n p q a b g R lp lq lg : Nat) (f k1 k2 P1 P2 t0 t1 t2 cc : Int) (ov z K K2 : Nat) (y : Rat) (A : Option Addr) (n1 c1 : Nat) (B : Option Addr) (m1 d1 : Nat) (w : World)
    (hu : U32s w A n1 c1 (digs p)) (hv : U32s w B m1 d1 (digs q)) (hpK : p < 2 ^ (32 * K)) (hqK : q < 2 ^ (32 * K)) (haK : a < 2 ^ (32 * K2)) (hbK : b < 2 ^ (32 * K2)) (hK : K ≤ 1048576) (hK2 : K2 ≤ 2097152)
    (hRS : ∀ W, Below w.heap.size w W → Calls Tryz.prog 42 #[.agg #[.bool false, .slice A n1 c1, .slice B m1 d1]] W fun e w' => e = .returned (.int .i64 1) ∧ Below W.heap.size W w')
    (hlp : blen p = lp) (hlq : blen q = lq) (hlpb : lp ≤ 67108864) (hlqb : lq ≤ 67108864) (hf : (lp : Int) - (lq : Int) = f) (hn : 0 < n) (hn2 : n ≤ 1024)
    (ht0 : (f + (n : Int) * 60).tdiv n = t0) (hk1 : 61 < t0 → 60 - (t0 - 60) = k1 ∧ 60 ≠ k1) (hk1' : ¬ 61 < t0 → k1 = 60) (hP1 : (n : Int) * k1 = P1) (ht1 : (f + P1).tdiv n = t1) (h61 : ¬ 61 < t1)
    (hk2 : t1 < 59 → k1 + (60 - t1) = k2 ∧ k1 ≠ k2) (hk2' : ¬ t1 < 59 → k2 = k1) (hP2 : (n : Int) * k2 = P2) (ht2 : (f + P2).tdiv n = t2) (h59 : ¬ t2 < 59)
    (bk : -4300000 ≤ k1 ∧ k1 ≤ 4300000 ∧ -4300000 ≤ k2 ∧ k2 ≤ 4300000 ∧ -4300000 ≤ P1 ∧ P1 ≤ 4300000 ∧ -4300000 ≤ P2 ∧ P2 ≤ 4300000 ∧ -4300000 ≤ t0 ∧ t0 ≤ 4300000 ∧ -4300000 ≤ t1 ∧ t1 ≤ 4300000) (hfb : -4194304 ≤ f ∧ f ≤ 4194304)
    (hg : P2 = (g : Int)) (hk0 : 0 ≤ k2) (hab : p * 2 ^ g = a ∧ q = b) (hb0 : 0 < b) (hR : IsR (a / b) n R) (hlg : blen (a / b) = lg) (hlgb : lg ≤ 67108864) (hR1 : 144115188075855872 ≤ R) (hR2 : R < 4611686018427387904) (hcc : cmp3 (R ^ n * b) a = cc) (hov : (if cc = 0 then 0 else 1) = ov)
    (hfin : ∀ W C m' d' D, U32s W C m' d' (digs (2 * R + ov)) → U32s W D 1 1 (digs 1) → Calls Tryz.prog 96 #[.bool false, .slice C m' d', .slice D 1 1, .int .i64 (-k2 - 1)] W (NewRatS W 70000 y))
    (hbit : ∀ W g' C m' d' D n' e', RatV W 70000 g' (.slice C m' d') (.slice D n' e') y → Calls Tryz.prog 207 #[.int .i64 d, .agg #[.bool g', .slice C m' d', .slice D n' e']] W fun e w' => e = .returned (.int .u64 (z : Int)) ∧ Below W.heap.size W w') :
    Calls Tryz.prog 237 #[.int .i64 d, .agg #[.bool false, .slice A n1 c1, .slice B m1 d1], .int .i64 (n : Int)] w fun e w' => e = .returned (.int .u64 (z : Int)) ∧ Below w.heap.size w w' := by
  have HU := Lib.hid hu
  have HV := Lib.hid hv
  have hn1 := hu.len_le hpK
  have hm1 := hv.len_le hqK
  have HRS := Lib.hid hRS
  have HL1 := Lib.hid fun W (h : U32s W A n1 c1 (digs p)) => len_b h hlp
  have HL2 := Lib.hid fun W (h : U32s W B m1 d1 (digs q)) => len_b h hlq
  have HK1 := Lib.hid hk1
  have HK1' := Lib.hid hk1'
  have HK2 := Lib.hid hk2
  have HK2' := Lib.hid hk2'
  have HAB := Lib.hid hab
  have HRR := Lib.hid hR
  have HLGE := Lib.hid hlg
  have HLG := Lib.hid fun W C m' d' (h : U32s W C m' d' (digs (a / b))) => len_b h hlg
  have HCC := Lib.hid hcc
  have HOV := Lib.hid hov
  have HFIN := Lib.hid hfin
  have HBIT := Lib.hid hbit
  have hn0 : ¬ (n : Int) = 0 := by omega
  have HP1 := Lib.hid hP1
  have HP2 := Lib.hid hP2
  have HT0 := Lib.hid ht0
  have HT1 := Lib.hid ht1
  have HT2 := Lib.hid ht2
  have HPK := Lib.hid hpK
  have HQK := Lib.hid hqK
  have HAK := Lib.hid haK
  have HBK := Lib.hid hbK
  have HG := Lib.hid hg
  have HB0 := Lib.hid hb0
  obtain ⟨S, hS1, hS2, hS3⟩ : ∃ S : Nat, 2 ≤ S ∧ 2048 ≤ S ∧ S ≤ 1073741824 := ⟨2048, by omega, by omega, by omega⟩
  have HLF := Lib.hid (show ∀ W, U32s W A n1 c1 (digs p) → Calls Tryz.prog 166 #[.slice A n1 c1, .int .i64 P2] W (NewU32 W (digs a)) from fun W h => by rw [hg, ← hab.1]; exact left_v A n1 c1 g W h (by omega) (by omega))
  have HBY := Lib.hid fun W An nn cn Ad nd cd (h : U32s W An nn cn (digs a)) (h2 : U32s W Ad nd cd (digs b)) => by_v An Ad nn cn nd cd W h h2 (by have := h.len_le haK; omega) (by have := h2.len_le hbK; omega) hb0
  have HSM := Lib.hid fun W (v : Nat) (hv : v < 18446744073709551616) => small_any v W hv
  have HPW := Lib.hid fun W A' m' c' (t : Nat) (h : U32s W A' m' c' (digs t)) (h0 : 0 < t) (h1 : t < 18446744073709551616) => power_v (n := n) (S := S) h h0 (lt_64 hS1 h1) hn (pow_lt_64 hS2 h1 hn hn2) hS3 (by omega)
  have HCP := Lib.hid fun W A' m' c' (t : Nat) (B' : Option Addr) (m'' c'' : Nat) (cv : Int) (hc : cmp3 (t ^ n) (a / b) = cv) (h : U32s W A' m' c' (digs (t ^ n))) (h2 : U32s W B' m'' c'' (digs (a / b))) => cmp_b6 h h2 hc
  have HTM := Lib.hid fun W A' m' c' Ad nd cd (h : U32s W A' m' c' (digs (R ^ n))) (h2 : U32s W Ad nd cd (digs b)) => times_v h h2 (by have := h.len_le (pow_lt_64 (t := R) hS2 (by omega) hn hn2); omega) (by have := h2.len_le hbK; omega)
  have HCQ := Lib.hid fun W A' m' c' An nn cn (h : U32s W A' m' c' (digs (R ^ n * b))) (h2 : U32s W An nn cn (digs a)) => cmp_b6 h h2 hcc
  have HL1' := Lib.hid fun W A' m' c' (h : U32s W A' m' c' (digs R)) => left_d1 h (by have := h.len_le (show R < 2 ^ (32 * 2) by omega); omega)
  have HPL := Lib.hid fun W A' m' c' B' m'' c'' (h : U32s W A' m' c' (digs (2 * R))) (h2 : U32s W B' m'' c'' (digs ov)) => plus_v6 h h2 (by have := h.len_le (show 2 * R < 2 ^ (32 * 2) by omega); omega) (by have := h2.len_le (show ov < 2 ^ (32 * 1) by rw [← hov]; split <;> omega); omega)
  have hov1 : ov ≤ 1 := by rw [← hov]; split <;> omega
  obtain ⟨bk1, bk2, bk3, bk4, bk5, bk6, bk7, bk8, bk9, bk10, bk11, bk12⟩ := bk
  clear hu hv hpK hqK haK hbK hRS hlp hlq hk1 hk1' hk2 hk2' hab hR hlg hcc hov hfin hbit hP1 hP2 ht0 ht1 ht2 hg hb0 hS1 hS2 hS3
  have LL := li1 w #[.bool false, .slice A n1 c1, .slice B m1 d1] 42
  have HUU := Lib.hid (HU.out.below LL.out.b)
  have HVV := Lib.hid (HV.out.below LL.out.b)
  clear HU HV
  go_enter Tryz.func237, Tryz.ntmps237
  obtain ⟨q1_0, q1_1, q1_2⟩ := (LL.out.blk 0 rfl).c3
  go_wp2_with fail
  refine (HRS.out _ LL.out.b).mono ?_
  rintro e wk ⟨rfl, hb⟩
  replace LL := stL LL hb
  replace HUU := Lib.hid (HUU.out.below hb)
  replace HVV := Lib.hid (HVV.out.below hb)
  clear hb q1_0 q1_1 q1_2
  clear HRS
  go_upto_region 4 with fail
  refine regL LL (fun hHeld => ?_)
  clear LL
  replace HUU := Lib.hid (HUU.out.below (Below.refl _ _).drew)
  replace HVV := Lib.hid (HVV.out.below (Below.refl _ _).drew)
  generalize World.drew _ = wk at hHeld HUU HVV ⊢
  refine tk 0 ?_
  try simp only [Act.put, lay]
  refine tk 1 ?_ (hv := by intro W2 hSw; obtain ⟨q0, q1, q2⟩ := (hSw.blk 0 rfl).c3; go_simp; (try with_reducible rfl))
  try simp only [Act.put, lay]
  refine tk 3 ?_
  try simp only [Act.put, lay]
  refine tk 4 ?_ (hv := by intro W2 hSw; obtain ⟨q0, q1, q2⟩ := (hSw.blk 0 rfl).c3; go_simp; (try with_reducible rfl))
  try simp only [Act.put, lay]
  refine rdy 2 (fun KK hKK => ?_)
  go_simp
  refine (HL1.out _ HUU.out).mono ?_
  rintro e wk ⟨rfl, hb1⟩
  go_wp2_with fail
  refine hKK.out _ _ (hHeld.keep hb1) (fun _ => ?_)
  clear hKK KK hHeld
  rename_i hHeld
  try simp only [Act.put, lay]
  replace HUU := Lib.hid (HUU.out.below hb1)
  replace HVV := Lib.hid (HVV.out.below hb1)
  clear hb1
  refine rdy 5 (fun KK hKK => ?_)
  go_simp
  refine (HL2.out _ HVV.out).mono ?_
  rintro e wk ⟨rfl, hb2⟩
  go_wp2_with fail
  refine hKK.out _ _ (hHeld.keep hb2) (fun _ => ?_)
  clear hKK KK hHeld
  rename_i hHeld
  try simp only [Act.put, lay]
  replace HUU := Lib.hid (HUU.out.below hb2)
  replace HVV := Lib.hid (HVV.out.below hb2)
  clear hb2
  refine tk 6 ?_
  try simp only [Act.put, lay]
  refine tk 7 ?_
  try simp only [Act.put, lay]
  refine wpAnyH_done (by kernel_rfl) ?_ _
  have LL := Lib.hid hHeld
  clear hHeld
  clear HL1 HL2
  obtain ⟨wa, rfl⟩ : ∃ X, X = wk := ⟨_, rfl⟩
  go_wp2
  go_loopw [9] (fun kv wr => ∃ kk : Int, kv = .int .i64 kk ∧ (kk = k1 ∨ (kk = 60 ∧ 61 < t0)) ∧ wr = wa) (fun kv _ => if intOf kv = k1 then 0 else 1)
  case atStart =>
    by_cases h : 61 < t0
    · exact ⟨60, rfl, .inr ⟨rfl, h⟩, rfl⟩
    · exact ⟨60, rfl, .inl (HK1'.out (by omega)).symm, rfl⟩
  case round =>
    obtain ⟨kk, rfl, hkk, hwr⟩ := hrel
    subst hwr
    by_cases hke : kk = k1
    case neg =>
      obtain ⟨rfl, h60⟩ : kk = 60 ∧ 61 < t0 := by rcases hkk with h | h; exact absurd h hke; exact h
      obtain ⟨e1, e2⟩ := HK1.out h60
      have ht0 := HT0.out
      have f1 : IntKind.i64.wrap t0 = t0 := by rw [IntKind.wrap_i64]; omega
      clear hkk
      go_wp2
      exact ⟨⟨k1, rfl, .inl rfl, trivial⟩, by show (if k1 = k1 then 0 else 1) < (if (60 : Int) = k1 then 0 else 1); rw [if_pos rfl, if_neg e2]; omega⟩
    subst hke
    clear hkk HK1 HK1'
    have hP1 := HP1.out
    have ht1 := HT1.out
    have f1 : IntKind.i64.wrap t1 = t1 := by rw [IntKind.wrap_i64]; omega
    clear HP1 HT1
    go_wp2
    go_loopw [9] (fun kv wr' => ∃ kj : Int, kv = .int .i64 kj ∧ (kj = k2 ∨ (kj = kk ∧ t1 < 59)) ∧ wr' = wr) (fun kv _ => if intOf kv = k2 then 0 else 1)
    case atStart =>
      by_cases h : t1 < 59
      · exact ⟨kk, rfl, .inr ⟨rfl, h⟩, rfl⟩
      · exact ⟨kk, rfl, .inl (HK2'.out (by omega)).symm, rfl⟩
    case round =>
      obtain ⟨kj, rfl, hkj, hwr⟩ := hrel
      subst hwr
      by_cases hje : kj = k2
      case neg =>
        obtain ⟨ek, h59'⟩ : kj = kk ∧ t1 < 59 := by rcases hkj with h | h; exact absurd h hje; exact h
        subst ek
        obtain ⟨e1, e2⟩ := HK2.out h59'
        clear hkj
        go_wp2
        exact ⟨⟨k2, rfl, .inl rfl, trivial⟩, by show (if k2 = k2 then 0 else 1) < (if kj = k2 then 0 else 1); rw [if_pos rfl, if_neg hje]; omega⟩
      subst hje
      clear hkj HK2 HK2' hP1 ht1 f1
      have hP2 := HP2.out
      have ht2 := HT2.out
      have ht2b : t2 ≤ 8600000 := by
        have h1 : t2.natAbs = (f + P2).natAbs / (n : Int).natAbs := by rw [← ht2, Int.natAbs_tdiv]; rfl
        have h2 := Nat.div_le_self (f + P2).natAbs (n : Int).natAbs
        omega
      have f1 : IntKind.i64.wrap t2 = t2 := by rw [IntKind.wrap_i64]; omega
      clear HP2 HT2
      obtain ⟨q2_0, q2_1, q2_2⟩ := (LL.out.blk 0 rfl).c3
      go_wp2_with fail
      skip
      refine (HLF.out _ HUU.out).mono ?_
      rintro e wk ⟨An, nn, cn, rfl, hu2, hb2⟩
      replace LL := stL LL hb2
      replace HUU := Lib.hid (HUU.out.below hb2)
      replace HVV := Lib.hid (HVV.out.below hb2)
      clear hb2
      have HNN := Lib.hid hu2
      have HDD := HVV
      rw [HAB.out.2] at HDD
      clear hu2 HLF HUU HVV q2_0 q2_1 q2_2
      go_wp2_with fail
      refine (HBY.out _ _ _ _ _ _ _ HNN.out HDD.out).mono ?_
      rintro e wk ⟨Ab, nb, cb, Ar, nr, cr, rfl, hub, -, hb3⟩
      replace LL := stL LL hb3
      replace HNN := Lib.hid (HNN.out.below hb3)
      replace HDD := Lib.hid (HDD.out.below hb3)
      clear hb3 HBY
      have HUB := Lib.hid hub
      clear hub
      have HWB := Lib.hid LL.out.b
      clear LL
      go_wp2
      go_loopw [14, 15] (fun rv iv wr => ∃ k : Nat, iv = .int .i64 ((k : Int) - 1) ∧ rv = .int .u64 ((hi R k : Nat) : Int) ∧ k ≤ 63 ∧ U32s wr Ab nb cb (digs (a / b)) ∧ U32s wr An nn cn (digs a) ∧ U32s wr B m1 d1 (digs b) ∧ Below w.heap.size w wr) (fun _ iv _ => (intOf iv + 1).toNat)
      case atStart => exact ⟨63, rfl, by rw [hi_top hR2]; rfl, by omega, HUB.out, HNN.out, HDD.out, HWB.out⟩
      case round =>
        obtain ⟨k, rfl, rfl, hk, hub, hun, hud, hbw⟩ := hrel
        clear HUB HNN HDD HWB
        have HUB := Lib.hid hub
        have HNN := Lib.hid hun
        have HDD := Lib.hid hud
        have HWB := Lib.hid hbw
        clear hub hun hud hbw
        have hlr := hi_le R k
        obtain ⟨r0, hr0⟩ : ∃ r, hi R k = r := ⟨_, rfl⟩
        rw [hr0] at hlr ⊢
        have HR0 := Lib.hid hr0
        clear hr0
        rcases Nat.eq_zero_or_pos k with h0 | h0
        case inr =>
          obtain ⟨i, rfl⟩ : ∃ i, k = i + 1 := ⟨k - 1, by omega⟩
          rw [show (((i + 1 : Nat) : Int) - 1) = (i : Int) from by omega]
          obtain ⟨s1, s2⟩ := hi_step R i
          have so := hi_or R i
          rw [HR0.out] at s1 s2 so
          obtain ⟨P, hP⟩ : ∃ P, 2 ^ i = P := ⟨_, rfl⟩
          have hP1 : 0 < P := by rw [← hP]; exact Nat.two_pow_pos i
          have hP2' : P ≤ 4611686018427387904 := by rw [← hP]; exact (show 2 ^ i ≤ 2 ^ 62 from Nat.pow_le_pow_right (by omega) (by omega))
          have hsh := sh_one (show i < 63 by omega) hP
          have HTL := Lib.hid fun (h : lg ≤ n * i) => try_long (t := r0 + P) HRR.out (i := i) (by rw [hP]; omega) (by rw [HLGE.out]; exact h)
          rw [hP] at s1 s2 so
          obtain ⟨t, ht⟩ : ∃ t, r0 + P = t := ⟨_, rfl⟩
          have hor : bits .or .u64 (r0 : Int) (P : Int) = (t : Int) := by rw [u64_or_nat _ _ (by omega) (by omega), so, ht]
          rw [ht] at s1 s2 HTL
          have ht64 : t < 18446744073709551616 := by omega
          have ht0' : 0 < t := by omega
          have HS1 := Lib.hid s1
          have HS2 := Lib.hid s2
          have HTI := Lib.hid (try_iff (t := t) HRR.out)
          obtain ⟨ni, hni⟩ : ∃ x, n * i = x := ⟨_, rfl⟩
          have hni1 : (n : Int) * (i : Int) = (ni : Int) := by rw [← hni]; simp
          have hni2 : ni ≤ 1024 * 62 := by rw [← hni]; exact Nat.mul_le_mul hn2 (by omega)
          rw [hni] at HTL
          clear s1 s2 so ht hP hni HR0 h0
          have HLG' := Lib.hid (HLG.out _ _ _ _ HUB.out)
          go_wp2_with fail
          refine HLG'.out.mono ?_
          rintro e w1 ⟨rfl, hb1⟩
          replace HUB := Lib.hid (HUB.out.below hb1)
          replace HNN := Lib.hid (HNN.out.below hb1)
          replace HDD := Lib.hid (HDD.out.below hb1)
          replace HWB := stB HWB hb1
          clear hb1 HLG' hsh hor
          by_cases hl : ni < lg
          case neg =>
            have hl1 : ¬ (ni : Int) < (lg : Int) := by omega
            have e1 := HS2.out (HTL.out (by omega))
            have hd : decide (ni < lg) = false := decide_eq_false hl
            clear HS1 HS2 HTI HTL
            go_wp2
            exact ⟨⟨i, rfl, by rw [e1], by omega, HUB.out, HNN.out, HDD.out, HWB.out⟩, by simp [intOf]⟩
          have hl1 : (ni : Int) < (lg : Int) := by omega
          clear HTL
          have HSM' := Lib.hid (HSM.out w1 t ht64)
          go_wp2_with fail
          refine HSM'.out.mono ?_
          rintro e w2 ⟨A2, m2, c2, rfl, hu2, hb2⟩
          have HP' := Lib.hid (HPW.out _ _ _ _ t hu2 ht0' ht64)
          replace HUB := Lib.hid (HUB.out.below hb2)
          replace HNN := Lib.hid (HNN.out.below hb2)
          replace HDD := Lib.hid (HDD.out.below hb2)
          replace HWB := stB HWB hb2
          clear hb2 hu2 HSM'
          go_wp2_with fail
          refine HP'.out.mono ?_
          rintro e w3 ⟨A3, m3, c3, rfl, hu3, hb3⟩
          replace HUB := Lib.hid (HUB.out.below hb3)
          replace HNN := Lib.hid (HNN.out.below hb3)
          replace HDD := Lib.hid (HDD.out.below hb3)
          replace HWB := stB HWB hb3
          obtain ⟨cv, hcv⟩ : ∃ cv, cmp3 (t ^ n) (a / b) = cv := ⟨_, rfl⟩
          have HC' := Lib.hid (HCP.out _ _ _ _ t _ _ _ cv hcv hu3 HUB.out)
          have HCV := Lib.hid (show ¬ 0 < cv ↔ t ^ n ≤ a / b from by rw [← hcv, cmp3_pos]; omega)
          clear hb3 hu3 HP' hcv
          go_wp2_with fail
          refine HC'.out.mono ?_
          rintro e w4 ⟨rfl, hb4⟩
          replace HUB := Lib.hid (HUB.out.below hb4)
          replace HNN := Lib.hid (HNN.out.below hb4)
          replace HDD := Lib.hid (HDD.out.below hb4)
          replace HWB := stB HWB hb4
          clear hb4 HC'
          have hcv := HCV.out
          have hti := HTI.out
          have s1 := HS1.out
          have s2 := HS2.out
          clear HCV HTI HS1 HS2
          by_cases hc0 : cv ≤ 0
          · have e1 := s1 (hti.1 (hcv.1 (by omega)))
            clear s1 s2 hti hcv
            go_wp2
            exact ⟨⟨i, rfl, by rw [e1], by omega, HUB.out, HNN.out, HDD.out, HWB.out⟩, by simp [intOf]⟩
          · have e1 := s2 (fun h => hc0 (by have := hcv.2 (hti.2 h); omega))
            clear s1 s2 hti hcv
            go_wp2
            exact ⟨⟨i, rfl, by rw [e1], by omega, HUB.out, HNN.out, HDD.out, HWB.out⟩, by simp [intOf]⟩
        case inl =>
          subst h0
          obtain rfl : R = r0 := by rw [← HR0.out, hi_zero]
          clear HR0
          have HSM' := Lib.hid (HSM.out wr R (by omega))
          go_wp2_with fail
          refine HSM'.out.mono ?_
          rintro e w2 ⟨A2, m2, c2, rfl, hu2, hb2⟩
          have HP' := Lib.hid (HPW.out _ _ _ _ R hu2 (by omega) (by omega))
          replace HNN := Lib.hid (HNN.out.below hb2)
          replace HDD := Lib.hid (HDD.out.below hb2)
          replace HWB := stB HWB hb2
          clear hb2 hu2 HSM' HUB HPW
          go_wp2_with fail
          refine HP'.out.mono ?_
          rintro e w3 ⟨A3, m3, c3, rfl, hu3, hb3⟩
          replace HNN := Lib.hid (HNN.out.below hb3)
          replace HDD := Lib.hid (HDD.out.below hb3)
          replace HWB := stB HWB hb3
          have HC' := Lib.hid (HTM.out _ _ _ _ _ _ _ hu3 HDD.out)
          clear hb3 hu3 HP' HTM
          go_wp2_with fail
          refine HC'.out.mono ?_
          rintro e w4 ⟨A4, m4, c4, rfl, hu4, hb4⟩
          replace HNN := Lib.hid (HNN.out.below hb4)
          replace HWB := stB HWB hb4
          have HQ' := Lib.hid (HCQ.out _ _ _ _ _ _ _ hu4 HNN.out)
          clear hb4 hu4 HC' HCQ HDD HNN
          go_wp2_with fail
          refine HQ'.out.mono ?_
          rintro e w5 ⟨rfl, hb5⟩
          replace HWB := stB HWB hb5
          clear hb5 HQ'
          have hov := HOV.out
          clear HOV HRR HLGE HLG HCP HPK HQK HAK HBK
          by_cases hc0 : cc = 0
          case' pos =>
            obtain rfl : ov = 0 := by rw [if_pos hc0] at hov; exact hov.symm
            have HSM2 := Lib.hid fun W => HSM.out W 0 (by omega)
          case' neg =>
            obtain rfl : ov = 1 := by rw [if_neg hc0] at hov; exact hov.symm
            have HSM2 := Lib.hid fun W => HSM.out W 1 (by omega)
          all_goals
            clear hov
            go_wp2_with fail
            refine (HSM.out _ R (by omega)).mono ?_
            rintro e w6 ⟨A6, m6, c6, rfl, hu6, hb6⟩
            replace HWB := stB HWB hb6
            have HC' := Lib.hid (HL1'.out _ _ _ _ hu6)
            clear hu6 hb6 HL1'
            go_wp2_with fail
            refine HC'.out.mono ?_
            rintro e w7 ⟨A7, m7, c7, rfl, hu7, hb7⟩
            replace HWB := stB HWB hb7
            have HU7 := Lib.hid hu7
            clear hu7 hb7 HC'
            go_wp2_with fail
            refine (HSM2.out _).mono ?_
            rintro e w8 ⟨A8, m8, c8, rfl, hu8, hb8⟩
            replace HWB := stB HWB hb8
            have HC' := Lib.hid (HPL.out _ _ _ _ _ _ _ (HU7.out.below hb8) hu8)
            clear hu8 hb8 HU7 HSM HSM2 HPL
            go_wp2_with fail
            refine HC'.out.mono ?_
            rintro e w9 ⟨A9, m9, c9, rfl, hu9, hb9⟩
            replace HWB := stB HWB hb9
            have hl1 : U32s (w9.alloc (.cells #[.int .u32 1] 117)) (some ⟨w9.heap.size, 0, none⟩) 1 1 (digs 1) := by rw [digs_one]; exact U32s.lit1 w9 117 (a := 1) (by omega)
            have HF' := Lib.hid (HFIN.out _ _ _ _ _ (hu9.alloc (.cells #[.int .u32 1] 117)) hl1)
            replace HWB := stB HWB (below_alloc w9 (.cells #[.int .u32 1] 117))
            clear hu9 hb9 hl1 HC' HFIN
            go_wp2_with fail
            refine HF'.out.mono ?_
            rintro e w10 ⟨g10, A10, m10, c10, B10, n10, d10, rfl, hr10, hb10⟩
            replace HWB := stB HWB hb10
            have HB' := Lib.hid (HBIT.out _ _ _ _ _ _ _ _ hr10)
            clear hr10 hb10 HF' HBIT
            go_wp2_with fail
            refine HB'.out.mono ?_
            rintro e w11 ⟨rfl, hb11⟩
            replace HWB := stB HWB hb11
            clear hb11 HB'
            go_wp2
            go_ret
            exact ⟨rfl, HWB.out⟩
set_option maxRecDepth 8000 in
theorem rootof_neg (d : Int) (n p q a b g R lp lq lg : Nat) (f k1 k2 P1 P2 t0 t1 t2 cc : Int) (ov z K K2 : Nat) (y : Rat) (A : Option Addr) (n1 c1 : Nat) (B : Option Addr) (m1 d1 : Nat) (w : World)
    (hu : U32s w A n1 c1 (digs p)) (hv : U32s w B m1 d1 (digs q)) (hpK : p < 2 ^ (32 * K)) (hqK : q < 2 ^ (32 * K)) (haK : a < 2 ^ (32 * K2)) (hbK : b < 2 ^ (32 * K2)) (hK : K ≤ 1048576) (hK2 : K2 ≤ 2097152)
    (hRS : ∀ W, Below w.heap.size w W → Calls Tryz.prog 42 #[.agg #[.bool false, .slice A n1 c1, .slice B m1 d1]] W fun e w' => e = .returned (.int .i64 1) ∧ Below W.heap.size W w')
    (hlp : blen p = lp) (hlq : blen q = lq) (hlpb : lp ≤ 67108864) (hlqb : lq ≤ 67108864) (hf : (lp : Int) - (lq : Int) = f) (hn : 0 < n) (hn2 : n ≤ 1024)
    (ht0 : (f + (n : Int) * 60).tdiv n = t0) (hk1 : 61 < t0 → 60 - (t0 - 60) = k1 ∧ 60 ≠ k1) (hk1' : ¬ 61 < t0 → k1 = 60) (hP1 : (n : Int) * k1 = P1) (ht1 : (f + P1).tdiv n = t1) (h61 : ¬ 61 < t1)
    (hk2 : t1 < 59 → k1 + (60 - t1) = k2 ∧ k1 ≠ k2) (hk2' : ¬ t1 < 59 → k2 = k1) (hP2 : (n : Int) * k2 = P2) (ht2 : (f + P2).tdiv n = t2) (h59 : ¬ t2 < 59)
    (bk : -4300000 ≤ k1 ∧ k1 ≤ 4300000 ∧ -4300000 ≤ k2 ∧ k2 ≤ 4300000 ∧ -4300000 ≤ P1 ∧ P1 ≤ 4300000 ∧ -4300000 ≤ P2 ∧ P2 ≤ 4300000 ∧ -4300000 ≤ t0 ∧ t0 ≤ 4300000 ∧ -4300000 ≤ t1 ∧ t1 ≤ 4300000) (hfb : -4194304 ≤ f ∧ f ≤ 4194304)
    (hg : -P2 = (g : Int)) (hk0 : k2 < 0) (hab : p = a ∧ q * 2 ^ g = b) (hb0 : 0 < b) (hR : IsR (a / b) n R) (hlg : blen (a / b) = lg) (hlgb : lg ≤ 67108864) (hR1 : 144115188075855872 ≤ R) (hR2 : R < 4611686018427387904) (hcc : cmp3 (R ^ n * b) a = cc) (hov : (if cc = 0 then 0 else 1) = ov)
    (hfin : ∀ W C m' d' D, U32s W C m' d' (digs (2 * R + ov)) → U32s W D 1 1 (digs 1) → Calls Tryz.prog 96 #[.bool false, .slice C m' d', .slice D 1 1, .int .i64 (-k2 - 1)] W (NewRatS W 70000 y))
    (hbit : ∀ W g' C m' d' D n' e', RatV W 70000 g' (.slice C m' d') (.slice D n' e') y → Calls Tryz.prog 207 #[.int .i64 d, .agg #[.bool g', .slice C m' d', .slice D n' e']] W fun e w' => e = .returned (.int .u64 (z : Int)) ∧ Below W.heap.size W w') :
    Calls Tryz.prog 237 #[.int .i64 d, .agg #[.bool false, .slice A n1 c1, .slice B m1 d1], .int .i64 (n : Int)] w fun e w' => e = .returned (.int .u64 (z : Int)) ∧ Below w.heap.size w w' := by
  have HU := Lib.hid hu
  have HV := Lib.hid hv
  have hn1 := hu.len_le hpK
  have hm1 := hv.len_le hqK
  have HRS := Lib.hid hRS
  have HL1 := Lib.hid fun W (h : U32s W A n1 c1 (digs p)) => len_b h hlp
  have HL2 := Lib.hid fun W (h : U32s W B m1 d1 (digs q)) => len_b h hlq
  have HK1 := Lib.hid hk1
  have HK1' := Lib.hid hk1'
  have HK2 := Lib.hid hk2
  have HK2' := Lib.hid hk2'
  have HAB := Lib.hid hab
  have HRR := Lib.hid hR
  have HLGE := Lib.hid hlg
  have HLG := Lib.hid fun W C m' d' (h : U32s W C m' d' (digs (a / b))) => len_b h hlg
  have HCC := Lib.hid hcc
  have HOV := Lib.hid hov
  have HFIN := Lib.hid hfin
  have HBIT := Lib.hid hbit
  have hn0 : ¬ (n : Int) = 0 := by omega
  have HP1 := Lib.hid hP1
  have HP2 := Lib.hid hP2
  have HT0 := Lib.hid ht0
  have HT1 := Lib.hid ht1
  have HT2 := Lib.hid ht2
  have HPK := Lib.hid hpK
  have HQK := Lib.hid hqK
  have HAK := Lib.hid haK
  have HBK := Lib.hid hbK
  have HG := Lib.hid hg
  have HB0 := Lib.hid hb0
  obtain ⟨S, hS1, hS2, hS3⟩ : ∃ S : Nat, 2 ≤ S ∧ 2048 ≤ S ∧ S ≤ 1073741824 := ⟨2048, by omega, by omega, by omega⟩
  have HLF := Lib.hid (show ∀ W, U32s W B m1 d1 (digs q) → Calls Tryz.prog 166 #[.slice B m1 d1, .int .i64 (-P2)] W (NewU32 W (digs b)) from fun W h => by rw [hg, ← hab.2]; exact left_v B m1 d1 g W h (by omega) (by omega))
  have HBY := Lib.hid fun W An nn cn Ad nd cd (h : U32s W An nn cn (digs a)) (h2 : U32s W Ad nd cd (digs b)) => by_v An Ad nn cn nd cd W h h2 (by have := h.len_le haK; omega) (by have := h2.len_le hbK; omega) hb0
  have HSM := Lib.hid fun W (v : Nat) (hv : v < 18446744073709551616) => small_any v W hv
  have HPW := Lib.hid fun W A' m' c' (t : Nat) (h : U32s W A' m' c' (digs t)) (h0 : 0 < t) (h1 : t < 18446744073709551616) => power_v (n := n) (S := S) h h0 (lt_64 hS1 h1) hn (pow_lt_64 hS2 h1 hn hn2) hS3 (by omega)
  have HCP := Lib.hid fun W A' m' c' (t : Nat) (B' : Option Addr) (m'' c'' : Nat) (cv : Int) (hc : cmp3 (t ^ n) (a / b) = cv) (h : U32s W A' m' c' (digs (t ^ n))) (h2 : U32s W B' m'' c'' (digs (a / b))) => cmp_b6 h h2 hc
  have HTM := Lib.hid fun W A' m' c' Ad nd cd (h : U32s W A' m' c' (digs (R ^ n))) (h2 : U32s W Ad nd cd (digs b)) => times_v h h2 (by have := h.len_le (pow_lt_64 (t := R) hS2 (by omega) hn hn2); omega) (by have := h2.len_le hbK; omega)
  have HCQ := Lib.hid fun W A' m' c' An nn cn (h : U32s W A' m' c' (digs (R ^ n * b))) (h2 : U32s W An nn cn (digs a)) => cmp_b6 h h2 hcc
  have HL1' := Lib.hid fun W A' m' c' (h : U32s W A' m' c' (digs R)) => left_d1 h (by have := h.len_le (show R < 2 ^ (32 * 2) by omega); omega)
  have HPL := Lib.hid fun W A' m' c' B' m'' c'' (h : U32s W A' m' c' (digs (2 * R))) (h2 : U32s W B' m'' c'' (digs ov)) => plus_v6 h h2 (by have := h.len_le (show 2 * R < 2 ^ (32 * 2) by omega); omega) (by have := h2.len_le (show ov < 2 ^ (32 * 1) by rw [← hov]; split <;> omega); omega)
  have hov1 : ov ≤ 1 := by rw [← hov]; split <;> omega
  obtain ⟨bk1, bk2, bk3, bk4, bk5, bk6, bk7, bk8, bk9, bk10, bk11, bk12⟩ := bk
  clear hu hv hpK hqK haK hbK hRS hlp hlq hk1 hk1' hk2 hk2' hab hR hlg hcc hov hfin hbit hP1 hP2 ht0 ht1 ht2 hg hb0 hS1 hS2 hS3
  have LL := li1 w #[.bool false, .slice A n1 c1, .slice B m1 d1] 42
  have HUU := Lib.hid (HU.out.below LL.out.b)
  have HVV := Lib.hid (HV.out.below LL.out.b)
  clear HU HV
  go_enter Tryz.func237, Tryz.ntmps237
  obtain ⟨q1_0, q1_1, q1_2⟩ := (LL.out.blk 0 rfl).c3
  go_wp2_with fail
  refine (HRS.out _ LL.out.b).mono ?_
  rintro e wk ⟨rfl, hb⟩
  replace LL := stL LL hb
  replace HUU := Lib.hid (HUU.out.below hb)
  replace HVV := Lib.hid (HVV.out.below hb)
  clear hb q1_0 q1_1 q1_2
  clear HRS
  go_upto_region 4 with fail
  refine regL LL (fun hHeld => ?_)
  clear LL
  replace HUU := Lib.hid (HUU.out.below (Below.refl _ _).drew)
  replace HVV := Lib.hid (HVV.out.below (Below.refl _ _).drew)
  generalize World.drew _ = wk at hHeld HUU HVV ⊢
  refine tk 0 ?_
  try simp only [Act.put, lay]
  refine tk 1 ?_ (hv := by intro W2 hSw; obtain ⟨q0, q1, q2⟩ := (hSw.blk 0 rfl).c3; go_simp; (try with_reducible rfl))
  try simp only [Act.put, lay]
  refine tk 3 ?_
  try simp only [Act.put, lay]
  refine tk 4 ?_ (hv := by intro W2 hSw; obtain ⟨q0, q1, q2⟩ := (hSw.blk 0 rfl).c3; go_simp; (try with_reducible rfl))
  try simp only [Act.put, lay]
  refine rdy 2 (fun KK hKK => ?_)
  go_simp
  refine (HL1.out _ HUU.out).mono ?_
  rintro e wk ⟨rfl, hb1⟩
  go_wp2_with fail
  refine hKK.out _ _ (hHeld.keep hb1) (fun _ => ?_)
  clear hKK KK hHeld
  rename_i hHeld
  try simp only [Act.put, lay]
  replace HUU := Lib.hid (HUU.out.below hb1)
  replace HVV := Lib.hid (HVV.out.below hb1)
  clear hb1
  refine rdy 5 (fun KK hKK => ?_)
  go_simp
  refine (HL2.out _ HVV.out).mono ?_
  rintro e wk ⟨rfl, hb2⟩
  go_wp2_with fail
  refine hKK.out _ _ (hHeld.keep hb2) (fun _ => ?_)
  clear hKK KK hHeld
  rename_i hHeld
  try simp only [Act.put, lay]
  replace HUU := Lib.hid (HUU.out.below hb2)
  replace HVV := Lib.hid (HVV.out.below hb2)
  clear hb2
  refine tk 6 ?_
  try simp only [Act.put, lay]
  refine tk 7 ?_
  try simp only [Act.put, lay]
  refine wpAnyH_done (by kernel_rfl) ?_ _
  have LL := Lib.hid hHeld
  clear hHeld
  clear HL1 HL2
  obtain ⟨wa, rfl⟩ : ∃ X, X = wk := ⟨_, rfl⟩
  go_wp2
  go_loopw [9] (fun kv wr => ∃ kk : Int, kv = .int .i64 kk ∧ (kk = k1 ∨ (kk = 60 ∧ 61 < t0)) ∧ wr = wa) (fun kv _ => if intOf kv = k1 then 0 else 1)
  case atStart =>
    by_cases h : 61 < t0
    · exact ⟨60, rfl, .inr ⟨rfl, h⟩, rfl⟩
    · exact ⟨60, rfl, .inl (HK1'.out (by omega)).symm, rfl⟩
  case round =>
    obtain ⟨kk, rfl, hkk, hwr⟩ := hrel
    subst hwr
    by_cases hke : kk = k1
    case neg =>
      obtain ⟨rfl, h60⟩ : kk = 60 ∧ 61 < t0 := by rcases hkk with h | h; exact absurd h hke; exact h
      obtain ⟨e1, e2⟩ := HK1.out h60
      have ht0 := HT0.out
      have f1 : IntKind.i64.wrap t0 = t0 := by rw [IntKind.wrap_i64]; omega
      clear hkk
      go_wp2
      exact ⟨⟨k1, rfl, .inl rfl, trivial⟩, by show (if k1 = k1 then 0 else 1) < (if (60 : Int) = k1 then 0 else 1); rw [if_pos rfl, if_neg e2]; omega⟩
    subst hke
    clear hkk HK1 HK1'
    have hP1 := HP1.out
    have ht1 := HT1.out
    have f1 : IntKind.i64.wrap t1 = t1 := by rw [IntKind.wrap_i64]; omega
    clear HP1 HT1
    go_wp2
    go_loopw [9] (fun kv wr' => ∃ kj : Int, kv = .int .i64 kj ∧ (kj = k2 ∨ (kj = kk ∧ t1 < 59)) ∧ wr' = wr) (fun kv _ => if intOf kv = k2 then 0 else 1)
    case atStart =>
      by_cases h : t1 < 59
      · exact ⟨kk, rfl, .inr ⟨rfl, h⟩, rfl⟩
      · exact ⟨kk, rfl, .inl (HK2'.out (by omega)).symm, rfl⟩
    case round =>
      obtain ⟨kj, rfl, hkj, hwr⟩ := hrel
      subst hwr
      by_cases hje : kj = k2
      case neg =>
        obtain ⟨ek, h59'⟩ : kj = kk ∧ t1 < 59 := by rcases hkj with h | h; exact absurd h hje; exact h
        subst ek
        obtain ⟨e1, e2⟩ := HK2.out h59'
        clear hkj
        go_wp2
        exact ⟨⟨k2, rfl, .inl rfl, trivial⟩, by show (if k2 = k2 then 0 else 1) < (if kj = k2 then 0 else 1); rw [if_pos rfl, if_neg hje]; omega⟩
      subst hje
      clear hkj HK2 HK2' hP1 ht1 f1
      have hP2 := HP2.out
      have ht2 := HT2.out
      have ht2b : t2 ≤ 8600000 := by
        have h1 : t2.natAbs = (f + P2).natAbs / (n : Int).natAbs := by rw [← ht2, Int.natAbs_tdiv]; rfl
        have h2 := Nat.div_le_self (f + P2).natAbs (n : Int).natAbs
        omega
      have f1 : IntKind.i64.wrap t2 = t2 := by rw [IntKind.wrap_i64]; omega
      clear HP2 HT2
      have hw2 : wrap64 (-(n : Int) * kj) = -P2 := by rw [Int.neg_mul, hP2]; unfold wrap64; omega
      obtain ⟨q2_0, q2_1, q2_2⟩ := (LL.out.blk 0 rfl).c3
      go_wp2_with fail
      skip
      refine (HLF.out _ HVV.out).mono ?_
      rintro e wk ⟨Ad, nd, cd, rfl, hu2, hb2⟩
      replace LL := stL LL hb2
      replace HUU := Lib.hid (HUU.out.below hb2)
      replace HVV := Lib.hid (HVV.out.below hb2)
      clear hb2
      have HDD := Lib.hid hu2
      have HNN := HUU
      rw [HAB.out.1] at HNN
      clear hu2 HLF HUU HVV q2_0 q2_1 q2_2
      go_wp2_with fail
      refine (HBY.out _ _ _ _ _ _ _ HNN.out HDD.out).mono ?_
      rintro e wk ⟨Ab, nb, cb, Ar, nr, cr, rfl, hub, -, hb3⟩
      replace LL := stL LL hb3
      replace HNN := Lib.hid (HNN.out.below hb3)
      replace HDD := Lib.hid (HDD.out.below hb3)
      clear hb3 HBY
      have HUB := Lib.hid hub
      clear hub
      have HWB := Lib.hid LL.out.b
      clear LL
      go_wp2
      go_loopw [14, 15] (fun rv iv wr => ∃ k : Nat, iv = .int .i64 ((k : Int) - 1) ∧ rv = .int .u64 ((hi R k : Nat) : Int) ∧ k ≤ 63 ∧ U32s wr Ab nb cb (digs (a / b)) ∧ U32s wr A n1 c1 (digs a) ∧ U32s wr Ad nd cd (digs b) ∧ Below w.heap.size w wr) (fun _ iv _ => (intOf iv + 1).toNat)
      case atStart => exact ⟨63, rfl, by rw [hi_top hR2]; rfl, by omega, HUB.out, HNN.out, HDD.out, HWB.out⟩
      case round =>
        obtain ⟨k, rfl, rfl, hk, hub, hun, hud, hbw⟩ := hrel
        clear HUB HNN HDD HWB
        have HUB := Lib.hid hub
        have HNN := Lib.hid hun
        have HDD := Lib.hid hud
        have HWB := Lib.hid hbw
        clear hub hun hud hbw
        have hlr := hi_le R k
        obtain ⟨r0, hr0⟩ : ∃ r, hi R k = r := ⟨_, rfl⟩
        rw [hr0] at hlr ⊢
        have HR0 := Lib.hid hr0
        clear hr0
        rcases Nat.eq_zero_or_pos k with h0 | h0
        case inr =>
          obtain ⟨i, rfl⟩ : ∃ i, k = i + 1 := ⟨k - 1, by omega⟩
          rw [show (((i + 1 : Nat) : Int) - 1) = (i : Int) from by omega]
          obtain ⟨s1, s2⟩ := hi_step R i
          have so := hi_or R i
          rw [HR0.out] at s1 s2 so
          obtain ⟨P, hP⟩ : ∃ P, 2 ^ i = P := ⟨_, rfl⟩
          have hP1 : 0 < P := by rw [← hP]; exact Nat.two_pow_pos i
          have hP2' : P ≤ 4611686018427387904 := by rw [← hP]; exact (show 2 ^ i ≤ 2 ^ 62 from Nat.pow_le_pow_right (by omega) (by omega))
          have hsh := sh_one (show i < 63 by omega) hP
          have HTL := Lib.hid fun (h : lg ≤ n * i) => try_long (t := r0 + P) HRR.out (i := i) (by rw [hP]; omega) (by rw [HLGE.out]; exact h)
          rw [hP] at s1 s2 so
          obtain ⟨t, ht⟩ : ∃ t, r0 + P = t := ⟨_, rfl⟩
          have hor : bits .or .u64 (r0 : Int) (P : Int) = (t : Int) := by rw [u64_or_nat _ _ (by omega) (by omega), so, ht]
          rw [ht] at s1 s2 HTL
          have ht64 : t < 18446744073709551616 := by omega
          have ht0' : 0 < t := by omega
          have HS1 := Lib.hid s1
          have HS2 := Lib.hid s2
          have HTI := Lib.hid (try_iff (t := t) HRR.out)
          obtain ⟨ni, hni⟩ : ∃ x, n * i = x := ⟨_, rfl⟩
          have hni1 : (n : Int) * (i : Int) = (ni : Int) := by rw [← hni]; simp
          have hni2 : ni ≤ 1024 * 62 := by rw [← hni]; exact Nat.mul_le_mul hn2 (by omega)
          rw [hni] at HTL
          clear s1 s2 so ht hP hni HR0 h0
          have HLG' := Lib.hid (HLG.out _ _ _ _ HUB.out)
          go_wp2_with fail
          refine HLG'.out.mono ?_
          rintro e w1 ⟨rfl, hb1⟩
          replace HUB := Lib.hid (HUB.out.below hb1)
          replace HNN := Lib.hid (HNN.out.below hb1)
          replace HDD := Lib.hid (HDD.out.below hb1)
          replace HWB := stB HWB hb1
          clear hb1 HLG' hsh hor
          by_cases hl : ni < lg
          case neg =>
            have hl1 : ¬ (ni : Int) < (lg : Int) := by omega
            have e1 := HS2.out (HTL.out (by omega))
            have hd : decide (ni < lg) = false := decide_eq_false hl
            clear HS1 HS2 HTI HTL
            go_wp2
            exact ⟨⟨i, rfl, by rw [e1], by omega, HUB.out, HNN.out, HDD.out, HWB.out⟩, by simp [intOf]⟩
          have hl1 : (ni : Int) < (lg : Int) := by omega
          clear HTL
          have HSM' := Lib.hid (HSM.out w1 t ht64)
          go_wp2_with fail
          refine HSM'.out.mono ?_
          rintro e w2 ⟨A2, m2, c2, rfl, hu2, hb2⟩
          have HP' := Lib.hid (HPW.out _ _ _ _ t hu2 ht0' ht64)
          replace HUB := Lib.hid (HUB.out.below hb2)
          replace HNN := Lib.hid (HNN.out.below hb2)
          replace HDD := Lib.hid (HDD.out.below hb2)
          replace HWB := stB HWB hb2
          clear hb2 hu2 HSM'
          go_wp2_with fail
          refine HP'.out.mono ?_
          rintro e w3 ⟨A3, m3, c3, rfl, hu3, hb3⟩
          replace HUB := Lib.hid (HUB.out.below hb3)
          replace HNN := Lib.hid (HNN.out.below hb3)
          replace HDD := Lib.hid (HDD.out.below hb3)
          replace HWB := stB HWB hb3
          obtain ⟨cv, hcv⟩ : ∃ cv, cmp3 (t ^ n) (a / b) = cv := ⟨_, rfl⟩
          have HC' := Lib.hid (HCP.out _ _ _ _ t _ _ _ cv hcv hu3 HUB.out)
          have HCV := Lib.hid (show ¬ 0 < cv ↔ t ^ n ≤ a / b from by rw [← hcv, cmp3_pos]; omega)
          clear hb3 hu3 HP' hcv
          go_wp2_with fail
          refine HC'.out.mono ?_
          rintro e w4 ⟨rfl, hb4⟩
          replace HUB := Lib.hid (HUB.out.below hb4)
          replace HNN := Lib.hid (HNN.out.below hb4)
          replace HDD := Lib.hid (HDD.out.below hb4)
          replace HWB := stB HWB hb4
          clear hb4 HC'
          have hcv := HCV.out
          have hti := HTI.out
          have s1 := HS1.out
          have s2 := HS2.out
          clear HCV HTI HS1 HS2
          by_cases hc0 : cv ≤ 0
          · have e1 := s1 (hti.1 (hcv.1 (by omega)))
            clear s1 s2 hti hcv
            go_wp2
            exact ⟨⟨i, rfl, by rw [e1], by omega, HUB.out, HNN.out, HDD.out, HWB.out⟩, by simp [intOf]⟩
          · have e1 := s2 (fun h => hc0 (by have := hcv.2 (hti.2 h); omega))
            clear s1 s2 hti hcv
            go_wp2
            exact ⟨⟨i, rfl, by rw [e1], by omega, HUB.out, HNN.out, HDD.out, HWB.out⟩, by simp [intOf]⟩
        case inl =>
          subst h0
          obtain rfl : R = r0 := by rw [← HR0.out, hi_zero]
          clear HR0
          have HSM' := Lib.hid (HSM.out wr R (by omega))
          go_wp2_with fail
          refine HSM'.out.mono ?_
          rintro e w2 ⟨A2, m2, c2, rfl, hu2, hb2⟩
          have HP' := Lib.hid (HPW.out _ _ _ _ R hu2 (by omega) (by omega))
          replace HNN := Lib.hid (HNN.out.below hb2)
          replace HDD := Lib.hid (HDD.out.below hb2)
          replace HWB := stB HWB hb2
          clear hb2 hu2 HSM' HUB HPW
          go_wp2_with fail
          refine HP'.out.mono ?_
          rintro e w3 ⟨A3, m3, c3, rfl, hu3, hb3⟩
          replace HNN := Lib.hid (HNN.out.below hb3)
          replace HDD := Lib.hid (HDD.out.below hb3)
          replace HWB := stB HWB hb3
          have HC' := Lib.hid (HTM.out _ _ _ _ _ _ _ hu3 HDD.out)
          clear hb3 hu3 HP' HTM
          go_wp2_with fail
          refine HC'.out.mono ?_
          rintro e w4 ⟨A4, m4, c4, rfl, hu4, hb4⟩
          replace HNN := Lib.hid (HNN.out.below hb4)
          replace HWB := stB HWB hb4
          have HQ' := Lib.hid (HCQ.out _ _ _ _ _ _ _ hu4 HNN.out)
          clear hb4 hu4 HC' HCQ HDD HNN
          go_wp2_with fail
          refine HQ'.out.mono ?_
          rintro e w5 ⟨rfl, hb5⟩
          replace HWB := stB HWB hb5
          clear hb5 HQ'
          have hov := HOV.out
          clear HOV HRR HLGE HLG HCP HPK HQK HAK HBK
          by_cases hc0 : cc = 0
          case' pos =>
            obtain rfl : ov = 0 := by rw [if_pos hc0] at hov; exact hov.symm
            have HSM2 := Lib.hid fun W => HSM.out W 0 (by omega)
          case' neg =>
            obtain rfl : ov = 1 := by rw [if_neg hc0] at hov; exact hov.symm
            have HSM2 := Lib.hid fun W => HSM.out W 1 (by omega)
          all_goals
            clear hov
            go_wp2_with fail
            refine (HSM.out _ R (by omega)).mono ?_
            rintro e w6 ⟨A6, m6, c6, rfl, hu6, hb6⟩
            replace HWB := stB HWB hb6
            have HC' := Lib.hid (HL1'.out _ _ _ _ hu6)
            clear hu6 hb6 HL1'
            go_wp2_with fail
            refine HC'.out.mono ?_
            rintro e w7 ⟨A7, m7, c7, rfl, hu7, hb7⟩
            replace HWB := stB HWB hb7
            have HU7 := Lib.hid hu7
            clear hu7 hb7 HC'
            go_wp2_with fail
            refine (HSM2.out _).mono ?_
            rintro e w8 ⟨A8, m8, c8, rfl, hu8, hb8⟩
            replace HWB := stB HWB hb8
            have HC' := Lib.hid (HPL.out _ _ _ _ _ _ _ (HU7.out.below hb8) hu8)
            clear hu8 hb8 HU7 HSM HSM2 HPL
            go_wp2_with fail
            refine HC'.out.mono ?_
            rintro e w9 ⟨A9, m9, c9, rfl, hu9, hb9⟩
            replace HWB := stB HWB hb9
            have hl1 : U32s (w9.alloc (.cells #[.int .u32 1] 117)) (some ⟨w9.heap.size, 0, none⟩) 1 1 (digs 1) := by rw [digs_one]; exact U32s.lit1 w9 117 (a := 1) (by omega)
            have HF' := Lib.hid (HFIN.out _ _ _ _ _ (hu9.alloc (.cells #[.int .u32 1] 117)) hl1)
            replace HWB := stB HWB (below_alloc w9 (.cells #[.int .u32 1] 117))
            clear hu9 hb9 hl1 HC' HFIN
            go_wp2_with fail
            refine HF'.out.mono ?_
            rintro e w10 ⟨g10, A10, m10, c10, B10, n10, d10, rfl, hr10, hb10⟩
            replace HWB := stB HWB hb10
            have HB' := Lib.hid (HBIT.out _ _ _ _ _ _ _ _ hr10)
            clear hr10 hb10 HF' HBIT
            go_wp2_with fail
            refine HB'.out.mono ?_
            rintro e w11 ⟨rfl, hb11⟩
            replace HWB := stB HWB hb11
            clear hb11 HB'
            go_wp2
            go_ret
            exact ⟨rfl, HWB.out⟩
end Go.Proofs.YthlmlmfebpjgdaaGreatDoor
