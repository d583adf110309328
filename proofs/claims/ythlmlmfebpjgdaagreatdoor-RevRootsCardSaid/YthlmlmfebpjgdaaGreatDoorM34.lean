/-
Pieces whose bounds are roots: what Within makes of them; vergeref10: rooted, PownRev above 0, SqrRev.
vergeref10.PownRev above 0, by indexes.
vergeref10.SqrtRev, SqrRev by indexes.
Walk: RevRoots.
-/
import Derived.Test.YthlmlmfebpjgdaaGreatDoorM33
import Derived.Test.YthlmlmfebpjgdaaGreatDoorM23
import Derived.Deep.DeepCutAuto
import Derived.Test.YthlmlmfebpjgdaaGreatDoorPRoot2T
import Derived.Test.YthlmlmfebpjgdaaGreatDoorPAddT
import Derived.Test.YthlmlmfebpjgdaaGreatDoorM04
import Derived.Test.YthlmlmfebpjgdaaGreatDoorPCut2T
set_option linter.unusedSimpArgs false
set_option linter.unusedVariables false
set_option maxHeartbeats 12800000

namespace Go.Proofs.YthlmlmfebpjgdaaGreatDoor
open Go.RowKit
theorem ec_drop {i s1 : Int} {x y : Rat} (h : es i ≠ 0 ∨ s1 ≠ 0) : ec (es i) (ex i) s1 x = ec (es i) (ex i) s1 y := by
  unfold ec
  by_cases h1 : es i = s1
  · rw [if_pos h1, if_pos h1, if_neg (by omega), if_neg (by omega)]
  · rw [if_neg h1, if_neg h1]
theorem against_m (K nn : Nat) (hn0 : 0 < nn) (hnn : nn ≤ 1024) (q1 : Rat) (i : Int) (s1 : Int) (g1 : Bool) (A1 : Option Addr) (n1 c1 : Nat) (B1 : Option Addr) (m1 d1 : Nat) (x1 : Rat) (o1 : Bool) (w : World) (hi : -(M : Int) ≤ i ∧ i ≤ M) (h1 : RatV w K g1 (.slice A1 n1 c1) (.slice B1 m1 d1) x1) (hq1 : Rtp nn x1 q1) (hK : 34 ≤ K) (hK2 : K ≤ 1048576) :
    Calls Tryz.prog 208 #[.int .u64 (pat i : Int), .agg #[.int .i64 s1, .bool g1, .slice A1 n1 c1, .slice B1 m1 d1, .int .i64 (nn : Int), .bool o1]] w (Ag w (ec (es i) (ex i) s1 q1)) := by
  have hM : (M : Int) = 9218868437227405312 := rfl
  by_cases h : i = M ∨ i = -(M : Int)
  · rw [ec_drop (y := x1) (.inl (by rcases h with rfl | rfl; rw [es_max]; omega; rw [es_min]; omega))]
    exact against_inf K i s1 g1 A1 n1 c1 B1 m1 d1 x1 o1 w h h1 hK hK2
  · by_cases h0 : s1 = 0
    · subst h0
      rw [es_mid (i := i) (by omega) (by omega), ec_zero, ex_mid (by omega) (by omega)]
      exact against_n K nn hn0 hnn q1 i g1 A1 n1 c1 B1 m1 d1 x1 o1 w (by omega) h1 hq1 hK hK2
    · rw [ec_drop (y := x1) (.inr h0)]
      exact against_far K i s1 g1 A1 n1 c1 B1 m1 d1 x1 o1 w (by omega) h0 h1 hK hK2
theorem within_none_n (N1 N2 : Int) (s1 : Int) (g1 : Bool) (A1 : Option Addr) (n1 c1 : Nat) (B1 : Option Addr) (m1 d1 : Nat) (x1 : Rat) (s2 : Int) (g2 : Bool) (A2 : Option Addr) (n2 c2 : Nat) (B2 : Option Addr) (m2 d2 : Nat) (x2 : Rat) (o1 o2 : Bool) (w : World) :
    Calls Tryz.prog 147 #[.agg #[.int .u64 9218868437227405312, .int .u64 18442240474082181120], .agg #[.bool false, .int .i64 s1, .bool g1, .slice A1 n1 c1, .slice B1 m1 d1, .int .i64 N1, .bool o1, .int .i64 s2, .bool g2, .slice A2 n2 c2, .slice B2 m2 d2, .int .i64 N2, .bool o2]] w fun e w' => e = .returned (.agg #[.int .u64 9218868437227405312, .int .u64 18442240474082181120]) ∧ Below w.heap.size w w' := by
  have HE := Lib.hid empty6
  obtain ⟨LB0, LG0_0, LG1_0, LR⟩ := bx3 w #[.int .u64 9218868437227405312, .int .u64 18442240474082181120] 24 #[.bool false, .int .i64 s1, .bool g1, .slice A1 n1 c1, .slice B1 m1 d1, .int .i64 N1, .bool o1, .int .i64 s2, .bool g2, .slice A2 n2 c2, .slice B2 m2 d2, .int .i64 N2, .bool o2] 84 #[.int .u64 0, .int .u64 0] 24
  have LR0 := Lib.hid (HasBlk.of (n := 2) LR.out rfl rfl)
  clear LR
  go_enter Tryz.func147, Tryz.ntmps147
  go_wp2_with fail
  refine wp_region_held_drew (S := fun W' => Blk W' w.heap.size 24 #[.int .u64 9218868437227405312, .int .u64 18442240474082181120] ∧ Blk W' (w.heap.size + 1) 84 #[.bool false, .int .i64 s1, .bool g1, .slice A1 n1 c1, .slice B1 m1 d1, .int .i64 N1, .bool o1, .int .i64 s2, .bool g2, .slice A2 n2 c2, .slice B2 m2 d2, .int .i64 N2, .bool o2] ∧ HasBlk W' (w.heap.size + 2) 24 2 ∧ Below w.heap.size w W') (by kernel_rfl) (by exact ⟨LG0_0.out.drew, LG1_0.out.drew, LR0.out.drew, LB0.out.drew⟩) (fun hHeld => ?_)
  refine tk 0 ?_
  try simp only [Act.put, lay]
  refine tk 1 ?_ (hv := by intro W2 hSw; obtain ⟨q0, q1, q2, q3, q4, q5, q6, q7, q8, q9, q10, q11, q12⟩ := hSw.2.1.c13; go_simp; (try with_reducible rfl))
  try simp only [Act.put, lay]
  refine tk 2 ?_
  try simp only [Act.put, lay]
  refine tk 3 ?_ (hv := by intro W2 hSw; obtain ⟨q0, q1⟩ := hSw.1.c2; go_simp; (try with_reducible rfl))
  try simp only [Act.put, lay]
  refine rdy 4 (fun KK hKK => ?_)
  go_simp
  refine (HE.out _).mono ?_
  rintro e w1 ⟨rfl, hb1⟩
  go_wp2_with fail
  refine hKK.out _ _ (⟨hHeld.1.keep hb1, hHeld.2.1.keep hb1, hHeld.2.2.1.keep hb1, hHeld.2.2.2.trans (hb1.mono hHeld.2.2.2.size)⟩) (fun _ => ?_)
  clear hKK KK hHeld; rename_i hHeld
  try simp only [Act.put, lay]
  refine tk 5 ?_
  try simp only [Act.put, lay]
  refine tk 6 ?_
  try simp only [Act.put, lay]
  refine wpAnyH_done (by kernel_rfl) ?_ _
  have LB1 := Lib.hid hHeld.2.2.2
  have LR1 := Lib.hid hHeld.2.2.1
  have LG0_1 := Lib.hid hHeld.1
  have LG1_1 := Lib.hid hHeld.2.1
  clear hHeld hb1 LB0 LR0 LG0_0 LG1_0
  go_wp2_with fail
  refine (HE.out _).mono ?_
  rintro e w2 ⟨rfl, hb2⟩
  have LB2 := stB LB1 hb2 LB1.out.size
  have LR2 := stR LR1 hb2
  have LG0_2 := stG LG0_1 hb2
  have LG1_2 := stG LG1_1 hb2
  clear LB1 LR1 LG0_1 LG1_1
  clear hb2
  obtain ⟨ha0, hf0, ha1, hf1⟩ := LR2.out.sf2
  obtain ⟨hk0, hk1⟩ := LR2.out.sc2 (.int .u64 9218868437227405312) (.int .u64 18442240474082181120)
  have F := Lib.hid (below_sets (w0 := w) (r := (w.heap.size + 2)) (by omega) [.int .u64 9218868437227405312, .int .u64 18442240474082181120] 0 _ LB2.out)
  simp [sets] at hk0 hk1
  go_wp2
  refine bodyPost_ret (v := .agg #[.int .u64 9218868437227405312, .int .u64 18442240474082181120]) (by simp [results, Tryz.results147, go_sem, hk0, hk1]) rfl ?_
  exact ⟨rfl, F.out⟩
section
variable {w w' : World} {K n : Nat} {o : Bool} {s1 : Int} {g1 : Bool} {A1 : Option Addr} {n1 c1 : Nat} {B1 : Option Addr} {m1 d1 : Nat} {N1 : Int} {o1 : Bool} {s2 : Int} {g2 : Bool} {A2 : Option Addr} {n2 c2 : Nat} {B2 : Option Addr} {m2 d2 : Nat} {N2 : Int} {o2 : Bool} {x1 x2 q1 q2 : Rat} {F : Int → Int → Int × Int}
theorem pcw_n (hn : 0 < n) (hn2 : n ≤ 1024) (h1 : RatV w K g1 (.slice A1 n1 c1) (.slice B1 m1 d1) x1) (h2 : RatV w K g2 (.slice A2 n2 c2) (.slice B2 m2 d2) x2) (hq1 : Rtp n x1 q1) (hq2 : Rtp n x2 q2) (hK : 34 ≤ K) (hK2 : K ≤ 2000) (hs1 : s1 = 0 ∨ s1 = -1) (hs2 : s2 = 0 ∨ s2 = 1) (hle : dn s1 q1 ≤ up s2 q2) :
    PcW w false s1 g1 A1 n1 c1 B1 m1 d1 n o1 s2 g2 A2 n2 c2 B2 m2 d2 n o2 (pf s1 q1 o1 s2 q2 o2) := by
  refine ⟨pf_iv hs1 hs2 hle, fun W i j hW hij => ?_⟩
  rcases hij with h | ⟨rfl, rfl⟩
  · unfold pf
    rw [if_neg (by omega)]
    refine within_gen i j n n s1 g1 A1 n1 c1 B1 m1 d1 x1 s2 g2 A2 n2 c2 B2 m2 d2 x2 o1 o2 _ _ _ _ _ _ W (by omega) (fun W' hb => ?_) (fun W' hb => ?_) (fun W' hb => ?_) (fun W' hb => ?_) (fun W' hb _ => ?_) (fun W' hb _ => ?_)
    · exact against_m K n hn hn2 q2 i s2 g2 A2 n2 c2 B2 m2 d2 x2 o2 W' (by omega) ((h2.below hW).below hb) hq2 hK (by omega)
    · exact against_m K n hn hn2 q1 j s1 g1 A1 n1 c1 B1 m1 d1 x1 o1 W' (by omega) ((h1.below hW).below hb) hq1 hK (by omega)
    · exact against_m K n hn hn2 q1 i s1 g1 A1 n1 c1 B1 m1 d1 x1 o1 W' (by omega) ((h1.below hW).below hb) hq1 hK (by omega)
    · exact against_m K n hn hn2 q2 j s2 g2 A2 n2 c2 B2 m2 d2 x2 o2 W' (by omega) ((h2.below hW).below hb) hq2 hK (by omega)
    · exact rounded_n K n (-1) s1 x1 q1 g1 A1 n1 c1 B1 m1 d1 o1 W' ((h1.below hW).below hb) hq1 hK2 hn hn2 (.inl rfl)
    · exact rounded_n K n 1 s2 x2 q2 g2 A2 n2 c2 B2 m2 d2 o2 W' ((h2.below hW).below hb) hq2 hK2 hn hn2 (.inr rfl)
  · have hM : M = 9218868437227405312 := rfl
    unfold pf
    rw [if_pos (by omega), pat_max, pat_min]
    exact within_none_n n n s1 g1 A1 n1 c1 B1 m1 d1 x1 s2 g2 A2 n2 c2 B2 m2 d2 x2 o1 o2 W
theorem pcv_n (hn : 0 < n) (hn2 : n ≤ 1024) (h1 : RatV w K g1 (.slice A1 n1 c1) (.slice B1 m1 d1) x1) (h2 : RatV w K g2 (.slice A2 n2 c2) (.slice B2 m2 d2) x2) (hq1 : Rtp n x1 q1) (hq2 : Rtp n x2 q2) (hK : 34 ≤ K) (hK2 : K ≤ 2000) (hs1 : s1 = 0 ∨ s1 = -1) (hs2 : s2 = 0 ∨ s2 = 1) (hle : dn s1 q1 ≤ up s2 q2) :
    PcV w false s1 g1 A1 n1 c1 B1 m1 d1 n o1 s2 g2 A2 n2 c2 B2 m2 d2 n o2 (pf s1 q1 o1 s2 q2 o2) := by
  refine ⟨pcw_n hn hn2 h1 h2 hq1 hq2 hK hK2 hs1 hs2 hle, fun W hW => ?_⟩
  refine (minusp_any K false s1 g1 A1 n1 c1 B1 m1 d1 x1 n o1 s2 g2 A2 n2 c2 B2 m2 d2 x2 n o2 W (h1.below hW) (h2.below hW) (by omega) (by omega) (by omega)).mono ?_
  rintro e w' ⟨g5, A5, n5, c5, B5, m5, d5, g6, A6, n6, c6, B6, m6, d6, rfl, r1, r2, hbw⟩
  refine ⟨_, _, _, _, _, _, _, _, _, _, _, _, _, _, _, _, _, _, _, _, _, rfl, ?_, hbw⟩
  have e : ngF (pf s1 q1 o1 s2 q2 o2) = pf (-s2) (-q2) o2 (-s1) (-q1) o1 := by
    funext i j; rw [pf_neg]; rfl
  rw [e]
  refine pcw_n hn hn2 r1 r2 hq2.neg hq1.neg hK hK2 (by omega) (by omega) ?_
  rw [dn_neg, up_neg]; omega
def PcR (w : World) (n : Nat) (o : Bool) (s1 : Int) (g1 : Bool) (A1 : Option Addr) (n1 c1 : Nat) (B1 : Option Addr) (m1 d1 : Nat) (N1 : Int) (o1 : Bool) (s2 : Int) (g2 : Bool) (A2 : Option Addr) (n2 c2 : Nat) (B2 : Option Addr) (m2 d2 : Nat) (N2 : Int) (o2 : Bool) (F : Int → Int → Int × Int) : Prop :=
  ∀ W, Below w.heap.size w W → Calls Tryz.prog 108 #[.agg #[.bool o, .int .i64 s1, .bool g1, .slice A1 n1 c1, .slice B1 m1 d1, .int .i64 N1, .bool o1, .int .i64 s2, .bool g2, .slice A2 n2 c2, .slice B2 m2 d2, .int .i64 N2, .bool o2], .int .i64 (n : Int)] W (NewPcV W F)
def NewPcR (w : World) (n : Nat) (F : Int → Int → Int × Int) (e : Ending) (w' : World) : Prop :=
  ∃ o s1 g1 A1 n1 c1 B1 m1 d1 N1 o1 s2 g2 A2 n2 c2 B2 m2 d2 N2 o2,
    e = .returned (.agg #[.bool o, .int .i64 s1, .bool g1, .slice A1 n1 c1, .slice B1 m1 d1, .int .i64 N1, .bool o1, .int .i64 s2, .bool g2, .slice A2 n2 c2, .slice B2 m2 d2, .int .i64 N2, .bool o2]) ∧ PcR w' n o s1 g1 A1 n1 c1 B1 m1 d1 N1 o1 s2 g2 A2 n2 c2 B2 m2 d2 N2 o2 F ∧ Below w.heap.size w w'
theorem PcR.below (h : PcR w n o s1 g1 A1 n1 c1 B1 m1 d1 N1 o1 s2 g2 A2 n2 c2 B2 m2 d2 N2 o2 F) (hb : Below w.heap.size w w') : PcR w' n o s1 g1 A1 n1 c1 B1 m1 d1 N1 o1 s2 g2 A2 n2 c2 B2 m2 d2 N2 o2 F :=
  fun W hW => h W (hb.trans (hW.mono hb.size))
end
set_option maxRecDepth 8000 in
theorem rooted_walk (n : Int) (o1 : Bool) (s1 N1 s51 N51 : Int) (p1 p51 : Bool) (g1 : Bool) (A1 : Option Addr) (n1 c1 : Nat) (B1 : Option Addr) (m1 d1 : Nat) (g51 : Bool) (A51 : Option Addr) (n51 c51 : Nat) (B51 : Option Addr) (m51 d51 : Nat) (w : World) :
    Calls Tryz.prog 108 #[.agg #[.bool o1, .int .i64 s1, .bool g1, .slice A1 n1 c1, .slice B1 m1 d1, .int .i64 N1, .bool p1, .int .i64 s51, .bool g51, .slice A51 n51 c51, .slice B51 m51 d51, .int .i64 N51, .bool p51], .int .i64 n] w fun e w' => e = .returned (.agg #[.bool o1, .int .i64 s1, .bool g1, .slice A1 n1 c1, .slice B1 m1 d1, .int .i64 n, .bool p1, .int .i64 s51, .bool g51, .slice A51 n51 c51, .slice B51 m51 d51, .int .i64 n, .bool p51]) ∧ Below w.heap.size w w' := by
  have HB := Lib.hid (show Below w.heap.size w ((w.alloc (.cells #[.bool o1, .int .i64 s1, .bool g1, .slice A1 n1 c1, .slice B1 m1 d1, .int .i64 n, .bool p1, .int .i64 s51, .bool g51, .slice A51 n51 c51, .slice B51 m51 d51, .int .i64 n, .bool p51] 84)).alloc (.cells #[.bool o1, .int .i64 s1, .bool g1, .slice A1 n1 c1, .slice B1 m1 d1, .int .i64 n, .bool p1, .int .i64 s51, .bool g51, .slice A51 n51 c51, .slice B51 m51 d51, .int .i64 n, .bool p51] 84)) from (below_alloc w _).alloc (by simp) _)
  go_enter Tryz.func108, Tryz.ntmps108
  go_wp2
  refine bodyPost_ret (v := .agg #[.bool o1, .int .i64 s1, .bool g1, .slice A1 n1 c1, .slice B1 m1 d1, .int .i64 n, .bool p1, .int .i64 s51, .bool g51, .slice A51 n51 c51, .slice B51 m51 d51, .int .i64 n, .bool p51]) (by simp [results, Tryz.results108, go_sem]) rfl ?_
  exact ⟨rfl, HB.out⟩
section
variable {w w' : World} {K n : Nat} {o : Bool} {s1 : Int} {g1 : Bool} {A1 : Option Addr} {n1 c1 : Nat} {B1 : Option Addr} {m1 d1 : Nat} {N1 : Int} {o1 : Bool} {s2 : Int} {g2 : Bool} {A2 : Option Addr} {n2 c2 : Nat} {B2 : Option Addr} {m2 d2 : Nat} {N2 : Int} {o2 : Bool} {x1 x2 q1 q2 : Rat} {F : Int → Int → Int × Int}
theorem pcr_one (hn : 0 < n) (hn2 : n ≤ 1024) (h1 : RatV w K g1 (.slice A1 n1 c1) (.slice B1 m1 d1) x1) (h2 : RatV w K g2 (.slice A2 n2 c2) (.slice B2 m2 d2) x2) (hq1 : Rtp n x1 q1) (hq2 : Rtp n x2 q2) (hK : 34 ≤ K) (hK2 : K ≤ 2000) (hs1 : s1 = 0 ∨ s1 = -1) (hs2 : s2 = 0 ∨ s2 = 1) (hle : dn s1 q1 ≤ up s2 q2) :
    PcR w n false s1 g1 A1 n1 c1 B1 m1 d1 N1 o1 s2 g2 A2 n2 c2 B2 m2 d2 N2 o2 (pf s1 q1 o1 s2 q2 o2) := by
  intro W hW
  refine (rooted_walk n false s1 N1 s2 N2 o1 o2 g1 A1 n1 c1 B1 m1 d1 g2 A2 n2 c2 B2 m2 d2 W).mono ?_
  rintro e w2 ⟨rfl, hb⟩
  exact ⟨_, _, _, _, _, _, _, _, _, _, _, _, _, _, _, _, _, _, _, _, _, rfl, pcv_n hn hn2 ((h1.below hW).below hb) ((h2.below hW).below hb) hq1 hq2 hK hK2 hs1 hs2 hle, hb⟩
theorem pcr_nothing (h1 : RatV w K g1 (.slice A1 n1 c1) (.slice B1 m1 d1) x1) (h2 : RatV w K g2 (.slice A2 n2 c2) (.slice B2 m2 d2) x2) (hK2 : K ≤ 1048576) (hs1 : -1 ≤ s1 ∧ s1 ≤ 1) (hs2 : -1 ≤ s2 ∧ s2 ≤ 1) :
    PcR w n true s1 g1 A1 n1 c1 B1 m1 d1 N1 o1 s2 g2 A2 n2 c2 B2 m2 d2 N2 o2 (fun _ _ => ((M : Int), -(M : Int))) := by
  intro W hW
  refine (rooted_walk n true s1 N1 s2 N2 o1 o2 g1 A1 n1 c1 B1 m1 d1 g2 A2 n2 c2 B2 m2 d2 W).mono ?_
  rintro e w2 ⟨rfl, hb⟩
  exact ⟨_, _, _, _, _, _, _, _, _, _, _, _, _, _, _, _, _, _, _, _, _, rfl, pcv_nothing ((h1.below hW).below hb) ((h2.below hW).below hb) hK2 hs1 hs2, hb⟩
theorem newPcR_one {e : Ending} (h : NewPiece w K false s1 x1 N1 o1 s2 x2 N2 o2 e w') (hn : 0 < n) (hn2 : n ≤ 1024) (hq1 : Rtp n x1 q1) (hq2 : Rtp n x2 q2) (hK : 34 ≤ K) (hK2 : K ≤ 2000) (hs1 : s1 = 0 ∨ s1 = -1) (hs2 : s2 = 0 ∨ s2 = 1) (hle : dn s1 q1 ≤ up s2 q2) :
    NewPcR w n (pf s1 q1 o1 s2 q2 o2) e w' := by
  obtain ⟨g, A, n, c, B, m, d, g', A', n', c', B', m', d', rfl, h1, h2, hb⟩ := h
  exact ⟨_, _, _, _, _, _, _, _, _, _, _, _, _, _, _, _, _, _, _, _, _, rfl, pcr_one hn hn2 h1 h2 hq1 hq2 hK hK2 hs1 hs2 hle, hb⟩
theorem newPcR_nothing {e : Ending} (h : NewPiece w K true s1 x1 N1 o1 s2 x2 N2 o2 e w') (hK2 : K ≤ 1048576) (hs1 : -1 ≤ s1 ∧ s1 ≤ 1) (hs2 : -1 ≤ s2 ∧ s2 ≤ 1) : NewPcR w n (fun _ _ => ((M : Int), -(M : Int))) e w' := by
  obtain ⟨g, A, n, c, B, m, d, g', A', n', c', B', m', d', rfl, h1, h2, hb⟩ := h
  exact ⟨_, _, _, _, _, _, _, _, _, _, _, _, _, _, _, _, _, _, _, _, _, rfl, pcr_nothing h1 h2 hK2 hs1 hs2, hb⟩
end
set_option maxRecDepth 8000 in
theorem refpown_even (n f1 f2 x1 x2 : Nat) (i2 j2 i4 j4 : Int) (F1 : Int → Int → Int × Int) (L : Nat → Int → Int → Int × Int) (w : World) (hn : 0 < n) (hn2 : n ≤ 1024) (hp : n % 2 = 0) (hx : x1 < 18446744073709551616) (hy : x2 < 18446744073709551616) (hO1 : ∀ W, Calls Tryz.prog 83 #[.agg #[.int .u64 (f1 : Int), .int .u64 (f2 : Int)]] W (NewSetI W i2 j2)) (hW : ∀ W v, SetOf W v i2 j2 → Calls Tryz.prog 82 #[v] W (NewSetI W i4 j4)) (hP : ∀ W v, SetOf W v i4 j4 → Calls Tryz.prog 80 #[v] W (NewPcR W n F1)) (hL0 : F1 = L 0) (hL1 : ngF F1 = L 1) :
    Calls Tryz.prog 40 #[.int .i64 (n : Int), .agg #[.int .u64 (f1 : Int), .int .u64 (f2 : Int)], .agg #[.int .u64 (x1 : Int), .int .u64 (x2 : Int)]] w fun e w' => e = .returned (.agg #[.int .u64 (pat (zg (rd x1 x2).1 (rd x1 x2).2 L 2).1 : Int), .int .u64 (pat (zg (rd x1 x2).1 (rd x1 x2).2 L 2).2 : Int)]) ∧ Below w.heap.size w w' := by
  have q0 : ¬ (n : Int) < -1024 := by omega
  have q1 : ¬ (1024 : Int) < (n : Int) := by omega
  have q2 : ¬ (n : Int) = 0 := by omega
  have q3 : (0 : Int) < (n : Int) := by omega
  have q4 : ((n : Int).tmod 2) = 0 := by rw [Int.tmod_eq_emod_of_nonneg (by omega)]; omega
  clear hn hn2 hp
  have HO1 := Lib.hid hO1
  have HW := Lib.hid hW
  have HP := Lib.hid hP
  clear hO1 hW hP
  have HL0 := Lib.hid hL0
  have HL1 := Lib.hid hL1
  clear hL0 hL1
  have HA := Lib.hid fun W A c h1 h2 h3 => all_pcs x1 x2 A 2 c L W hx hy (by omega) h1 h2 h3
  obtain ⟨r1, hr1⟩ : ∃ p, pat (zg (rd x1 x2).1 (rd x1 x2).2 L 2).1 = p := ⟨_, rfl⟩
  obtain ⟨r2, hr2⟩ : ∃ p, pat (zg (rd x1 x2).1 (rd x1 x2).2 L 2).2 = p := ⟨_, rfl⟩
  rw [hr1, hr2] at HA ⊢
  clear hr1 hr2 hx hy
  have LL := li3 w #[.int .u64 (f1 : Int), .int .u64 (f2 : Int)] 24 #[.int .u64 (x1 : Int), .int .u64 (x2 : Int)] 24 #[.int .u64 0, .int .u64 0] 24
  go_enter Tryz.func40, Tryz.ntmps40
  obtain ⟨q1_0, q1_1⟩ := (LL.out.blk 0 rfl).c2
  go_wp2_with fail
  refine (HO1.out _).mono ?_
  rintro e wk ⟨o2, s2, g2, A2, n2, c2, B2, m2, d2, s52, g52, A52, n52, c52, B52, m52, d52, rfl, hs2, hb⟩
  replace LL := stL LL hb
  clear hb q1_0 q1_1
  have HS2 := Lib.hid hs2
  clear hs2
  go_upto_region 4 with fail
  have hl_j7 := LL.out.lts
  generalize hwn : World.alloc wk _ = wn
  replace HS2 := Lib.hid (HS2.out.below (below_allocE hwn))
  replace LL := Lib.hid (LL.out.newE hwn)
  simp only [List.cons_append, List.nil_append] at LL
  simp only [List.mem_cons, List.not_mem_nil, or_false, forall_eq_or_imp, forall_eq, false_imp_iff, implies_true, and_true] at hl_j7
  clear hwn
  generalize wk.heap.size = j7 at LL hl_j7 ⊢
  clear HO1
  obtain ⟨q2_0, q2_1, q2_2, q2_3, q2_4, q2_5, q2_6, q2_7, q2_8⟩ := (LL.out.blk 3 rfl).c9
  go_wp2_with fail
  refine (HW.out _ _ HS2.out).mono ?_
  rintro e wk ⟨o4, s4, g4, A4, n4, c4, B4, m4, d4, s54, g54, A54, n54, c54, B54, m54, d54, rfl, hs4, hb⟩
  replace LL := stL LL hb
  replace HS2 := Lib.hid (HS2.out.below hb)
  clear hb q2_0 q2_1 q2_2 q2_3 q2_4 q2_5 q2_6 q2_7 q2_8
  have HS4 := Lib.hid hs4
  clear hs4
  go_wp2_with fail
  refine (HP.out _ _ HS4.out).mono ?_
  rintro e wk ⟨o21, s21, g21, A21, n21, c21, B21, m21, d21, N21, p21, s71, g71, A71, n71, c71, B71, m71, d71, N71, p71, rfl, hp21, hb⟩
  replace LL := stL LL hb
  replace HS2 := Lib.hid (HS2.out.below hb)
  replace HS4 := Lib.hid (HS4.out.below hb)
  clear hb
  have HP21 := Lib.hid hp21
  clear hp21
  go_wp2_with fail
  refine (HP21.out _ (Below.refl _ _)).mono ?_
  rintro e wk ⟨o22, s22, g22, A22, n22, c22, B22, m22, d22, N22, p22, s72, g72, A72, n72, c72, B72, m72, d72, N72, p72, rfl, hp22, hb⟩
  replace LL := stL LL hb
  replace HS2 := Lib.hid (HS2.out.below hb)
  replace HS4 := Lib.hid (HS4.out.below hb)
  replace HP21 := Lib.hid (HP21.out.below hb)
  clear hb
  have HP22 := Lib.hid hp22
  clear hp22
  clear HS2 HS4 HP21
  go_upto_region 12 with fail
  have hl_j8 := LL.out.lts
  generalize hwn : World.alloc wk _ = wn
  replace HP22 := Lib.hid (HP22.out.below (below_allocE hwn))
  replace LL := Lib.hid (LL.out.newE hwn)
  simp only [List.cons_append, List.nil_append] at LL
  simp only [List.mem_cons, List.not_mem_nil, or_false, forall_eq_or_imp, forall_eq, false_imp_iff, implies_true, and_true] at hl_j8
  clear hwn
  generalize wk.heap.size = j8 at LL hl_j8 ⊢
  replace LL := Lib.hid (LL.out.loose 2 rfl rfl)
  simp only [List.eraseIdx, List.size_toArray, List.length_cons, List.length_nil, Nat.zero_add, Nat.reduceAdd] at LL
  refine regL LL (fun hHeld => ?_)
  clear LL
  replace HP22 := Lib.hid (HP22.out.below (Below.refl _ _).drew)
  generalize World.drew _ = wk at hHeld HP22 ⊢
  refine tk 0 ?_ (hv := by intro W2 hSw; obtain ⟨q0, q1⟩ := (hSw.blk 1 rfl).c2; go_simp; (try with_reducible rfl))
  try simp only [Act.put, lay]
  refine tk 1 ?_ (hv := by intro W2 hSw; obtain ⟨q0, q1, q2, q3, q4, q5, q6, q7, q8, q9, q10, q11, q12⟩ := (hSw.blk 3 rfl).c13; go_simp; (try with_reducible rfl))
  try simp only [Act.put, lay]
  refine tk 2 ?_ (hv := by intro W2 hSw; obtain ⟨q0, q1, q2, q3, q4, q5, q6, q7, q8, q9, q10, q11, q12⟩ := (hSw.blk 3 rfl).c13; go_simp; (try with_reducible rfl))
  try simp only [Act.put, lay]
  refine rdy 3 (fun KK hKK => ?_)
  go_simp
  refine (HP22.out.2 _ (Below.refl _ _)).mono ?_
  rintro e wk ⟨o23, s23, g23, A23, n23, c23, B23, m23, d23, N23, p23, s73, g73, A73, n73, c73, B73, m73, d73, N73, p73, rfl, hp23, hb1⟩
  go_wp2_with fail
  refine hKK.out _ _ (hHeld.keep hb1) (fun _ => ?_)
  clear hKK KK hHeld
  rename_i hHeld
  try simp only [Act.put, lay]
  (try replace HP22 := Lib.hid (HP22.out.below hb1))
  have HP23 := Lib.hid hp23
  clear hp23
  clear hb1
  refine rdy 4 (fun KK hKK => ?_)
  go_simp
  have hl_js := hHeld.lts
  refine hKK.out _ _ (hHeld.alloc _) (fun _ => ?_)
  clear hKK KK hHeld
  rename_i hHeld
  try simp only [Act.put, lay]
  generalize hwn : World.alloc wk _ = wn at hHeld ⊢
  have B_js := Blk.newE hwn
  (try replace HP22 := Lib.hid (HP22.out.below (below_allocE hwn)))
  (try replace HP23 := Lib.hid (HP23.out.below (below_allocE hwn)))
  simp only [List.mem_cons, List.not_mem_nil, or_false, forall_eq_or_imp, forall_eq, false_imp_iff, implies_true, and_true] at hl_js
  clear hwn
  generalize wk.heap.size = js at B_js hl_js ⊢
  obtain ⟨wk, rfl⟩ : ∃ X, X = wn := ⟨_, rfl⟩
  refine rdy 5 (fun KK hKK => ?_)
  go_simp
  refine (HA.out _ _ _ (Nat.le_refl _) (fun h => absurd h (by omega)) (fun k hk => ⟨_, rfl, by match k, hk with | 0, _ => exact HL0.out ▸ PcG.at B_js 0 (HP22.out.1) ⟨rfl, rfl, rfl, rfl, rfl, rfl, rfl, rfl, rfl, rfl, rfl, rfl, rfl⟩ | 1, _ => exact HL1.out ▸ PcG.at B_js 1 (HP23.out) ⟨rfl, rfl, rfl, rfl, rfl, rfl, rfl, rfl, rfl, rfl, rfl, rfl, rfl⟩⟩)).mono ?_
  rintro e wk ⟨rfl, hb2⟩
  go_wp2_with fail
  refine hKK.out _ _ (hHeld.keep hb2) (fun _ => ?_)
  clear hKK KK hHeld
  rename_i hHeld
  try simp only [Act.put, lay]
  (try replace HP22 := Lib.hid (HP22.out.below hb2))
  (try replace HP23 := Lib.hid (HP23.out.below hb2))
  clear hb2
  refine rdy 6 (fun KK hKK => ?_)
  obtain ⟨ha0, hf0, ha1, hf1⟩ := (hHeld.has 0 rfl).sf2
  obtain ⟨csx, hbx, -, hcx⟩ := hHeld.has 0 rfl
  (try clear HP22)
  (try clear HP23)
  clear hbx hcx
  go_simp
  have HS_0 := (hHeld.has 0 rfl).laid [.int .u64 (r1 : Int), .int .u64 (r2 : Int)] rfl
  refine hKK.out _ _ (hHeld.over 0 rfl [.int .u64 (r1 : Int), .int .u64 (r2 : Int)] rfl rfl (by first | omega | exact hHeld.le_of 0 rfl) (by simp <;> omega) (by simp <;> omega)) (fun _ => ?_)
  clear hKK KK hHeld
  rename_i hHeld
  try simp only [Act.put, lay]
  refine wpAnyH_done (by kernel_rfl) ?_ _
  have LB := Lib.hid hHeld.b
  clear hHeld
  obtain ⟨hk6_0, hk6_1⟩ := HS_0.c2
  clear HS_0
  simp [sets] at hk6_0 hk6_1
  go_wp2
  refine bodyPost_ret (v := .agg #[.int .u64 (r1 : Int), .int .u64 (r2 : Int)]) (by simp [results, Tryz.results40, go_sem, hk6_0, hk6_1]) rfl ?_
  exact ⟨rfl, LB.out⟩
end Go.Proofs.YthlmlmfebpjgdaaGreatDoor

namespace Go.Proofs.YthlmlmfebpjgdaaGreatDoor
open Go.RowKit
noncomputable def rfi (n : Nat) (i : Int) : Rat := if es i ≠ 0 ∨ i = 0 then 0 else if i < 0 then -rootq (-i) n else rootq i n
theorem rfi_ok {n : Nat} {i : Int} (hn : 1 ≤ n) (hn2 : n ≤ 1024) (h : -(M : Int) ≤ i ∧ i ≤ M) : Rtp n (ex i) (rfi n i) := by
  have hM : (M : Int) = 9218868437227405312 := rfl
  unfold rfi
  by_cases h1 : es i ≠ 0
  · rw [if_pos (.inl h1)]; exact .inl ⟨by unfold ex; rw [if_neg h1], rfl⟩
  · have h1' : es i = 0 := Decidable.not_not.1 h1
    have h2 : i ≠ M ∧ i ≠ -(M : Int) := ⟨fun e => by rw [e, es_max] at h1'; omega, fun e => by rw [e, es_min] at h1'; omega⟩
    by_cases h3 : i = 0
    · subst h3; rw [if_pos (.inr rfl), ex_nought]; exact .inl ⟨rfl, rfl⟩
    · rw [if_neg (by omega), ex_mid (by omega) (by omega)]
      by_cases h4 : i < 0
      · rw [if_pos h4]
        refine .inr (.inr ⟨by rw [← fl_zero]; exact fl_lt_iff.2 h4, ?_⟩)
        rw [Rat.neg_neg, ← fl_neg]
        exact RtQ.of (rt_ok (by omega) (by omega) hn hn2)
      · rw [if_neg h4]
        exact .inr (.inl ⟨by rw [← fl_zero]; exact fl_lt_iff.2 (by omega), RtQ.of (rt_ok (by omega) (by omega) hn hn2)⟩)
theorem rfi_rti {n : Nat} {d i : Int} (hd : d = -1 ∨ d = 1) (h : -(M : Int) ≤ i ∧ i ≤ M) : (if es i = 0 then rndI d (rfi n i) else es i * M) = rti d i n := by
  have hM : (M : Int) = 9218868437227405312 := rfl
  unfold rfi rti rt1
  by_cases h1 : i = M
  · subst h1; rw [es_max, if_neg (by omega), if_neg (by omega), if_pos (.inr rfl)]; omega
  by_cases h2 : i = -(M : Int)
  · subst h2; rw [es_min, if_neg (by omega), if_pos (by omega), if_pos (.inr (by omega))]; omega
  rw [es_mid (by omega) (by omega), if_pos rfl]
  by_cases h3 : i = 0
  · subst h3; rw [if_pos (.inr rfl), if_neg (by omega), if_pos (.inl rfl)]; exact rndI_zero hd
  · rw [if_neg (by omega)]
    by_cases h4 : i < 0
    · rw [if_pos h4, if_pos h4, if_neg (by omega), ← rndI_neg (by omega) (rootq (-i) n), Int.neg_neg]
    · rw [if_neg h4, if_neg h4, if_neg (by omega)]
theorem rfi_dn {n : Nat} {i : Int} (h : -(M : Int) ≤ i ∧ i ≤ M) : dn (es i) (rfi n i) = rti (-1) i n := rfi_rti (.inl rfl) h
theorem rfi_up {n : Nat} {i : Int} (h : -(M : Int) ≤ i ∧ i ≤ M) : up (es i) (rfi n i) = rti 1 i n := rfi_rti (.inr rfl) h
theorem rti_neg (d i : Int) (n : Nat) : rti d (-i) n = -rti (-d) i n := by
  unfold rti
  rcases Int.lt_trichotomy i 0 with h | h | h
  · rw [if_neg (by omega), if_pos h]; simp
  · subst h; simp [rt1]
  · rw [if_pos (by omega), if_neg (by omega)]; simp
theorem rti_le {a b : Int} {n : Nat} (hab : a ≤ b) (h : -(M : Int) ≤ a ∧ a < M) (h' : -(M : Int) < b ∧ b ≤ M) (hn : 1 ≤ n) (hn2 : n ≤ 1024) : rti (-1) a n ≤ rti 1 b n := by
  by_cases h0 : 0 ≤ a
  · exact rti_mono h0 hab h.2 h'.2 hn hn2
  · have e := rti_neg 1 (-a) n
    rw [Int.neg_neg] at e
    by_cases h1 : b ≤ 0
    · have e2 := rti_neg (-1) (-b) n
      rw [Int.neg_neg] at e2
      have k := rti_mono (a := -b) (b := -a) (n := n) (by omega) (by omega) (by omega) (by omega) hn hn2
      have e3 := rti_neg (-1) (-a) n
      have e4 := rti_neg 1 (-b) n
      rw [Int.neg_neg] at e3 e4
      rw [show (- -1 : Int) = 1 from rfl] at e3
      omega
    · have k1 := rti_lo (d := 1) (a := -a) (n := n) (.inr rfl) (by omega) (by omega) hn hn2
      have k2 := rti_lo (d := 1) (a := b) (n := n) (.inr rfl) (by omega) (by omega) hn hn2
      have e3 := rti_neg (-1) (-a) n
      rw [Int.neg_neg, show (- -1 : Int) = 1 from rfl] at e3
      omega
noncomputable def FRt (n : Nat) (i1 j1 : Int) (i j : Int) : Int × Int := if j1 < i1 then ((M : Int), -(M : Int)) else pf (es i1) (rfi n i1) (decide (es i1 ≠ 0)) (es j1) (rfi n j1) (decide (es j1 ≠ 0)) i j
theorem FRt_ct {n : Nat} {i1 j1 i j : Int} (h : Iv i1 j1) (h0 : ¬ j1 < i1) (hx : Iv i j) (hx0 : ¬ j < i) : FRt n i1 j1 i j = ct i j (rti (-1) i1 n) (rti 1 i1 n) (rti (-1) j1 n) (rti 1 j1 n) := by
  have hM : (M : Int) = 9218868437227405312 := rfl
  unfold FRt
  rw [if_neg h0]
  have n1 := ne_or h h0
  have n2 := ne_or hx hx0
  unfold Ne at n1 n2
  rw [pf_closed (by unfold es; rw [if_neg (by omega)]; split <;> omega) (by unfold es; split <;> (try split) <;> omega) i j n2, rfi_dn (by omega), rfi_up (by omega), rfi_dn (by omega), rfi_up (by omega)]
theorem FRt_iv {n : Nat} {i1 j1 i j : Int} (hn : 1 ≤ n) (hn2 : n ≤ 1024) (h : Iv i1 j1) (hx : Iv i j) : Iv (FRt n i1 j1 i j).1 (FRt n i1 j1 i j).2 := by
  have hM : (M : Int) = 9218868437227405312 := rfl
  unfold FRt
  by_cases h0 : j1 < i1
  · rw [if_pos h0]; exact Iv.none
  · rw [if_neg h0]
    have n1 := ne_or h h0
    unfold Ne at n1
    refine pf_iv (by unfold es; rw [if_neg (by omega)]; split <;> omega) (by unfold es; split <;> (try split) <;> omega) ?_ i j hx
    rw [rfi_dn (by omega), rfi_up (by omega)]
    exact rti_le (by omega) (by omega) (by omega) hn hn2
theorem piece_root (n : Nat) (hn : 1 ≤ n) (hn2 : n ≤ 1024) (v : Value) (i j : Int) (w : World) (h : SetOf w v i j) : Calls Tryz.prog 80 #[v] w (NewPcR w n (FRt n i j)) := by
  have hM : (M : Int) = 9218868437227405312 := rfl
  rcases h with ⟨rfl, rfl, s, x, t, y, g, A, n0, c, B, m, d, g', A', n', c', B', m', d', rfl, h4, h5⟩ | ⟨h1, g, A, n0, c, B, m, d, g', A', n', c', B', m', d', rfl, h4, h5⟩
  · have e : FRt n (M : Int) (-(M : Int)) = fun _ _ => ((M : Int), -(M : Int)) := by funext i j; unfold FRt; rw [if_pos (by omega)]
    rw [e]
    exact (piece_none 1 _ _ _ _ _ _ _ _ x _ _ _ _ _ _ _ _ y w).mono fun _ _ h => newPcR_nothing h (by omega) (by omega) (by omega)
  · have e : FRt n i j = pf (es i) (rfi n i) (decide (es i ≠ 0)) (es j) (rfi n j) (decide (es j ≠ 0)) := by funext a b; unfold FRt; rw [if_neg (by omega)]
    rw [e]
    refine (piece_some 34 _ g A n0 c B m d _ _ g' A' n' c' B' m' d' _ w h4 h5 (by omega) (fun h => by unfold ex; rw [if_neg h]) (fun h => by unfold ex; rw [if_neg h])).mono fun _ _ h => newPcR_one h hn hn2 (rfi_ok hn hn2 (by omega)) (rfi_ok hn hn2 (by omega)) (by omega) (by omega) ?_ ?_ ?_
    · unfold es; rw [if_neg (by omega)]; split <;> omega
    · unfold es; split <;> (try split) <;> omega
    · rw [rfi_dn (by omega), rfi_up (by omega)]
      exact rti_le (by omega) (by omega) (by omega) hn hn2
theorem lw_iv {i j : Int} (h : Iv i j) : Iv (lwI i j) (lwJ j) := by
  have hM : (M : Int) = 9218868437227405312 := rfl
  unfold lwI lwJ
  by_cases h0 : j < 0
  · rw [if_pos h0, if_pos h0]; exact Iv.none
  · rw [if_neg h0, if_neg h0]
    rcases h with h | h
    · exact .inl (by omega)
    · omega
theorem ng_ct {F : Int → Int → Int × Int} {i j pd pu qd qu : Int} (h : F (-j) (-i) = ct (-j) (-i) pd pu qd qu) : ngF F i j = ct i j (-qu) (-qd) (-pu) (-pd) := by
  unfold ngF
  rw [h]
  unfold ct
  by_cases c : qd < -j ∨ -i < pu
  · rw [if_pos c, if_pos (by omega)]; simp
  · rw [if_neg c, if_neg (by omega), Prod.mk.injEq]; constructor <;> dsimp only <;> omega
theorem ctO_ct (i j pd pu qd qu : Int) : ctO false i j pd pu qd qu = ct i j pd pu qd qu := by
  unfold ctO ct
  split
  · rfl
  · rw [if_neg (by rintro ⟨h, -⟩; cases h)]
theorem pwr_even {n : Nat} (hn : 1 ≤ n) (hn2 : n ≤ 1024) (hp : n % 2 = 0) {i2 j2 i j : Int} (h2 : Iv i2 j2) (hx : Iv i j) :
    zg i j (L2 (FRt n (lwI i2 j2) (lwJ j2)) (ngF (FRt n (lwI i2 j2) (lwJ j2)))) 2 = pwr n i2 j2 i j := by
  have hM : (M : Int) = 9218868437227405312 := rfl
  have hl := lw_iv h2
  have f1 := FRt_iv hn hn2 hl hx
  have f2 := ngF_iv (F := FRt n (lwI i2 j2) (lwJ j2)) (fun a b h => FRt_iv hn hn2 hl h) i j hx
  rw [zg2 f1 f2]
  unfold pwr
  by_cases c1 : j2 < i2 ∨ j2 < 0
  · have e : ∀ a b, FRt n (lwI i2 j2) (lwJ j2) a b = ((M : Int), -(M : Int)) := by
      intro a b
      unfold FRt
      have : j2 < 0 := by rcases h2 with h | h <;> omega
      rw [if_pos (by unfold lwI lwJ; rw [if_pos this, if_pos this]; omega)]
    rw [if_pos (by omega)]
    unfold ngF
    rw [e, e]
    simp
  by_cases c2 : j < i
  · have e : ∀ a b, b < a → FRt n (lwI i2 j2) (lwJ j2) a b = ((M : Int), -(M : Int)) := by
      intro a b hab
      unfold FRt
      split
      · rfl
      · unfold pf; rw [if_pos hab]
    rw [if_pos (by omega)]
    unfold ngF
    rw [e _ _ c2, e _ _ (by omega)]
    simp
  have e1 : lwI i2 j2 = max i2 0 := by unfold lwI; rw [if_neg (by omega)]
  have e2 : lwJ j2 = j2 := by unfold lwJ; rw [if_neg (by omega)]
  rw [e1, e2] at hl ⊢
  rw [if_neg (by omega), if_pos hp]
  have h0 : ¬ j2 < max i2 0 := by omega
  rw [ng_ct (FRt_ct hl h0 hx.negg (by omega)), FRt_ct hl h0 hx c2]
  unfold tw
  rw [ctO_ct, ctO_ct]
theorem refpown_any_even (n f1 f2 x1 x2 : Nat) (w : World) (hn : 1 ≤ n) (hn2 : n ≤ 1024) (hp : n % 2 = 0) (h1 : f1 < 18446744073709551616) (h2 : f2 < 18446744073709551616) (hx : x1 < 18446744073709551616) (hy : x2 < 18446744073709551616) :
    Calls Tryz.prog 40 #[.int .i64 (n : Int), .agg #[.int .u64 (f1 : Int), .int .u64 (f2 : Int)], .agg #[.int .u64 (x1 : Int), .int .u64 (x2 : Int)]] w fun e w' =>
      e = .returned (.agg #[.int .u64 (pat (pwr n (rd f1 f2).1 (rd f1 f2).2 (rd x1 x2).1 (rd x1 x2).2).1 : Int), .int .u64 (pat (pwr n (rd f1 f2).1 (rd f1 f2).2 (rd x1 x2).1 (rd x1 x2).2).2 : Int)]) ∧ Below w.heap.size w w' := by
  have k := refpown_even n f1 f2 x1 x2 _ _ _ _ _ w hn hn2 hp hx hy (fun W => of_i f1 f2 W h1 h2) (fun W v h => lower_any v _ _ W h) (fun W v h => piece_root n hn hn2 v _ _ W h) (L := L2 (FRt n (lwI (rd f1 f2).1 (rd f1 f2).2) (lwJ (rd f1 f2).2)) (ngF (FRt n (lwI (rd f1 f2).1 (rd f1 f2).2) (lwJ (rd f1 f2).2)))) rfl rfl
  rw [pwr_even hn hn2 hp (rd_iv f1 f2) (rd_iv x1 x2)] at k
  exact k
end Go.Proofs.YthlmlmfebpjgdaaGreatDoor

namespace Go.Proofs.YthlmlmfebpjgdaaGreatDoor
open Go.RowKit
theorem pq_self {i : Int} (h : 0 ≤ i ∧ i ≤ M) : ((pq i i).1 = 0 ∨ (pq i i).1 = 1) ∧ ((pq i i).1 ≠ 0 → (pq i i).2 = 0) ∧ (i < M → (pq i i).1 = 0) ∧ dn (pq i i).1 (pq i i).2 = sq (-1) i ∧ up (pq i i).1 (pq i i).2 = sq 1 i := by
  have hM : (M : Int) = 9218868437227405312 := rfl
  unfold pq sq mu
  by_cases h0 : i = 0
  · subst h0
    rw [if_pos (.inl rfl), if_pos rfl, if_pos rfl]
    exact ⟨.inl rfl, fun h => absurd rfl h, fun _ => rfl, rndI_zero (.inl rfl), rndI_zero (.inr rfl)⟩
  rw [if_neg (by omega), if_neg h0, if_neg h0]
  by_cases h1 : i = M
  · subst h1
    rw [if_pos (show es (M : Int) ≠ 0 ∨ es (M : Int) ≠ 0 from .inl (by rw [es_max]; omega)), if_pos (show (0 : Int) < M by omega), if_pos (show (M : Int) = M ∨ (M : Int) = -(M : Int) ∨ (M : Int) = M ∨ (M : Int) = -(M : Int) from .inl rfl)]
    rw [if_neg (by simp)]
    exact ⟨.inr rfl, fun _ => rfl, fun h => by omega, rfl, rfl⟩
  · rw [if_neg (by rw [es_mid (by omega) (by omega)]; omega), if_neg (by omega), if_neg (by omega)]
    exact ⟨.inl rfl, fun h => absurd rfl h, fun _ => rfl, rfl, rfl⟩
theorem pq_fin {i : Int} (h : 0 ≤ i ∧ i < M) : pq i i = (0, fl i * fl i) := by
  have hM : (M : Int) = 9218868437227405312 := rfl
  unfold pq
  by_cases h0 : i = 0
  · subst h0; rw [if_pos (.inl rfl), fl_zero, show (0 : Rat) * 0 = 0 from by grind]
  · rw [if_neg (by omega), if_neg (by rw [es_mid (by omega) (by omega)]; omega)]
theorem sq_le {i j : Int} (hi : 0 ≤ i) (hij : i ≤ j) (hj : j ≤ M) (him : i < M) : sq (-1) i ≤ sq 1 j := by
  have hM : (M : Int) = 9218868437227405312 := rfl
  unfold sq mu
  have b := rndI_up (fl j * fl j)
  have a := rndI_down (fl i * fl i)
  by_cases h0 : i = 0
  · subst h0
    rw [if_pos rfl]
    split
    · omega
    · by_cases hjm : j = M
      · rw [if_pos (.inl hjm), if_neg (by simp)]; omega
      · rw [if_neg (by omega)]
        have p : 0 ≤ fl j := by have := fl_le_iff.2 hij; rwa [fl_zero] at this
        have := rndI_mono (.inr rfl) (d := 1) (x := 0) (y := fl j * fl j) (Rat.mul_nonneg p p)
        rw [rndI_zero (.inr rfl)] at this
        exact this
  · rw [if_neg h0, if_neg (by omega), if_neg (by omega)]
    by_cases hjm : j = M
    · rw [if_pos (.inl hjm), if_neg (by simp)]; omega
    · rw [if_neg (by omega)]
      have p : 0 ≤ fl i := by have := fl_le_iff.2 hi; rwa [fl_zero] at this
      have q := fl_le_iff.2 hij
      refine Int.le_trans (rndI_le _) (rndI_mono (.inr rfl) ?_)
      have h1 : fl i * fl i ≤ fl j * fl i := by rw [Rat.mul_comm (fl j)]; exact Rat.mul_le_mul_of_nonneg_left q p
      have h2 : fl j * fl i ≤ fl j * fl j := Rat.mul_le_mul_of_nonneg_left q (by grind)
      grind
def SqOf (w : World) (v : Value) (i j : Int) : Prop :=
  (j < i ∧ ∃ s g A n c B m d t g' A' n' c' B' m' d', v = .agg #[.bool true, .int .i64 s, .bool g, .slice A n c, .slice B m d, .int .i64 t, .bool g', .slice A' n' c', .slice B' m' d']) ∨
  ((0 ≤ i ∧ i ≤ j ∧ j ≤ M ∧ i < M) ∧ ∃ g A n c B m d g' A' n' c' B' m' d', v = .agg #[.bool false, .int .i64 (pq i i).1, .bool g, .slice A n c, .slice B m d, .int .i64 (pq j j).1, .bool g', .slice A' n' c', .slice B' m' d'] ∧
    RatV w 68 g (.slice A n c) (.slice B m d) (pq i i).2 ∧ RatV w 68 g' (.slice A' n' c') (.slice B' m' d') (pq j j).2)
theorem square_any (v : Value) (i j : Int) (w : World) (h : SetOf w v i j) (hi : 0 ≤ i) : Calls Tryz.prog 81 #[v] w fun e w' => ∃ u, e = .returned u ∧ SqOf w' u i j ∧ Below w.heap.size w w' := by
  have hM : (M : Int) = 9218868437227405312 := rfl
  rcases h with ⟨rfl, rfl, s, x, t, y, g, A, n0, c, B, m, d, g', A', n', c', B', m', d', rfl, h4, h5⟩ | ⟨h1, g1, A1, n1, c1, B1, m1, d1, g2, A2, n2, c2, B2, m2, d2, rfl, h4, h5⟩
  · refine (square_none _ _ _ _ _ _ _ _ _ _ _ _ _ _ _ _ w).mono ?_
    rintro e w' ⟨rfl, hb⟩
    exact ⟨_, rfl, .inl ⟨by omega, _, _, _, _, _, _, _, _, _, _, _, _, _, _, _, _, rfl⟩, hb⟩
  · have P1 := fun W (hW : Below w.heap.size w W) => p6_any i i g1 A1 n1 c1 B1 m1 d1 g1 A1 n1 c1 B1 m1 d1 W (h4.below hW) (h4.below hW) (by omega) (by omega)
    have P2 := fun W (hW : Below w.heap.size w W) => p6_any j j g2 A2 n2 c2 B2 m2 d2 g2 A2 n2 c2 B2 m2 d2 W (h5.below hW) (h5.below hW) (by omega) (by omega)
    have v1 := esx_sgn (i := i) (by omega)
    have v2 := esx_sgn (i := j) (by omega)
    have S1 := fun W (hW : Below w.heap.size w W) => sign6_any 34 (es i) g1 A1 n1 c1 B1 m1 d1 (ex i) W (h4.below hW) (by omega)
    have S2 := fun W (hW : Below w.heap.size w W) => sign6_any 34 (es j) g2 A2 n2 c2 B2 m2 d2 (ex j) W (h5.below hW) (by omega)
    have HL := fun W g3 A3 n3 c3 B3 m3 d3 g4 A4 n4 c4 B4 m4 d4 a b => lesser_e 68 (pq i i) (pq j j) g3 A3 n3 c3 B3 m3 d3 g4 A4 n4 c4 B4 m4 d4 W a b (by omega)
    have HG := fun W g3 A3 n3 c3 B3 m3 d3 g4 A4 n4 c4 B4 m4 d4 a b => greater_e 68 (pq i i) (pq j j) g3 A3 n3 c3 B3 m3 d3 g4 A4 n4 c4 B4 m4 d4 W a b (by omega)
    have k1 := pq_self (i := i) (by omega)
    have k2 := pq_self (i := j) (by omega)
    have hle : ec (pq j j).1 (pq j j).2 (pq i i).1 (pq i i).2 = 0 → (pq j j).1 = (pq i i).1 ∧ (pq j j).2 = (pq i i).2 := by
      intro e
      unfold ec at e
      by_cases q : (pq j j).1 = (pq i i).1
      · refine ⟨q, ?_⟩
        rw [if_pos q] at e
        by_cases q0 : (pq j j).1 = 0
        · rw [if_pos q0] at e
          unfold rc at e
          split at e
          · omega
          · split at e
            · omega
            · grind
        · rw [k1.2.1 (by omega), k2.2.1 q0]
      · rw [if_neg q] at e
        split at e <;> omega
    have hlt : ¬ ec (pq j j).1 (pq j j).2 (pq i i).1 (pq i i).2 < 0 := by
      rw [pq_fin ⟨hi, by omega⟩]
      by_cases hj : j < M
      · rw [pq_fin ⟨by omega, hj⟩, ec_zero]
        intro e
        have p : 0 ≤ fl i := by have := fl_le_iff.2 hi; rwa [fl_zero] at this
        have q := fl_le_iff.2 h1.2.1
        have h1 : fl i * fl i ≤ fl j * fl i := by rw [Rat.mul_comm (fl j)]; exact Rat.mul_le_mul_of_nonneg_left q p
        have h2 : fl j * fl i ≤ fl j * fl j := Rat.mul_le_mul_of_nonneg_left q (by grind)
        unfold rc at e
        rw [if_neg (by grind)] at e
        split at e <;> omega
      · have e : pq j j = (1, 0) := by
          obtain rfl : j = M := by omega
          unfold pq
          rw [if_neg (by omega), if_pos (show es (M : Int) ≠ 0 ∨ es (M : Int) ≠ 0 from .inl (by rw [es_max]; omega)), if_pos (show (0 : Int) < M by omega)]
          rfl
        rw [e, ec_gt _ _ (show (0 : Int) < 1 by omega)]
        omega
    have eg : eG (pq i i) (pq j j) = pq j j := by
      unfold eG
      by_cases c : 0 < ec (pq j j).1 (pq j j).2 (pq i i).1 (pq i i).2
      · rw [if_pos c]
      · rw [if_neg c]
        have h0 := hle (by omega)
        exact Prod.ext h0.1.symm h0.2.symm
    have el : eL (pq i i) (pq j j) = pq i i := by unfold eL; rw [if_neg hlt]
    rw [eg] at HG
    rw [el] at HL
    by_cases z : i = 0
    · subst z
      rw [if_neg (by omega), if_neg (by omega)] at v1
      refine (square_zero _ _ _ _ _ _ _ _ _ _ _ _ _ _ _ _ _ _ _ _ _ _ _ _ _ _ w P1 P2 HL HG S1 (by rw [v1]; rfl) S2 (by rw [v2]; split; rfl; split; omega; rfl)).mono ?_
      rintro e w' ⟨g3, A3, n3, c3, B3, m3, d3, g4, A4, n4, c4, B4, m4, d4, rfl, r3, r4, hb⟩
      exact ⟨_, rfl, .inr ⟨by omega, g3, A3, n3, c3, B3, m3, d3, g4, A4, n4, c4, B4, m4, d4, rfl, r3, r4⟩, hb⟩
    · rw [if_pos (by omega)] at v1
      refine (square_pos _ _ _ _ _ _ _ _ _ _ _ _ _ _ _ _ _ _ _ _ _ _ _ _ _ w P1 P2 HL HG S1 (by rw [v1]; rfl)).mono ?_
      rintro e w' ⟨g3, A3, n3, c3, B3, m3, d3, g4, A4, n4, c4, B4, m4, d4, rfl, r3, r4, hb⟩
      exact ⟨_, rfl, .inr ⟨by omega, g3, A3, n3, c3, B3, m3, d3, g4, A4, n4, c4, B4, m4, d4, rfl, r3, r4⟩, hb⟩
def FQ (i1 j1 : Int) (i j : Int) : Int × Int := if j1 < i1 then ((M : Int), -(M : Int)) else pf (pq i1 i1).1 (pq i1 i1).2 (decide ((pq i1 i1).1 ≠ 0)) (pq j1 j1).1 (pq j1 j1).2 (decide ((pq j1 j1).1 ≠ 0)) i j
theorem piece_sq (v : Value) (i j : Int) (w : World) (h : SqOf w v i j) : Calls Tryz.prog 80 #[v] w (NewPcV w (FQ i j)) := by
  have hM : (M : Int) = 9218868437227405312 := rfl
  rcases h with ⟨h0, s, g, A, n0, c, B, m, d, t, g', A', n', c', B', m', d', rfl⟩ | ⟨h1, g, A, n0, c, B, m, d, g', A', n', c', B', m', d', rfl, h4, h5⟩
  · have e : FQ i j = fun _ _ => ((M : Int), -(M : Int)) := by funext a b; unfold FQ; rw [if_pos h0]
    rw [e]
    exact (piece_none 1 _ _ _ _ _ _ _ _ 0 _ _ _ _ _ _ _ _ 0 w).mono fun _ _ h => newPiece_none h (by omega)
  · have k1 := pq_self (i := i) (by omega)
    have k2 := pq_self (i := j) (by omega)
    have e : FQ i j = pf (pq i i).1 (pq i i).2 (decide ((pq i i).1 ≠ 0)) (pq j j).1 (pq j j).2 (decide ((pq j j).1 ≠ 0)) := by funext a b; unfold FQ; rw [if_neg (by omega)]
    rw [e]
    refine (piece_some 68 _ g A n0 c B m d _ _ g' A' n' c' B' m' d' _ w h4 h5 (by omega) k1.2.1 k2.2.1).mono fun _ _ h => newPiece_some h (by omega) (by omega) (.inl (k1.2.2.1 (by omega))) k2.1 ?_
    rw [k1.2.2.2.1, k2.2.2.2.2]
    exact sq_le (by omega) (by omega) (by omega) (by omega)
theorem sqt_law {i2 j2 i j : Int} (h2 : Iv i2 j2) (hx : Iv i j) : zg i j (L1 (FQ (lwI i2 j2) (lwJ j2))) 1 = sqt i2 j2 i j := by
  have hM : (M : Int) = 9218868437227405312 := rfl
  rw [zg1]
  unfold sqt FQ
  have hl := lw_iv h2
  by_cases c1 : j2 < i2 ∨ j2 < 0
  · have : j2 < 0 := by rcases h2 with h | h <;> omega
    rw [if_pos (by unfold lwI lwJ; rw [if_pos this, if_pos this]; omega), if_pos (by omega)]
  have e1 : lwI i2 j2 = max i2 0 := by unfold lwI; rw [if_neg (by omega)]
  have e2 : lwJ j2 = j2 := by unfold lwJ; rw [if_neg (by omega)]
  rw [e1, e2]
  have n1 := ne_or h2 (by omega)
  unfold Ne at n1
  rw [if_neg (by omega)]
  by_cases c2 : j < i
  · rw [if_pos (by omega)]; unfold pf; rw [if_pos c2]
  rw [if_neg (by omega), ctO_ct]
  have n2 := ne_or hx c2
  unfold Ne at n2
  have k1 := pq_self (i := max i2 0) (by omega)
  have k2 := pq_self (i := j2) (by omega)
  rw [pf_closed (.inl (k1.2.2.1 (by omega))) k2.1 i j n2, k1.2.2.2.1, k1.2.2.2.2, k2.2.2.2.1, k2.2.2.2.2]
theorem refsqrt_any (f1 f2 x1 x2 : Nat) (w : World) (h1 : f1 < 18446744073709551616) (h2 : f2 < 18446744073709551616) (hx : x1 < 18446744073709551616) (hy : x2 < 18446744073709551616) :
    Calls Tryz.prog 18 #[.agg #[.int .u64 (f1 : Int), .int .u64 (f2 : Int)], .agg #[.int .u64 (x1 : Int), .int .u64 (x2 : Int)]] w fun e w' =>
      e = .returned (.agg #[.int .u64 (pat (sqt (rd f1 f2).1 (rd f1 f2).2 (rd x1 x2).1 (rd x1 x2).2).1 : Int), .int .u64 (pat (sqt (rd f1 f2).1 (rd f1 f2).2 (rd x1 x2).1 (rd x1 x2).2).2 : Int)]) ∧ Below w.heap.size w w' := by
  have hl : 0 ≤ lwI (rd f1 f2).1 (rd f1 f2).2 := by unfold lwI; split <;> omega
  have k := refsqrt_walk f1 f2 x1 x2 _ _ _ _ (fun W v => SqOf W v (lwI (rd f1 f2).1 (rd f1 f2).2) (lwJ (rd f1 f2).2)) _ (L1 (FQ (lwI (rd f1 f2).1 (rd f1 f2).2) (lwJ (rd f1 f2).2))) w hx hy (fun W => of_i f1 f2 W h1 h2) (fun W v h => lower_any v _ _ W h) (fun W v h => square_any v _ _ W h hl) (fun W v h => piece_sq v _ _ W h) rfl
  rw [sqt_law (rd_iv f1 f2) (rd_iv x1 x2)] at k
  exact k
theorem refsqr_any (f1 f2 x1 x2 : Nat) (w : World) (h1 : f1 < 18446744073709551616) (h2 : f2 < 18446744073709551616) (hx : x1 < 18446744073709551616) (hy : x2 < 18446744073709551616) :
    Calls Tryz.prog 16 #[.agg #[.int .u64 (f1 : Int), .int .u64 (f2 : Int)], .agg #[.int .u64 (x1 : Int), .int .u64 (x2 : Int)]] w fun e w' =>
      e = .returned (.agg #[.int .u64 (pat (pwr 2 (rd f1 f2).1 (rd f1 f2).2 (rd x1 x2).1 (rd x1 x2).2).1 : Int), .int .u64 (pat (pwr 2 (rd f1 f2).1 (rd f1 f2).2 (rd x1 x2).1 (rd x1 x2).2).2 : Int)]) ∧ Below w.heap.size w w' :=
  refsqr_walk f1 f2 x1 x2 _ _ w fun W => refpown_any_even 2 f1 f2 x1 x2 W (by omega) (by omega) rfl h1 h2 hx hy
end Go.Proofs.YthlmlmfebpjgdaaGreatDoor

namespace Go.Proofs.YthlmlmfebpjgdaaGreatDoor
open Go.RowKit
attribute [local go_sem] run_store_float
set_option maxRecDepth 4000 in
theorem roots_law (c1 c2 x y : Nat) (w : World) (hc1 : c1 < 18446744073709551616) (hc2 : c2 < 18446744073709551616) (hx : x < 18446744073709551616) (hy : y < 18446744073709551616) :
    Calls Tryz.prog 3 #[.agg #[.int .u64 (c1 : Int), .int .u64 (c2 : Int)], .agg #[.int .u64 (x : Int), .int .u64 (y : Int)]] w fun e w' => e = .returned (.bool true) ∧ Below w.heap.size w w' := by
  have R1 := Lib.hid fun W => sqrrev_any c1 c2 x y W hc1 hc2 hx hy
  have R2 := Lib.hid fun W => refsqr_any c1 c2 x y W hc1 hc2 hx hy
  have R3 := Lib.hid fun W => sqrtrev_any c1 c2 x y W hc1 hc2 hx hy
  have R4 := Lib.hid fun W => refsqrt_any c1 c2 x y W hc1 hc2 hx hy
  obtain ⟨A0, ea0⟩ : ∃ z, pat (pwr 2 (rd c1 c2).1 (rd c1 c2).2 (rd x y).1 (rd x y).2).1 = z := ⟨_, rfl⟩
  obtain ⟨B0, eb0⟩ : ∃ z, pat (pwr 2 (rd c1 c2).1 (rd c1 c2).2 (rd x y).1 (rd x y).2).2 = z := ⟨_, rfl⟩
  rw [ea0, eb0] at R1 R2
  have O1 := Lib.hid fun W => law_out A0 B0 W
  obtain ⟨A1, ea1⟩ : ∃ z, pat (sqt (rd c1 c2).1 (rd c1 c2).2 (rd x y).1 (rd x y).2).1 = z := ⟨_, rfl⟩
  obtain ⟨B1, eb1⟩ : ∃ z, pat (sqt (rd c1 c2).1 (rd c1 c2).2 (rd x y).1 (rd x y).2).2 = z := ⟨_, rfl⟩
  rw [ea1, eb1] at R3 R4
  have O2 := Lib.hid fun W => law_out A1 B1 W
  have I1 := Lib.hid fun W => law_in c1 c2 W
  have I2 := Lib.hid fun W => law_in x y W
  clear ea0 eb0 ea1 eb1 hc1 hc2 hx hy
  obtain ⟨LB0, LG0_0, LG1_0⟩ := bx2 w #[.int .u64 (c1 : Int), .int .u64 (c2 : Int)] 24 #[.int .u64 (x : Int), .int .u64 (y : Int)] 24
  go_enter Tryz.func3, Tryz.ntmps3
  go_wp2_with fail
  refine wp_region_held_drew (S := fun W' => Blk W' w.heap.size 24 #[.int .u64 (c1 : Int), .int .u64 (c2 : Int)] ∧ Blk W' (w.heap.size + 1) 24 #[.int .u64 (x : Int), .int .u64 (y : Int)] ∧ Below w.heap.size w W') (by kernel_rfl) (by exact ⟨LG0_0.out.drew, LG1_0.out.drew, LB0.out.drew⟩) (fun hHeld => ?_)
  refine tk 0 ?_ (hv := by intro W2 hSw; obtain ⟨q0, q1⟩ := hSw.1.c2; go_simp; (try with_reducible rfl))
  try simp only [Act.put, lay]
  refine tk 2 ?_ (hv := by intro W2 hSw; obtain ⟨q0, q1⟩ := hSw.2.1.c2; go_simp; (try with_reducible rfl))
  try simp only [Act.put, lay]
  refine tk 6 ?_ (hv := by intro W2 hSw; obtain ⟨q0, q1⟩ := hSw.1.c2; go_simp; (try with_reducible rfl))
  try simp only [Act.put, lay]
  refine tk 7 ?_ (hv := by intro W2 hSw; obtain ⟨q0, q1⟩ := hSw.2.1.c2; go_simp; (try with_reducible rfl))
  try simp only [Act.put, lay]
  refine rdy 1 (fun KK hKK => ?_)
  go_simp
  refine (I1.out _).mono ?_
  rintro e w1 ⟨rfl, hba⟩
  go_wp2_with fail
  refine hKK.out _ _ (⟨hHeld.1.keep hba, hHeld.2.1.keep hba, hHeld.2.2.trans (hba.mono hHeld.2.2.size)⟩) (fun _ => ?_)
  clear hKK KK hHeld; rename_i hHeld
  try simp only [Act.put, lay]
  refine rdy 3 (fun KK hKK => ?_)
  go_simp
  refine (I2.out _).mono ?_
  rintro e w2 ⟨rfl, hbb⟩
  go_wp2_with fail
  refine hKK.out _ _ (⟨hHeld.1.keep hbb, hHeld.2.1.keep hbb, hHeld.2.2.trans (hbb.mono hHeld.2.2.size)⟩) (fun _ => ?_)
  clear hKK KK hHeld; rename_i hHeld
  try simp only [Act.put, lay]
  refine rdy 4 (fun KK hKK => ?_)
  go_simp
  refine (R1.out _).mono ?_
  rintro e w3 ⟨rfl, hbc⟩
  go_wp2_with fail
  refine hKK.out _ _ (⟨hHeld.1.keep hbc, hHeld.2.1.keep hbc, hHeld.2.2.trans (hbc.mono hHeld.2.2.size)⟩) (fun _ => ?_)
  clear hKK KK hHeld; rename_i hHeld
  try simp only [Act.put, lay]
  refine rdy 5 (fun KK hKK => ?_)
  go_simp
  refine (O1.out _).mono ?_
  rintro e w4 ⟨rfl, hbd⟩
  go_wp2_with fail
  refine hKK.out _ _ (⟨hHeld.1.keep hbd, hHeld.2.1.keep hbd, hHeld.2.2.trans (hbd.mono hHeld.2.2.size)⟩) (fun _ => ?_)
  clear hKK KK hHeld; rename_i hHeld
  try simp only [Act.put, lay]
  refine rdy 8 (fun KK hKK => ?_)
  go_simp
  refine (R2.out _).mono ?_
  rintro e w5 ⟨rfl, hbe⟩
  go_wp2_with fail
  refine hKK.out _ _ (⟨hHeld.1.keep hbe, hHeld.2.1.keep hbe, hHeld.2.2.trans (hbe.mono hHeld.2.2.size)⟩) (fun _ => ?_)
  clear hKK KK hHeld; rename_i hHeld
  try simp only [Act.put, lay]
  refine tk 9 ?_
  try simp only [Act.put, lay]
  refine tk 10 ?_
  try simp only [Act.put, lay]
  refine tk 11 ?_ (hv := by intro W2 hSw; obtain ⟨q0, q1⟩ := hSw.1.c2; go_simp; (try with_reducible rfl))
  try simp only [Act.put, lay]
  refine tk 13 ?_ (hv := by intro W2 hSw; obtain ⟨q0, q1⟩ := hSw.2.1.c2; go_simp; (try with_reducible rfl))
  try simp only [Act.put, lay]
  refine tk 17 ?_ (hv := by intro W2 hSw; obtain ⟨q0, q1⟩ := hSw.1.c2; go_simp; (try with_reducible rfl))
  try simp only [Act.put, lay]
  refine tk 18 ?_ (hv := by intro W2 hSw; obtain ⟨q0, q1⟩ := hSw.2.1.c2; go_simp; (try with_reducible rfl))
  try simp only [Act.put, lay]
  refine rdy 12 (fun KK hKK => ?_)
  go_simp
  refine (I1.out _).mono ?_
  rintro e w6 ⟨rfl, hbf⟩
  go_wp2_with fail
  refine hKK.out _ _ (⟨hHeld.1.keep hbf, hHeld.2.1.keep hbf, hHeld.2.2.trans (hbf.mono hHeld.2.2.size)⟩) (fun _ => ?_)
  clear hKK KK hHeld; rename_i hHeld
  try simp only [Act.put, lay]
  refine rdy 14 (fun KK hKK => ?_)
  go_simp
  refine (I2.out _).mono ?_
  rintro e w7 ⟨rfl, hbg⟩
  go_wp2_with fail
  refine hKK.out _ _ (⟨hHeld.1.keep hbg, hHeld.2.1.keep hbg, hHeld.2.2.trans (hbg.mono hHeld.2.2.size)⟩) (fun _ => ?_)
  clear hKK KK hHeld; rename_i hHeld
  try simp only [Act.put, lay]
  refine rdy 15 (fun KK hKK => ?_)
  go_simp
  refine (R3.out _).mono ?_
  rintro e w8 ⟨rfl, hbh⟩
  go_wp2_with fail
  refine hKK.out _ _ (⟨hHeld.1.keep hbh, hHeld.2.1.keep hbh, hHeld.2.2.trans (hbh.mono hHeld.2.2.size)⟩) (fun _ => ?_)
  clear hKK KK hHeld; rename_i hHeld
  try simp only [Act.put, lay]
  refine rdy 16 (fun KK hKK => ?_)
  go_simp
  refine (O2.out _).mono ?_
  rintro e w9 ⟨rfl, hbi⟩
  go_wp2_with fail
  refine hKK.out _ _ (⟨hHeld.1.keep hbi, hHeld.2.1.keep hbi, hHeld.2.2.trans (hbi.mono hHeld.2.2.size)⟩) (fun _ => ?_)
  clear hKK KK hHeld; rename_i hHeld
  try simp only [Act.put, lay]
  refine rdy 19 (fun KK hKK => ?_)
  go_simp
  refine (R4.out _).mono ?_
  rintro e w10 ⟨rfl, hbj⟩
  go_wp2_with fail
  refine hKK.out _ _ (⟨hHeld.1.keep hbj, hHeld.2.1.keep hbj, hHeld.2.2.trans (hbj.mono hHeld.2.2.size)⟩) (fun _ => ?_)
  clear hKK KK hHeld; rename_i hHeld
  try simp only [Act.put, lay]
  refine tk 20 ?_
  try simp only [Act.put, lay]
  refine tk 21 ?_
  try simp only [Act.put, lay]
  refine tk 22 ?_
  try simp only [Act.put, lay]
  refine wpAnyH_done (by kernel_rfl) ?_ _
  have HF := Lib.hid hHeld.2.2
  clear hHeld hba hbb hbc hbd hbe hbf hbg hbh hbi hbj R1 R2 R3 R4 O1 O2 I1 I2
  go_wp2
  go_ret
  exact ⟨rfl, HF.out⟩
end Go.Proofs.YthlmlmfebpjgdaaGreatDoor
