/-
Walks: package vergeref6, Upper; package vergeref10, quotients, minus (of a piece), zero.
Walks: package vergeref10, quotients, minus (of a piece).
Walks: package vergeref10, minus (of a piece).
Sets by their indexes: Minus; pieces that a call answers.
Walks: package vergeref6, All; package vergeref10, factors.
Walks: package vergeref10, all of no piece.
Walks: package vergeref10, MulRev.
What the reference's quotients, factors and MulRev answer, by indexes.
Pieces and sets as a walk lays them: what Within makes of a piece, and of its negatives.
-/
import Derived.Test.YtmjkmoahkanblaaGreatM04
import Derived.Test.YtmjkmoahkanblaaGreatM19
import Derived.Test.YtmjkmoahkanblaaGreatM25
import Derived.Deep.DeepCutAuto
import Derived.Deep.RegionHeld3
import Derived.Test.YtmjkmoahkanblaaGreatPAddT
import Derived.Test.YtmjkmoahkanblaaGreatM05
set_option linter.unusedSimpArgs false
set_option linter.unusedVariables false
set_option maxHeartbeats 12800000

namespace Go.Proofs.YtmjkmoahkanblaaGreat
open Go.RowKit
theorem upper_none (K : Nat) (o : Bool) (s1 : Int) (g1 : Bool) (A1 : Option Addr) (n1 c1 : Nat) (B1 : Option Addr) (m1 d1 : Nat) (x1 : Rat) (s2 : Int) (g2 : Bool) (A2 : Option Addr) (n2 c2 : Nat) (B2 : Option Addr) (m2 d2 : Nat) (x2 : Rat) (w : World) (h2 : RatV w K g2 (.slice A2 n2 c2) (.slice B2 m2 d2) x2) (hK : K ≤ 1073741824) (ho : o = true ∨ esx s2 x2 ≤ 0) :
    Calls Tryz.prog 146 #[.agg #[.bool o, .int .i64 s1, .bool g1, .slice A1 n1 c1, .slice B1 m1 d1, .int .i64 s2, .bool g2, .slice A2 n2 c2, .slice B2 m2 d2]] w (NewSet w 1 true 0 0 0 0) := by
  have HN := Lib.hid none6
  have HS := Lib.hid fun W (hW : Below w.heap.size w W) => sign6_any K s2 g2 A2 n2 c2 B2 m2 d2 x2 W (h2.below hW) hK
  obtain ⟨sg, hsg⟩ : ∃ z, esx s2 x2 = z := ⟨_, rfl⟩
  rw [hsg] at HS ho
  clear h2 hK hsg
  cases o
  · have LB0 := Lib.hid (show Below w.heap.size w ((w.alloc (.cells #[.bool false, .int .i64 s1, .bool g1, .slice A1 n1 c1, .slice B1 m1 d1, .int .i64 s2, .bool g2, .slice A2 n2 c2, .slice B2 m2 d2] 69)).alloc (.cells #[.bool false, .int .i64 0, .bool false, .slice none 0 0, .slice none 0 0, .int .i64 0, .bool false, .slice none 0 0, .slice none 0 0] 69)) from ((below_alloc w _).alloc (by simp <;> omega) _))
    have LG0_0 := Lib.hid (((Blk.at (W := w) (g := w.heap.size) (by simp <;> omega) 69 #[.bool false, .int .i64 s1, .bool g1, .slice A1 n1 c1, .slice B1 m1 d1, .int .i64 s2, .bool g2, .slice A2 n2 c2, .slice B2 m2 d2]).alloc (.cells #[.bool false, .int .i64 0, .bool false, .slice none 0 0, .slice none 0 0, .int .i64 0, .bool false, .slice none 0 0, .slice none 0 0] 69)))
    have LR0 := Lib.hid (HasBlk.of (n := 9) (Blk.at (W := (w.alloc (.cells #[.bool false, .int .i64 s1, .bool g1, .slice A1 n1 c1, .slice B1 m1 d1, .int .i64 s2, .bool g2, .slice A2 n2 c2, .slice B2 m2 d2] 69))) (g := (w.heap.size + 1)) (by simp <;> omega) 69 #[.bool false, .int .i64 0, .bool false, .slice none 0 0, .slice none 0 0, .int .i64 0, .bool false, .slice none 0 0, .slice none 0 0]) rfl rfl)
    go_enter Tryz.func146, Tryz.ntmps146
    have hz : sg ≤ 0 := by rcases ho with h | h; cases h; exact h
    clear ho
    have q0_0 := LG0_0.out.ce 0 rfl
    have q0_1 := LG0_0.out.ce 1 rfl
    have q0_2 := LG0_0.out.ce 2 rfl
    have q0_3 := LG0_0.out.ce 3 rfl
    have q0_4 := LG0_0.out.ce 4 rfl
    have q0_5 := LG0_0.out.ce 5 rfl
    have q0_6 := LG0_0.out.ce 6 rfl
    have q0_7 := LG0_0.out.ce 7 rfl
    have q0_8 := LG0_0.out.ce 8 rfl
    go_wp2_with fail
    refine (HS.out _ LB0.out).mono ?_
    rintro e w1 ⟨rfl, hb1⟩
    have LB1 := stB LB0 hb1 LB0.out.size
    have LR1 := stR LR0 hb1
    have LG0_1 := stG LG0_0 hb1
    clear LB0 LR0 LG0_0
    clear hb1 HS q0_0 q0_1 q0_2 q0_3 q0_4 q0_5 q0_6 q0_7 q0_8
    go_wp2_with fail
    refine (HN.out _).mono ?_
    rintro e wN ⟨p1, P1, q1, r1, Q1, t1, u1, p2, P2, q2, r2, Q2, t2, u2, rfl, hR1, hR2, hbN⟩
    have LB2 := stB LB1 hbN LB1.out.size
    have LR2 := stR LR1 hbN
    have LG0_2 := stG LG0_1 hbN
    clear LB1 LR1 LG0_1
    have FR1 := Lib.hid (LR2.out.rat hR1 [.bool true, .int .i64 0, .bool p1, .slice P1 q1 r1, .slice Q1 t1 u1, .int .i64 0, .bool p2, .slice P2 q2 r2, .slice Q2 t2 u2])
    have FR2 := Lib.hid (LR2.out.rat hR2 [.bool true, .int .i64 0, .bool p1, .slice P1 q1 r1, .slice Q1 t1 u1, .int .i64 0, .bool p2, .slice P2 q2 r2, .slice Q2 t2 u2])
    clear hR1 hR2 hbN HN
    obtain ⟨ha0, hf0, ha1, hf1, ha2, hf2, ha3, hf3, ha4, hf4, ha5, hf5, ha6, hf6, ha7, hf7, ha8, hf8⟩ := LR2.out.sf9
    obtain ⟨hk0, hk1, hk2, hk3, hk4, hk5, hk6, hk7, hk8⟩ := LR2.out.sc9 (.bool true) (.int .i64 0) (.bool p1) (.slice P1 q1 r1) (.slice Q1 t1 u1) (.int .i64 0) (.bool p2) (.slice P2 q2 r2) (.slice Q2 t2 u2)
    have F := Lib.hid (below_sets (w0 := w) (r := (w.heap.size + 1)) (by omega) [.bool true, .int .i64 0, .bool p1, .slice P1 q1 r1, .slice Q1 t1 u1, .int .i64 0, .bool p2, .slice P2 q2 r2, .slice Q2 t2 u2] 0 _ LB2.out)
    simp [sets] at hk0 hk1 hk2 hk3 hk4 hk5 hk6 hk7 hk8
    go_wp2
    refine bodyPost_ret (v := .agg #[.bool true, .int .i64 0, .bool p1, .slice P1 q1 r1, .slice Q1 t1 u1, .int .i64 0, .bool p2, .slice P2 q2 r2, .slice Q2 t2 u2]) (by simp [results, Tryz.results146, go_sem, hk0, hk1, hk2, hk3, hk4, hk5, hk6, hk7, hk8]) rfl ?_
    exact ⟨_, _, _, _, _, _, _, _, _, _, _, _, _, _, rfl, FR1.out, FR2.out, F.out⟩
  · have LB0 := Lib.hid (show Below w.heap.size w ((w.alloc (.cells #[.bool true, .int .i64 s1, .bool g1, .slice A1 n1 c1, .slice B1 m1 d1, .int .i64 s2, .bool g2, .slice A2 n2 c2, .slice B2 m2 d2] 69)).alloc (.cells #[.bool false, .int .i64 0, .bool false, .slice none 0 0, .slice none 0 0, .int .i64 0, .bool false, .slice none 0 0, .slice none 0 0] 69)) from ((below_alloc w _).alloc (by simp <;> omega) _))
    have LG0_0 := Lib.hid (((Blk.at (W := w) (g := w.heap.size) (by simp <;> omega) 69 #[.bool true, .int .i64 s1, .bool g1, .slice A1 n1 c1, .slice B1 m1 d1, .int .i64 s2, .bool g2, .slice A2 n2 c2, .slice B2 m2 d2]).alloc (.cells #[.bool false, .int .i64 0, .bool false, .slice none 0 0, .slice none 0 0, .int .i64 0, .bool false, .slice none 0 0, .slice none 0 0] 69)))
    have LR0 := Lib.hid (HasBlk.of (n := 9) (Blk.at (W := (w.alloc (.cells #[.bool true, .int .i64 s1, .bool g1, .slice A1 n1 c1, .slice B1 m1 d1, .int .i64 s2, .bool g2, .slice A2 n2 c2, .slice B2 m2 d2] 69))) (g := (w.heap.size + 1)) (by simp <;> omega) 69 #[.bool false, .int .i64 0, .bool false, .slice none 0 0, .slice none 0 0, .int .i64 0, .bool false, .slice none 0 0, .slice none 0 0]) rfl rfl)
    go_enter Tryz.func146, Tryz.ntmps146
    have q0_0 := LG0_0.out.ce 0 rfl
    have q0_1 := LG0_0.out.ce 1 rfl
    have q0_2 := LG0_0.out.ce 2 rfl
    have q0_3 := LG0_0.out.ce 3 rfl
    have q0_4 := LG0_0.out.ce 4 rfl
    have q0_5 := LG0_0.out.ce 5 rfl
    have q0_6 := LG0_0.out.ce 6 rfl
    have q0_7 := LG0_0.out.ce 7 rfl
    have q0_8 := LG0_0.out.ce 8 rfl
    clear HS ho
    go_wp2_with fail
    refine (HN.out _).mono ?_
    rintro e wN ⟨p1, P1, q1, r1, Q1, t1, u1, p2, P2, q2, r2, Q2, t2, u2, rfl, hR1, hR2, hbN⟩
    have LB1 := stB LB0 hbN LB0.out.size
    have LR1 := stR LR0 hbN
    have LG0_1 := stG LG0_0 hbN
    clear LB0 LR0 LG0_0
    have FR1 := Lib.hid (LR1.out.rat hR1 [.bool true, .int .i64 0, .bool p1, .slice P1 q1 r1, .slice Q1 t1 u1, .int .i64 0, .bool p2, .slice P2 q2 r2, .slice Q2 t2 u2])
    have FR2 := Lib.hid (LR1.out.rat hR2 [.bool true, .int .i64 0, .bool p1, .slice P1 q1 r1, .slice Q1 t1 u1, .int .i64 0, .bool p2, .slice P2 q2 r2, .slice Q2 t2 u2])
    clear hR1 hR2 hbN HN
    obtain ⟨ha0, hf0, ha1, hf1, ha2, hf2, ha3, hf3, ha4, hf4, ha5, hf5, ha6, hf6, ha7, hf7, ha8, hf8⟩ := LR1.out.sf9
    obtain ⟨hk0, hk1, hk2, hk3, hk4, hk5, hk6, hk7, hk8⟩ := LR1.out.sc9 (.bool true) (.int .i64 0) (.bool p1) (.slice P1 q1 r1) (.slice Q1 t1 u1) (.int .i64 0) (.bool p2) (.slice P2 q2 r2) (.slice Q2 t2 u2)
    have F := Lib.hid (below_sets (w0 := w) (r := (w.heap.size + 1)) (by omega) [.bool true, .int .i64 0, .bool p1, .slice P1 q1 r1, .slice Q1 t1 u1, .int .i64 0, .bool p2, .slice P2 q2 r2, .slice Q2 t2 u2] 0 _ LB1.out)
    simp [sets] at hk0 hk1 hk2 hk3 hk4 hk5 hk6 hk7 hk8
    go_wp2
    refine bodyPost_ret (v := .agg #[.bool true, .int .i64 0, .bool p1, .slice P1 q1 r1, .slice Q1 t1 u1, .int .i64 0, .bool p2, .slice P2 q2 r2, .slice Q2 t2 u2]) (by simp [results, Tryz.results146, go_sem, hk0, hk1, hk2, hk3, hk4, hk5, hk6, hk7, hk8]) rfl ?_
    exact ⟨_, _, _, _, _, _, _, _, _, _, _, _, _, _, rfl, FR1.out, FR2.out, F.out⟩
theorem upper_some (K : Nat) (s1 : Int) (g1 : Bool) (A1 : Option Addr) (n1 c1 : Nat) (B1 : Option Addr) (m1 d1 : Nat) (x1 : Rat) (s2 : Int) (g2 : Bool) (A2 : Option Addr) (n2 c2 : Nat) (B2 : Option Addr) (m2 d2 : Nat) (x2 : Rat) (w : World) (h1 : RatV w K g1 (.slice A1 n1 c1) (.slice B1 m1 d1) x1) (h2 : RatV w K g2 (.slice A2 n2 c2) (.slice B2 m2 d2) x2) (hK0 : 1 ≤ K) (hK : K ≤ 1073741824) (ho : 0 < esx s2 x2) :
    Calls Tryz.prog 146 #[.agg #[.bool false, .int .i64 s1, .bool g1, .slice A1 n1 c1, .slice B1 m1 d1, .int .i64 s2, .bool g2, .slice A2 n2 c2, .slice B2 m2 d2]] w (NewSet w K false (if 0 < ec 0 0 s1 x1 then 0 else s1) (if 0 < ec 0 0 s1 x1 then 0 else x1) s2 x2) := by
  have HS := Lib.hid fun W (hW : Below w.heap.size w W) => sign6_any K s2 g2 A2 n2 c2 B2 m2 d2 x2 W (h2.below hW) hK
  have HF := Lib.hid (show ∀ W, Calls Tryz.prog 95 #[.int .i64 0] W (NewEnd W 1 0 0) from fun W => finite_nat 0 W (by omega))
  have HG := Lib.hid fun W (gf : Bool) (Af : Option Addr) (nf cf : Nat) (Bf : Option Addr) (mf df : Nat) (hW : Below w.heap.size w W) (hf : RatV W K gf (.slice Af nf cf) (.slice Bf mf df) 0) => greater_any K s1 g1 A1 n1 c1 B1 m1 d1 x1 0 gf Af nf cf Bf mf df 0 W (h1.below hW) hf hK
  have Y0 := Lib.hid h2
  obtain ⟨u, hu⟩ : ∃ z, (if 0 < ec 0 0 s1 x1 then 0 else s1) = z := ⟨_, rfl⟩
  obtain ⟨v, hv⟩ : ∃ z, (if 0 < ec 0 0 s1 x1 then 0 else x1) = z := ⟨_, rfl⟩
  rw [hu, hv] at HG ⊢
  obtain ⟨sg, hsg⟩ : ∃ z, esx s2 x2 = z := ⟨_, rfl⟩
  rw [hsg] at HS ho
  have hz : ¬ sg ≤ 0 := by omega
  have HK0 := Lib.hid hK0
  clear h1 h2 hK0 hK hu hv hsg ho
  obtain ⟨LB0, LG0_0, LR⟩ := bx2 w #[.bool false, .int .i64 s1, .bool g1, .slice A1 n1 c1, .slice B1 m1 d1, .int .i64 s2, .bool g2, .slice A2 n2 c2, .slice B2 m2 d2] 69 #[.bool false, .int .i64 0, .bool false, .slice none 0 0, .slice none 0 0, .int .i64 0, .bool false, .slice none 0 0, .slice none 0 0] 69
  have LR0 := Lib.hid (HasBlk.of (n := 9) LR.out rfl rfl)
  clear LR
  go_enter Tryz.func146, Tryz.ntmps146
  obtain ⟨q0_0, q0_1, q0_2, q0_3, q0_4, q0_5, q0_6, q0_7, q0_8⟩ := LG0_0.out.c9
  go_wp2_with fail
  refine (HS.out _ LB0.out).mono ?_
  rintro e w1 ⟨rfl, hb1⟩
  have LB1 := stB LB0 hb1 LB0.out.size
  have LR1 := stR LR0 hb1
  have LG0_1 := stG LG0_0 hb1
  clear LB0 LR0 LG0_0
  clear hb1 HS q0_0 q0_1 q0_2 q0_3 q0_4 q0_5 q0_6 q0_7 q0_8
  go_wp2_with fail
  refine wp_region_held_drew (S := fun W' => Blk W' w.heap.size 69 #[.bool false, .int .i64 s1, .bool g1, .slice A1 n1 c1, .slice B1 m1 d1, .int .i64 s2, .bool g2, .slice A2 n2 c2, .slice B2 m2 d2] ∧ HasBlk W' (w.heap.size + 1) 69 9 ∧ Below w.heap.size w W') (by kernel_rfl) (by exact ⟨LG0_1.out.drew, LR1.out.drew, LB1.out.drew⟩) (fun hHeld => ?_)
  refine tk 0 ?_
  try simp only [Act.put, lay]
  refine tk 1 ?_ (hv := by intro W2 hSw; obtain ⟨q0, q1, q2, q3, q4, q5, q6, q7, q8⟩ := hSw.1.c9; go_simp; (try with_reducible rfl))
  try simp only [Act.put, lay]
  refine tk 4 ?_
  try simp only [Act.put, lay]
  refine tk 5 ?_ (hv := by intro W2 hSw; obtain ⟨q0, q1, q2, q3, q4, q5, q6, q7, q8⟩ := hSw.1.c9; go_simp; (try with_reducible rfl))
  try simp only [Act.put, lay]
  refine rdy 2 (fun KK hKK => ?_)
  go_simp
  refine (HF.out _).mono ?_
  rintro e w2 ⟨gf, Af, nf, cf, Bf, mf, df, rfl, hRf, hbA⟩
  go_wp2_with fail
  refine hKK.out _ _ (⟨hHeld.1.keep hbA, hHeld.2.1.keep hbA, hHeld.2.2.trans (hbA.mono hHeld.2.2.size)⟩) (fun _ => ?_)
  clear hKK KK hHeld; rename_i hHeld
  try simp only [Act.put, lay]
  refine rdy 3 (fun KK hKK => ?_)
  go_simp
  refine (HG.out _ _ _ _ _ _ _ _ hHeld.2.2 (hRf.mono HK0.out)).mono ?_
  rintro e w3 ⟨ga, AA, na, ca, BA, ma, da, rfl, hRa, hbB⟩
  go_wp2_with fail
  refine hKK.out _ _ (⟨hHeld.1.keep hbB, hHeld.2.1.keep hbB, hHeld.2.2.trans (hbB.mono hHeld.2.2.size)⟩) (fun _ => ?_)
  clear hKK KK hHeld; rename_i hHeld
  try simp only [Act.put, lay]
  refine tk 6 ?_
  try simp only [Act.put, lay]
  refine rdy 7 (fun KK hKK => ?_)
  have ha0 := hHeld.2.1.someCell 0 (by decide); have hf0 := hHeld.2.1.frozen 0; have ha1 := hHeld.2.1.someCell 1 (by decide); have hf1 := hHeld.2.1.frozen 1; have ha2 := hHeld.2.1.someCell 2 (by decide); have hf2 := hHeld.2.1.frozen 2; have ha3 := hHeld.2.1.someCell 3 (by decide); have hf3 := hHeld.2.1.frozen 3; have ha4 := hHeld.2.1.someCell 4 (by decide); have hf4 := hHeld.2.1.frozen 4; have ha5 := hHeld.2.1.someCell 5 (by decide); have hf5 := hHeld.2.1.frozen 5; have ha6 := hHeld.2.1.someCell 6 (by decide); have hf6 := hHeld.2.1.frozen 6; have ha7 := hHeld.2.1.someCell 7 (by decide); have hf7 := hHeld.2.1.frozen 7; have ha8 := hHeld.2.1.someCell 8 (by decide); have hf8 := hHeld.2.1.frozen 8; have HK := Lib.hid (hHeld.2.1.setCell [.bool false, .int .i64 u, .bool ga, .slice AA na ca, .slice BA ma da, .int .i64 s2, .bool g2, .slice A2 n2 c2, .slice B2 m2 d2] rfl); have F := Lib.hid (below_sets (w0 := w) (r := (w.heap.size + 1)) (by omega) [.bool false, .int .i64 u, .bool ga, .slice AA na ca, .slice BA ma da, .int .i64 s2, .bool g2, .slice A2 n2 c2, .slice B2 m2 d2] 0 _ hHeld.2.2); have FR1 := Lib.hid (hHeld.2.1.rat hRa [.bool false, .int .i64 u, .bool ga, .slice AA na ca, .slice BA ma da, .int .i64 s2, .bool g2, .slice A2 n2 c2, .slice B2 m2 d2]); have FR2 := Lib.hid (hHeld.2.1.rat (Y0.out.below hHeld.2.2) [.bool false, .int .i64 u, .bool ga, .slice AA na ca, .slice BA ma da, .int .i64 s2, .bool g2, .slice A2 n2 c2, .slice B2 m2 d2])
  go_simp
  refine hKK.out _ _ (⟨hHeld.1.other (by omega) 0 [.bool false, .int .i64 u, .bool ga, .slice AA na ca, .slice BA ma da, .int .i64 s2, .bool g2, .slice A2 n2 c2, .slice B2 m2 d2], hHeld.2.1.sets [.bool false, .int .i64 u, .bool ga, .slice AA na ca, .slice BA ma da, .int .i64 s2, .bool g2, .slice A2 n2 c2, .slice B2 m2 d2] rfl rfl, below_sets (by omega) [.bool false, .int .i64 u, .bool ga, .slice AA na ca, .slice BA ma da, .int .i64 s2, .bool g2, .slice A2 n2 c2, .slice B2 m2 d2] 0 _ hHeld.2.2⟩) (fun _ => ?_)
  clear hKK KK hHeld; rename_i hHeld
  try simp only [Act.put, lay]
  refine wpAnyH_done (by kernel_rfl) ?_ _
  have hk0 := HK.out 0 (by decide)
  have hk1 := HK.out 1 (by decide)
  have hk2 := HK.out 2 (by decide)
  have hk3 := HK.out 3 (by decide)
  have hk4 := HK.out 4 (by decide)
  have hk5 := HK.out 5 (by decide)
  have hk6 := HK.out 6 (by decide)
  have hk7 := HK.out 7 (by decide)
  have hk8 := HK.out 8 (by decide)
  simp [sets] at hk0 hk1 hk2 hk3 hk4 hk5 hk6 hk7 hk8
  clear hHeld HK hRf hbA hRa hbB
  clear LB1 LR1 LG0_1
  go_wp2
  refine bodyPost_ret (v := .agg #[.bool false, .int .i64 u, .bool ga, .slice AA na ca, .slice BA ma da, .int .i64 s2, .bool g2, .slice A2 n2 c2, .slice B2 m2 d2]) (by simp [results, Tryz.results146, go_sem, hk0, hk1, hk2, hk3, hk4, hk5, hk6, hk7, hk8]) rfl ?_
  exact ⟨_, _, _, _, _, _, _, _, _, _, _, _, _, _, rfl, FR1.out, FR2.out, F.out⟩
theorem zero_any (K : Nat) (o : Bool) (s1 : Int) (g1 : Bool) (A1 : Option Addr) (n1 c1 : Nat) (B1 : Option Addr) (m1 d1 : Nat) (x1 : Rat) (s2 : Int) (g2 : Bool) (A2 : Option Addr) (n2 c2 : Nat) (B2 : Option Addr) (m2 d2 : Nat) (x2 : Rat) (w : World) (h1 : RatV w K g1 (.slice A1 n1 c1) (.slice B1 m1 d1) x1) (h2 : RatV w K g2 (.slice A2 n2 c2) (.slice B2 m2 d2) x2) (hK : K ≤ 1073741824) :
    Calls Tryz.prog 85 #[.agg #[.bool o, .int .i64 s1, .bool g1, .slice A1 n1 c1, .slice B1 m1 d1, .int .i64 s2, .bool g2, .slice A2 n2 c2, .slice B2 m2 d2]] w fun e w' => e = .returned (.bool (!o && decide (esx s1 x1 ≤ 0) && decide (0 ≤ esx s2 x2))) ∧ Below w.heap.size w w' := by
  have HS := Lib.hid fun W (hW : Below w.heap.size w W) => sign6_any K s1 g1 A1 n1 c1 B1 m1 d1 x1 W (h1.below hW) hK
  have HT := Lib.hid fun W (hW : Below w.heap.size w W) => sign6_any K s2 g2 A2 n2 c2 B2 m2 d2 x2 W (h2.below hW) hK
  obtain ⟨sg, hsg⟩ : ∃ z, esx s1 x1 = z := ⟨_, rfl⟩
  obtain ⟨tg, htg⟩ : ∃ z, esx s2 x2 = z := ⟨_, rfl⟩
  rw [hsg] at HS ⊢
  rw [htg] at HT ⊢
  clear h1 h2 hK hsg htg
  cases o
  · have LB0 := Lib.hid (show Below w.heap.size w (w.alloc (.cells #[.bool false, .int .i64 s1, .bool g1, .slice A1 n1 c1, .slice B1 m1 d1, .int .i64 s2, .bool g2, .slice A2 n2 c2, .slice B2 m2 d2] 69)) from (below_alloc w _))
    have LG0_0 := Lib.hid ((Blk.at (W := w) (g := w.heap.size) (by simp <;> omega) 69 #[.bool false, .int .i64 s1, .bool g1, .slice A1 n1 c1, .slice B1 m1 d1, .int .i64 s2, .bool g2, .slice A2 n2 c2, .slice B2 m2 d2]))
    go_enter Tryz.func85, Tryz.ntmps85
    have q0_0 := LG0_0.out.ce 0 rfl
    have q0_1 := LG0_0.out.ce 1 rfl
    have q0_2 := LG0_0.out.ce 2 rfl
    have q0_3 := LG0_0.out.ce 3 rfl
    have q0_4 := LG0_0.out.ce 4 rfl
    have q0_5 := LG0_0.out.ce 5 rfl
    have q0_6 := LG0_0.out.ce 6 rfl
    have q0_7 := LG0_0.out.ce 7 rfl
    have q0_8 := LG0_0.out.ce 8 rfl
    go_wp2_with fail
    refine (HS.out _ LB0.out).mono ?_
    rintro e w1 ⟨rfl, hb1⟩
    have LB1 := stB LB0 hb1 LB0.out.size
    have LG0_1 := stG LG0_0 hb1
    clear LB0 LG0_0
    clear hb1 HS q0_0 q0_1 q0_2 q0_3 q0_4 q0_5 q0_6 q0_7 q0_8
    have q0_0 := LG0_1.out.ce 0 rfl
    have q0_1 := LG0_1.out.ce 1 rfl
    have q0_2 := LG0_1.out.ce 2 rfl
    have q0_3 := LG0_1.out.ce 3 rfl
    have q0_4 := LG0_1.out.ce 4 rfl
    have q0_5 := LG0_1.out.ce 5 rfl
    have q0_6 := LG0_1.out.ce 6 rfl
    have q0_7 := LG0_1.out.ce 7 rfl
    have q0_8 := LG0_1.out.ce 8 rfl
    by_cases hz : sg ≤ 0
    · have hzb := decide_eq_true hz
      go_wp2_with fail
      refine (HT.out _ LB1.out).mono ?_
      rintro e w2 ⟨rfl, hb2⟩
      have F := Lib.hid (LB1.out.trans (hb2.mono LB1.out.size))
      clear hb2
      go_wp2
      go_ret
      exact ⟨ret_bool (by rw [hzb]; rfl), F.out⟩
    · have hzb := decide_eq_false hz
      have F := Lib.hid LB1.out
      go_wp2
      go_ret
      exact ⟨ret_bool (by rw [hzb]; rfl), F.out⟩
  · have LB0 := Lib.hid (show Below w.heap.size w (w.alloc (.cells #[.bool true, .int .i64 s1, .bool g1, .slice A1 n1 c1, .slice B1 m1 d1, .int .i64 s2, .bool g2, .slice A2 n2 c2, .slice B2 m2 d2] 69)) from (below_alloc w _))
    have LG0_0 := Lib.hid ((Blk.at (W := w) (g := w.heap.size) (by simp <;> omega) 69 #[.bool true, .int .i64 s1, .bool g1, .slice A1 n1 c1, .slice B1 m1 d1, .int .i64 s2, .bool g2, .slice A2 n2 c2, .slice B2 m2 d2]))
    have F := Lib.hid LB0.out
    go_enter Tryz.func85, Tryz.ntmps85
    have q0_0 := LG0_0.out.ce 0 rfl
    have q0_1 := LG0_0.out.ce 1 rfl
    have q0_2 := LG0_0.out.ce 2 rfl
    have q0_3 := LG0_0.out.ce 3 rfl
    have q0_4 := LG0_0.out.ce 4 rfl
    have q0_5 := LG0_0.out.ce 5 rfl
    have q0_6 := LG0_0.out.ce 6 rfl
    have q0_7 := LG0_0.out.ce 7 rfl
    have q0_8 := LG0_0.out.ce 8 rfl
    go_wp2
    go_ret
    exact ⟨rfl, F.out⟩
end Go.Proofs.YtmjkmoahkanblaaGreat

namespace Go.Proofs.YtmjkmoahkanblaaGreat
open Go.RowKit
end Go.Proofs.YtmjkmoahkanblaaGreat

namespace Go.Proofs.YtmjkmoahkanblaaGreat
open Go.RowKit
theorem minusp_any (K : Nat) (o : Bool) (s1 : Int) (g1 : Bool) (A1 : Option Addr) (n1 c1 : Nat) (B1 : Option Addr) (m1 d1 : Nat) (x1 : Rat) (N1 : Int) (o1 : Bool) (s2 : Int) (g2 : Bool) (A2 : Option Addr) (n2 c2 : Nat) (B2 : Option Addr) (m2 d2 : Nat) (x2 : Rat) (N2 : Int) (o2 : Bool) (w : World) (h1 : RatV w K g1 (.slice A1 n1 c1) (.slice B1 m1 d1) x1) (h2 : RatV w K g2 (.slice A2 n2 c2) (.slice B2 m2 d2) x2) (hK : K ≤ 1073741824) (hs1 : -1 ≤ s1 ∧ s1 ≤ 1) (hs2 : -1 ≤ s2 ∧ s2 ≤ 1) :
    Calls Tryz.prog 77 #[.agg #[.bool o, .int .i64 s1, .bool g1, .slice A1 n1 c1, .slice B1 m1 d1, .int .i64 N1, .bool o1, .int .i64 s2, .bool g2, .slice A2 n2 c2, .slice B2 m2 d2, .int .i64 N2, .bool o2]] w (NewPiece w K o (-s2) (-x2) N2 o2 (-s1) (-x1) N1 o1) := by
  have HR1 := Lib.hid fun W (hW : Below w.heap.size w W) => (rneg_any K g1 (.slice A1 n1 c1) (.slice B1 m1 d1) x1 W (h1.below hW) hK).mono fun _ _ h => h.s
  have HR2 := Lib.hid fun W (hW : Below w.heap.size w W) => (rneg_any K g2 (.slice A2 n2 c2) (.slice B2 m2 d2) x2 W (h2.below hW) hK).mono fun _ _ h => h.s
  obtain ⟨t1, ht1⟩ : ∃ t, -s1 = t := ⟨_, rfl⟩
  obtain ⟨t2, ht2⟩ : ∃ t, -s2 = t := ⟨_, rfl⟩
  rw [ht1]
  rw [ht2]
  have hw1 : IntKind.i64.wrap (-s1) = t1 := by rw [IntKind.wrap_i64]; omega
  have hw2 : IntKind.i64.wrap (-s2) = t2 := by rw [IntKind.wrap_i64]; omega
  clear h1 h2 hK ht1 ht2
  obtain ⟨LB0, LG0_0, LR⟩ := bx2 w #[.bool o, .int .i64 s1, .bool g1, .slice A1 n1 c1, .slice B1 m1 d1, .int .i64 N1, .bool o1, .int .i64 s2, .bool g2, .slice A2 n2 c2, .slice B2 m2 d2, .int .i64 N2, .bool o2] 64 #[.bool false, .int .i64 0, .bool false, .slice none 0 0, .slice none 0 0, .int .i64 0, .bool false, .int .i64 0, .bool false, .slice none 0 0, .slice none 0 0, .int .i64 0, .bool false] 64
  have LR0 := Lib.hid (HasBlk.of (n := 13) LR.out rfl rfl)
  clear LR
  go_enter Tryz.func77, Tryz.ntmps77
  go_upto_region 1 with fail
  obtain ⟨Wa, hWa⟩ : ∃ X, ((w.alloc (.cells #[.bool o, .int .i64 s1, .bool g1, .slice A1 n1 c1, .slice B1 m1 d1, .int .i64 N1, .bool o1, .int .i64 s2, .bool g2, .slice A2 n2 c2, .slice B2 m2 d2, .int .i64 N2, .bool o2] 64)).alloc (.cells #[.bool false, .int .i64 0, .bool false, .slice none 0 0, .slice none 0 0, .int .i64 0, .bool false, .int .i64 0, .bool false, .slice none 0 0, .slice none 0 0, .int .i64 0, .bool false] 64)) = X := ⟨_, rfl⟩
  rw [hWa] at LB0 LR0 LG0_0 ⊢
  clear hWa
  obtain ⟨q0_0, q0_1, q0_2, q0_3, q0_4, q0_5, q0_6, q0_7, q0_8, q0_9, q0_10, q0_11, q0_12⟩ := LG0_0.out.c13
  go_upto_region 2 with fail
  clear q0_0 q0_1 q0_2 q0_3 q0_4 q0_5 q0_6 q0_7 q0_8 q0_9 q0_10 q0_11 q0_12
  have hlt1 := LR0.out.lt
  have LB1 := Lib.hid (LB0.out.alloc LB0.out.size (.cells #[.int .i64 s1, .bool g1, .slice A1 n1 c1, .slice B1 m1 d1, .int .i64 N1, .bool o1] 62))
  have LR1 := Lib.hid (LR0.out.alloc (.cells #[.int .i64 s1, .bool g1, .slice A1 n1 c1, .slice B1 m1 d1, .int .i64 N1, .bool o1] 62))
  have LG0_1 := Lib.hid (LG0_0.out.alloc (.cells #[.int .i64 s1, .bool g1, .slice A1 n1 c1, .slice B1 m1 d1, .int .i64 N1, .bool o1] 62))
  have LG1_1 := Lib.hid (Blk.new Wa 62 #[.int .i64 s1, .bool g1, .slice A1 n1 c1, .slice B1 m1 d1, .int .i64 N1, .bool o1])
  clear LB0 LR0 LG0_0
  obtain ⟨Wb, hWb⟩ : ∃ W, Wa.alloc (.cells #[.int .i64 s1, .bool g1, .slice A1 n1 c1, .slice B1 m1 d1, .int .i64 N1, .bool o1] 62) = W := ⟨_, rfl⟩
  rw [hWb] at LB1 LR1 LG0_1 LG1_1 ⊢
  clear hWb
  obtain ⟨h, hg⟩ : ∃ g, Wa.heap.size = g := ⟨_, rfl⟩
  rw [hg] at LG1_1 hlt1 ⊢
  clear hg
  have hlt := hlt1
  have hl1 := LG1_1.out.lt
  clear hlt1
  obtain ⟨q0_0, q0_1, q0_2, q0_3, q0_4, q0_5, q0_6, q0_7, q0_8, q0_9, q0_10, q0_11, q0_12⟩ := LG0_1.out.c13
  go_upto_region 3 with fail
  clear q0_0 q0_1 q0_2 q0_3 q0_4 q0_5 q0_6 q0_7 q0_8 q0_9 q0_10 q0_11 q0_12
  have hlt2 := LR1.out.lt
  have LB2 := Lib.hid (LB1.out.alloc LB1.out.size (.cells #[.int .i64 s2, .bool g2, .slice A2 n2 c2, .slice B2 m2 d2, .int .i64 N2, .bool o2] 62))
  have LR2 := Lib.hid (LR1.out.alloc (.cells #[.int .i64 s2, .bool g2, .slice A2 n2 c2, .slice B2 m2 d2, .int .i64 N2, .bool o2] 62))
  have LG0_2 := Lib.hid (LG0_1.out.alloc (.cells #[.int .i64 s2, .bool g2, .slice A2 n2 c2, .slice B2 m2 d2, .int .i64 N2, .bool o2] 62))
  have LG1_2 := Lib.hid (LG1_1.out.alloc (.cells #[.int .i64 s2, .bool g2, .slice A2 n2 c2, .slice B2 m2 d2, .int .i64 N2, .bool o2] 62))
  have LG2_2 := Lib.hid (Blk.new Wb 62 #[.int .i64 s2, .bool g2, .slice A2 n2 c2, .slice B2 m2 d2, .int .i64 N2, .bool o2])
  clear LB1 LR1 LG0_1 LG1_1
  obtain ⟨W1, hWb⟩ : ∃ W, Wb.alloc (.cells #[.int .i64 s2, .bool g2, .slice A2 n2 c2, .slice B2 m2 d2, .int .i64 N2, .bool o2] 62) = W := ⟨_, rfl⟩
  rw [hWb] at LB2 LR2 LG0_2 LG1_2 LG2_2 ⊢
  clear hWb
  obtain ⟨h2, hg⟩ : ∃ g, Wb.heap.size = g := ⟨_, rfl⟩
  rw [hg] at LG2_2 hlt2 hl1 ⊢
  clear hg
  have q1_0 := LG1_2.out.ce 0 rfl
  have f0 := LG1_2.out.frozen 0
  go_upto_region 4 with fail
  clear q1_0 f0
  have LB3 := Lib.hid (LB2.out.setCell (p := ⟨h, 0, none⟩) (show w.heap.size ≤ h by omega) (.int .i64 t1))
  have LR3 := Lib.hid (show HasBlk (W1.setCell ⟨h, 0, none⟩ (.int .i64 t1)) (w.heap.size + 1) 64 13 from LR2.out.other (by omega) 0 [.int .i64 t1])
  have LG0_3 := Lib.hid (show Blk (W1.setCell ⟨h, 0, none⟩ (.int .i64 t1)) w.heap.size 64 #[.bool o, .int .i64 s1, .bool g1, .slice A1 n1 c1, .slice B1 m1 d1, .int .i64 N1, .bool o1, .int .i64 s2, .bool g2, .slice A2 n2 c2, .slice B2 m2 d2, .int .i64 N2, .bool o2] from LG0_2.out.other (by omega) 0 [.int .i64 t1])
  have LG1_3 := Lib.hid (LG1_2.out.set 0 (.int .i64 t1))
  have LG2_3 := Lib.hid (show Blk (W1.setCell ⟨h, 0, none⟩ (.int .i64 t1)) h2 62 #[.int .i64 s2, .bool g2, .slice A2 n2 c2, .slice B2 m2 d2, .int .i64 N2, .bool o2] from LG2_2.out.other (by omega) 0 [.int .i64 t1])
  clear LB2 LR2 LG0_2 LG1_2 LG2_2
  obtain ⟨W2, hW⟩ : ∃ X, W1.setCell ⟨h, 0, none⟩ (.int .i64 t1) = X := ⟨_, rfl⟩
  rw [hW] at LB3 LR3 LG0_3 LG1_3 LG2_3 ⊢
  clear hW
  have q2_0 := LG2_3.out.ce 0 rfl
  have f0 := LG2_3.out.frozen 0
  go_upto_region 5 with fail
  clear q2_0 f0
  have LB4 := Lib.hid (LB3.out.setCell (p := ⟨h2, 0, none⟩) (show w.heap.size ≤ h2 by omega) (.int .i64 t2))
  have LR4 := Lib.hid (show HasBlk (W2.setCell ⟨h2, 0, none⟩ (.int .i64 t2)) (w.heap.size + 1) 64 13 from LR3.out.other (by omega) 0 [.int .i64 t2])
  have LG0_4 := Lib.hid (show Blk (W2.setCell ⟨h2, 0, none⟩ (.int .i64 t2)) w.heap.size 64 #[.bool o, .int .i64 s1, .bool g1, .slice A1 n1 c1, .slice B1 m1 d1, .int .i64 N1, .bool o1, .int .i64 s2, .bool g2, .slice A2 n2 c2, .slice B2 m2 d2, .int .i64 N2, .bool o2] from LG0_3.out.other (by omega) 0 [.int .i64 t2])
  have LG1_4 := Lib.hid (show Blk (W2.setCell ⟨h2, 0, none⟩ (.int .i64 t2)) h 62 #[.int .i64 t1, .bool g1, .slice A1 n1 c1, .slice B1 m1 d1, .int .i64 N1, .bool o1] from LG1_3.out.other (by omega) 0 [.int .i64 t2])
  have LG2_4 := Lib.hid (LG2_3.out.set 0 (.int .i64 t2))
  clear LB3 LR3 LG0_3 LG1_3 LG2_3
  obtain ⟨W3, hW⟩ : ∃ X, W2.setCell ⟨h2, 0, none⟩ (.int .i64 t2) = X := ⟨_, rfl⟩
  rw [hW] at LB4 LR4 LG0_4 LG1_4 LG2_4 ⊢
  clear hW
  clear hw1 hw2
  have q1_1 := LG1_4.out.ce 1 rfl
  have q1_2 := LG1_4.out.ce 2 rfl
  have q1_3 := LG1_4.out.ce 3 rfl
  go_wp2_with fail
  refine (HR1.out _ LB4.out).mono ?_
  rintro e W4 ⟨k1, F1, a1, e1, G1, j1, l1, rfl, hZ, hbZ⟩
  have LB5 := stB LB4 hbZ LB4.out.size
  have LR5 := stR LR4 hbZ
  have LG0_5 := stG LG0_4 hbZ
  have LG1_5 := stG LG1_4 hbZ
  have LG2_5 := stG LG2_4 hbZ
  clear LB4 LR4 LG0_4 LG1_4 LG2_4
  have Z1 := Lib.hid hZ
  clear hZ hbZ HR1 q1_1 q1_2 q1_3
  have q1_1 := LG1_5.out.ce 1 rfl
  have q1_2 := LG1_5.out.ce 2 rfl
  have q1_3 := LG1_5.out.ce 3 rfl
  have f1 := LG1_5.out.frozen 1
  have f2 := LG1_5.out.frozen 2
  have f3 := LG1_5.out.frozen 3
  go_upto_region 6 with fail
  clear f1 f2 f3 q1_1 q1_2 q1_3
  have Z1 := Lib.hid (Z1.out.sets LG1_5.out (NoWd.of (by rw [← Array.all_toList]; rfl)) 1 [.bool k1, .slice F1 a1 e1, .slice G1 j1 l1])
  have LB6 := Lib.hid (below_sets (w0 := w) (show w.heap.size ≤ h by omega) [.bool k1, .slice F1 a1 e1, .slice G1 j1 l1] 1 W4 LB5.out)
  have LR6 := Lib.hid (LR5.out.other (r := h) (by omega) 1 [.bool k1, .slice F1 a1 e1, .slice G1 j1 l1])
  have LG0_6 := Lib.hid (LG0_5.out.other (r := h) (by omega) 1 [.bool k1, .slice F1 a1 e1, .slice G1 j1 l1])
  have LG1_6 := Lib.hid (show Blk (sets W4 h 1 [.bool k1, .slice F1 a1 e1, .slice G1 j1 l1]) h 62 #[.int .i64 t1, .bool k1, .slice F1 a1 e1, .slice G1 j1 l1, .int .i64 N1, .bool o1] from by have hbs := Blk.sets [.bool k1, .slice F1 a1 e1, .slice G1 j1 l1] 1 W4 _ LG1_5.out; simpa [laid] using hbs)
  have LG2_6 := Lib.hid (LG2_5.out.other (r := h) (by omega) 1 [.bool k1, .slice F1 a1 e1, .slice G1 j1 l1])
  clear LB5 LR5 LG0_5 LG1_5 LG2_5
  obtain ⟨W5, hW⟩ : ∃ X, sets W4 h 1 [.bool k1, .slice F1 a1 e1, .slice G1 j1 l1] = X := ⟨_, rfl⟩
  rw [hW] at LB6 LR6 LG0_6 LG1_6 LG2_6 Z1
  simp only [sets] at hW
  rw [hW]
  clear hW
  have q2_1 := LG2_6.out.ce 1 rfl
  have q2_2 := LG2_6.out.ce 2 rfl
  have q2_3 := LG2_6.out.ce 3 rfl
  go_wp2_with fail
  refine (HR2.out _ LB6.out).mono ?_
  rintro e W6 ⟨k2, F2, a2, e2, G2, j2, l2, rfl, hZ, hbZ⟩
  have LB7 := stB LB6 hbZ LB6.out.size
  have LR7 := stR LR6 hbZ
  have LG0_7 := stG LG0_6 hbZ
  have LG1_7 := stG LG1_6 hbZ
  have LG2_7 := stG LG2_6 hbZ
  clear LB6 LR6 LG0_6 LG1_6 LG2_6
  have Z1 := Lib.hid (Z1.out.below hbZ)
  have Z2 := Lib.hid hZ
  clear hZ hbZ HR2 q2_1 q2_2 q2_3
  have q2_1 := LG2_7.out.ce 1 rfl
  have q2_2 := LG2_7.out.ce 2 rfl
  have q2_3 := LG2_7.out.ce 3 rfl
  have f1 := LG2_7.out.frozen 1
  have f2 := LG2_7.out.frozen 2
  have f3 := LG2_7.out.frozen 3
  go_upto_region 7 with fail
  clear f1 f2 f3 q2_1 q2_2 q2_3
  have Z1 := Lib.hid (Z1.out.sets LG2_7.out (NoWd.of (by rw [← Array.all_toList]; rfl)) 1 [.bool k2, .slice F2 a2 e2, .slice G2 j2 l2])
  have Z2 := Lib.hid (Z2.out.sets LG2_7.out (NoWd.of (by rw [← Array.all_toList]; rfl)) 1 [.bool k2, .slice F2 a2 e2, .slice G2 j2 l2])
  have LB8 := Lib.hid (below_sets (w0 := w) (show w.heap.size ≤ h2 by omega) [.bool k2, .slice F2 a2 e2, .slice G2 j2 l2] 1 W6 LB7.out)
  have LR8 := Lib.hid (LR7.out.other (r := h2) (by omega) 1 [.bool k2, .slice F2 a2 e2, .slice G2 j2 l2])
  have LG0_8 := Lib.hid (LG0_7.out.other (r := h2) (by omega) 1 [.bool k2, .slice F2 a2 e2, .slice G2 j2 l2])
  have LG1_8 := Lib.hid (LG1_7.out.other (r := h2) (by omega) 1 [.bool k2, .slice F2 a2 e2, .slice G2 j2 l2])
  have LG2_8 := Lib.hid (show Blk (sets W6 h2 1 [.bool k2, .slice F2 a2 e2, .slice G2 j2 l2]) h2 62 #[.int .i64 t2, .bool k2, .slice F2 a2 e2, .slice G2 j2 l2, .int .i64 N2, .bool o2] from by have hbs := Blk.sets [.bool k2, .slice F2 a2 e2, .slice G2 j2 l2] 1 W6 _ LG2_7.out; simpa [laid] using hbs)
  clear LB7 LR7 LG0_7 LG1_7 LG2_7
  obtain ⟨W7, hW⟩ : ∃ X, sets W6 h2 1 [.bool k2, .slice F2 a2 e2, .slice G2 j2 l2] = X := ⟨_, rfl⟩
  rw [hW] at LB8 LR8 LG0_8 LG1_8 LG2_8 Z1 Z2
  simp only [sets] at hW
  rw [hW]
  clear hW
  have q0_0 := LG0_8.out.ce 0 rfl
  obtain ⟨q1_0, q1_1, q1_2, q1_3, q1_4, q1_5⟩ := LG1_8.out.c6
  obtain ⟨q2_0, q2_1, q2_2, q2_3, q2_4, q2_5⟩ := LG2_8.out.c6
  have FR1 := Lib.hid (LR8.out.rat Z2.out [.bool o, .int .i64 t2, .bool k2, .slice F2 a2 e2, .slice G2 j2 l2, .int .i64 N2, .bool o2, .int .i64 t1, .bool k1, .slice F1 a1 e1, .slice G1 j1 l1, .int .i64 N1, .bool o1])
  have FR2 := Lib.hid (LR8.out.rat Z1.out [.bool o, .int .i64 t2, .bool k2, .slice F2 a2 e2, .slice G2 j2 l2, .int .i64 N2, .bool o2, .int .i64 t1, .bool k1, .slice F1 a1 e1, .slice G1 j1 l1, .int .i64 N1, .bool o1])
  clear Z1 Z2
  obtain ⟨ha0, hf0, ha1, hf1, ha2, hf2, ha3, hf3, ha4, hf4, ha5, hf5, ha6, hf6, ha7, hf7, ha8, hf8, ha9, hf9, ha10, hf10, ha11, hf11, ha12, hf12⟩ := LR8.out.sf13
  obtain ⟨hk0, hk1, hk2, hk3, hk4, hk5, hk6, hk7, hk8, hk9, hk10, hk11, hk12⟩ := LR8.out.sc13 (.bool o) (.int .i64 t2) (.bool k2) (.slice F2 a2 e2) (.slice G2 j2 l2) (.int .i64 N2) (.bool o2) (.int .i64 t1) (.bool k1) (.slice F1 a1 e1) (.slice G1 j1 l1) (.int .i64 N1) (.bool o1)
  have F := Lib.hid (below_sets (w0 := w) (r := (w.heap.size + 1)) (by omega) [.bool o, .int .i64 t2, .bool k2, .slice F2 a2 e2, .slice G2 j2 l2, .int .i64 N2, .bool o2, .int .i64 t1, .bool k1, .slice F1 a1 e1, .slice G1 j1 l1, .int .i64 N1, .bool o1] 0 _ LB8.out)
  simp [sets] at hk0 hk1 hk2 hk3 hk4 hk5 hk6 hk7 hk8 hk9 hk10 hk11 hk12
  go_wp2
  refine bodyPost_ret (v := .agg #[.bool o, .int .i64 t2, .bool k2, .slice F2 a2 e2, .slice G2 j2 l2, .int .i64 N2, .bool o2, .int .i64 t1, .bool k1, .slice F1 a1 e1, .slice G1 j1 l1, .int .i64 N1, .bool o1]) (by simp [results, Tryz.results77, go_sem, hk0, hk1, hk2, hk3, hk4, hk5, hk6, hk7, hk8, hk9, hk10, hk11, hk12]) rfl ?_
  exact ⟨_, _, _, _, _, _, _, _, _, _, _, _, _, _, rfl, FR1.out, FR2.out, F.out⟩
end Go.Proofs.YtmjkmoahkanblaaGreat

namespace Go.Proofs.YtmjkmoahkanblaaGreat
open Go.RowKit
theorem minus_idx (v : Value) (i j : Int) (w : World) (h : SetOf w v i j) :
    Calls Tryz.prog 58 #[v] w fun e w' => ∃ t, e = .returned t ∧ SetOf w' t (-j) (-i) ∧ Below w.heap.size w w' := by
  rcases h with ⟨rfl, rfl, s, x, t, y, g, A, n, c, B, m, d, g', A', n', c', B', m', d', rfl, h4, h5⟩ | ⟨h1, g, A, n, c, B, m, d, g', A', n', c', B', m', d', rfl, h4, h5⟩
  · refine (minus_none 34 s g A n c B m d x t g' A' n' c' B' m' d' y w h4 h5).mono ?_
    rintro e w' ⟨g5, A5, n5, c5, B5, m5, d5, g6, A6, n6, c6, B6, m6, d6, rfl, q1, q2, hb⟩
    exact ⟨_, rfl, .inl ⟨by omega, rfl, _, _, _, _, _, _, _, _, _, _, _, _, _, _, _, _, _, _, rfl, q1, q2⟩, hb⟩
  · refine (minus_some 34 _ g A n c B m d _ _ g' A' n' c' B' m' d' _ w h4 h5 (by omega) (es_bounds i) (es_bounds j)).mono ?_
    rintro e w' ⟨g5, A5, n5, c5, B5, m5, d5, g6, A6, n6, c6, B6, m6, d6, rfl, q1, q2, hb⟩
    rw [← es_neg, ← es_neg]
    rw [← ex_neg] at q1 q2
    exact ⟨_, rfl, .inr ⟨by omega, _, _, _, _, _, _, _, _, _, _, _, _, _, _, rfl, q1, q2⟩, hb⟩
theorem PcW.below {w w0 : World} {o : Bool} {s1 : Int} {g1 : Bool} {A1 : Option Addr} {n1 c1 : Nat} {B1 : Option Addr} {m1 d1 : Nat} {N1 : Int} {o1 : Bool} {s2 : Int} {g2 : Bool} {A2 : Option Addr} {n2 c2 : Nat} {B2 : Option Addr} {m2 d2 : Nat} {N2 : Int} {o2 : Bool} {F : Int → Int → Int × Int}
    (h : PcW w0 o s1 g1 A1 n1 c1 B1 m1 d1 N1 o1 s2 g2 A2 n2 c2 B2 m2 d2 N2 o2 F) (hb : Below w0.heap.size w0 w) : PcW w o s1 g1 A1 n1 c1 B1 m1 d1 N1 o1 s2 g2 A2 n2 c2 B2 m2 d2 N2 o2 F :=
  ⟨h.1, fun W i j hW hij => h.2 W i j (hb.trans (hW.mono hb.size)) hij⟩
end Go.Proofs.YtmjkmoahkanblaaGreat

namespace Go.Proofs.YtmjkmoahkanblaaGreat
open Go.RowKit
def NewPcF (w : World) (F : Int → Int → Int × Int) (e : Ending) (w' : World) : Prop :=
  ∃ o s1 g1 A1 n1 c1 B1 m1 d1 N1 o1 s2 g2 A2 n2 c2 B2 m2 d2 N2 o2,
    e = .returned (.agg #[.bool o, .int .i64 s1, .bool g1, .slice A1 n1 c1, .slice B1 m1 d1, .int .i64 N1, .bool o1, .int .i64 s2, .bool g2, .slice A2 n2 c2, .slice B2 m2 d2, .int .i64 N2, .bool o2]) ∧ PcW w' o s1 g1 A1 n1 c1 B1 m1 d1 N1 o1 s2 g2 A2 n2 c2 B2 m2 d2 N2 o2 F ∧ Below w.heap.size w w'
theorem PcG.of {W : World} {g : Nat} {t : TypeId} {cs : Array Value} {k : Nat} {F : Int → Int → Int × Int} (hb : Blk W g t cs) {o : Bool} {s1 : Int} {g1 : Bool} {A1 : Option Addr} {n1 c1 : Nat} {B1 : Option Addr} {m1 d1 : Nat} {N1 : Int} {o1 : Bool} {s2 : Int} {g2 : Bool} {A2 : Option Addr} {n2 c2 : Nat} {B2 : Option Addr} {m2 d2 : Nat} {N2 : Int} {o2 : Bool}
    (h : PcW W o s1 g1 A1 n1 c1 B1 m1 d1 N1 o1 s2 g2 A2 n2 c2 B2 m2 d2 N2 o2 F)
    (hc : ∀ i : Nat, i < 13 → cs[k * 13 + i]? = (#[.bool o, .int .i64 s1, .bool g1, .slice A1 n1 c1, .slice B1 m1 d1, .int .i64 N1, .bool o1, .int .i64 s2, .bool g2, .slice A2 n2 c2, .slice B2 m2 d2, .int .i64 N2, .bool o2] : Array Value)[i]?) : PcG W ⟨g, 0, none⟩ k F := by
  have e : (⟨g, 0, none⟩ : Addr).add (k * 13) = ⟨g, k * 13, none⟩ := by unfold Addr.add; split <;> simp_all
  have c : ∀ i : Nat, i < 13 → W.cell? ⟨g, k * 13 + i, none⟩ = (#[.bool o, .int .i64 s1, .bool g1, .slice A1 n1 c1, .slice B1 m1 d1, .int .i64 N1, .bool o1, .int .i64 s2, .bool g2, .slice A2 n2 c2, .slice B2 m2 d2, .int .i64 N2, .bool o2] : Array Value)[i]? := fun i hi => (hb.cell _).trans (hc i hi)
  refine ⟨o, s1, g1, A1, n1, c1, B1, m1, d1, N1, o1, s2, g2, A2, n2, c2, B2, m2, d2, N2, o2, ?_, ?_, ?_, ?_, ?_, ?_, ?_, ?_, ?_, ?_, ?_, ?_, ?_, h⟩
  · rw [e]; exact c 0 (by omega)
  · rw [e]; exact c 1 (by omega)
  · rw [e]; exact c 2 (by omega)
  · rw [e]; exact c 3 (by omega)
  · rw [e]; exact c 4 (by omega)
  · rw [e]; exact c 5 (by omega)
  · rw [e]; exact c 6 (by omega)
  · rw [e]; exact c 7 (by omega)
  · rw [e]; exact c 8 (by omega)
  · rw [e]; exact c 9 (by omega)
  · rw [e]; exact c 10 (by omega)
  · rw [e]; exact c 11 (by omega)
  · rw [e]; exact c 12 (by omega)
end Go.Proofs.YtmjkmoahkanblaaGreat

namespace Go.Proofs.YtmjkmoahkanblaaGreat
open Go.RowKit
theorem all_nil (x y : Nat) (w : World) (hx : x < 18446744073709551616) (hy : y < 18446744073709551616) :
    Calls Tryz.prog 54 #[.agg #[.int .u64 (x : Int), .int .u64 (y : Int)], .slice none 0 0] w fun e w' => e = .returned (.agg #[.int .u64 9218868437227405312, .int .u64 18442240474082181120]) ∧ Below w.heap.size w w' := by
  have HR := Lib.hid fun W => read6 x y W hx hy
  have HE := Lib.hid empty6
  obtain ⟨p, hp⟩ : ∃ p, pat (rd x y).1 = p := ⟨_, rfl⟩
  obtain ⟨q, hq⟩ : ∃ p, pat (rd x y).2 = p := ⟨_, rfl⟩
  rw [hp, hq] at HR
  clear hp hq
  obtain ⟨LB0, LG0_0, LR⟩ := bx2 w #[.int .u64 (x : Int), .int .u64 (y : Int)] 24 #[.int .u64 0, .int .u64 0] 24
  have LR0 := Lib.hid (HasBlk.of (n := 2) LR.out rfl rfl)
  clear LR
  go_enter Tryz.func54, Tryz.ntmps54
  go_wp2_with fail
  refine (HR.out _).mono ?_
  rintro e w1 ⟨rfl, hb1⟩
  have LB1 := stB LB0 hb1 LB0.out.size
  have LR1 := stR LR0 hb1
  have LG0_1 := stG LG0_0 hb1
  clear LB0 LR0 LG0_0
  have hlt2 := LR1.out.lt
  have LB2 := Lib.hid (LB1.out.alloc LB1.out.size (.cells #[.int .u64 (p : Int), .int .u64 (q : Int)] 24))
  have LR2 := Lib.hid (LR1.out.alloc (.cells #[.int .u64 (p : Int), .int .u64 (q : Int)] 24))
  have LG0_2 := Lib.hid (LG0_1.out.alloc (.cells #[.int .u64 (p : Int), .int .u64 (q : Int)] 24))
  have LG1_2 := Lib.hid (Blk.new w1 24 #[.int .u64 (p : Int), .int .u64 (q : Int)])
  clear LB1 LR1 LG0_1
  clear hb1
  go_wp2_with fail
  refine (HE.out _).mono ?_
  rintro e w2 ⟨rfl, hb2⟩
  have LB3 := stB LB2 hb2 LB2.out.size
  have LR3 := stR LR2 hb2
  have LG0_3 := stG LG0_2 hb2
  have LG1_3 := stG LG1_2 hb2
  clear LB2 LR2 LG0_2 LG1_2
  have hlt4 := LR3.out.lt
  have LB4 := Lib.hid (LB3.out.alloc LB3.out.size (.cells #[.int .u64 9218868437227405312, .int .u64 18442240474082181120] 24))
  have LR4 := Lib.hid (LR3.out.alloc (.cells #[.int .u64 9218868437227405312, .int .u64 18442240474082181120] 24))
  have LG0_4 := Lib.hid (LG0_3.out.alloc (.cells #[.int .u64 9218868437227405312, .int .u64 18442240474082181120] 24))
  have LG1_4 := Lib.hid (LG1_3.out.alloc (.cells #[.int .u64 9218868437227405312, .int .u64 18442240474082181120] 24))
  have LG2_4 := Lib.hid (Blk.new w2 24 #[.int .u64 9218868437227405312, .int .u64 18442240474082181120])
  clear LB3 LR3 LG0_3 LG1_3
  clear hb2
  go_upto_region 3 with fail
  obtain ⟨V4, hV4⟩ : ∃ X, (w2.alloc (.cells #[.int .u64 9218868437227405312, .int .u64 18442240474082181120] 24)) = X := ⟨_, rfl⟩
  rw [hV4] at LB4 LR4 LG0_4 LG1_4 LG2_4 ⊢
  clear hV4
  go_wp2_with fail
  go_loopw [7] (fun iv wr => iv = .int .i64 0 ∧ V4 = wr) (fun _ _ => 0)
  case atStart => exact ⟨rfl, rfl⟩
  case round =>
    obtain ⟨rfl, rfl⟩ := hrel
    obtain ⟨q2_0, q2_1⟩ := LG2_4.out.c2
    obtain ⟨ha0, hf0, ha1, hf1⟩ := LR4.out.sf2
    obtain ⟨hk0, hk1⟩ := LR4.out.sc2 (.int .u64 9218868437227405312) (.int .u64 18442240474082181120)
    have F := Lib.hid (below_sets (w0 := w) (r := (w.heap.size + 1)) (by omega) [.int .u64 9218868437227405312, .int .u64 18442240474082181120] 0 _ LB4.out)
    simp [sets] at hk0 hk1
    go_wp2
    refine bodyPost_ret (v := .agg #[.int .u64 9218868437227405312, .int .u64 18442240474082181120]) (by simp [results, Tryz.results54, go_sem, hk0, hk1]) rfl ?_
    exact ⟨rfl, F.out⟩
end Go.Proofs.YtmjkmoahkanblaaGreat

namespace Go.Proofs.YtmjkmoahkanblaaGreat
open Go.RowKit
theorem all_pcs (x y : Nat) (A : Option Addr) (n c : Nat) (L : Nat → Int → Int → Int × Int) (w : World) (hx : x < 18446744073709551616) (hy : y < 18446744073709551616) (hn : n ≤ 100) (hc : n ≤ c) (h0 : n = 0 → A = none ∧ c = 0) (hL : ∀ k : Nat, k < n → ∃ ad, A = some ad ∧ PcG w ad k (L k)) :
    Calls Tryz.prog 54 #[.agg #[.int .u64 (x : Int), .int .u64 (y : Int)], .slice A n c] w fun e w' => e = .returned (.agg #[.int .u64 (pat (zg (rd x y).1 (rd x y).2 L n).1 : Int), .int .u64 (pat (zg (rd x y).1 (rd x y).2 L n).2 : Int)]) ∧ Below w.heap.size w w' := by
  rcases Nat.eq_zero_or_pos n with h | h
  · subst h
    obtain ⟨rfl, rfl⟩ := h0 rfl
    have h := all_nil x y w hx hy
    show Calls _ _ _ _ fun e w' => e = .returned (.agg #[.int .u64 (pat (M : Int) : Int), .int .u64 (pat (-(M : Int)) : Int)]) ∧ Below w.heap.size w w'
    rw [pat_max, pat_min]
    exact h
  · obtain ⟨ad, rfl, -⟩ := hL 0 h
    exact all_gen x y ad n c L w hx hy hn hc (fun k hk => by
      obtain ⟨ad', e, hp⟩ := hL k hk
      cases e; exact hp)
end Go.Proofs.YtmjkmoahkanblaaGreat

namespace Go.Proofs.YtmjkmoahkanblaaGreat
open Go.RowKit
theorem esx_idx {i : Int} (h : -(M : Int) ≤ i ∧ i ≤ M) : (0 < esx (es i) (ex i) ↔ 0 < i) ∧ (esx (es i) (ex i) < 0 ↔ i < 0) := by
  have hM : (M : Int) = 9218868437227405312 := rfl
  by_cases h1 : i = M
  · subst h1; rw [es_max]; unfold esx; rw [if_pos (by omega)]; omega
  · by_cases h2 : i = -(M : Int)
    · subst h2; rw [es_min]; unfold esx; rw [if_pos (by omega)]; omega
    · rw [es_mid (by omega) (by omega), ex_mid (by omega) (by omega)]
      unfold esx rsg
      rw [if_neg (by omega)]
      rcases Int.lt_trichotomy i 0 with h3 | h3 | h3
      · have := fl_lt_iff.2 h3
        rw [fl_zero] at this
        rw [if_neg (by grind), if_pos this]; omega
      · subst h3; rw [fl_zero]; simp
      · have := fl_pos h3
        rw [if_neg (by grind), if_neg (by grind)]; omega
theorem up_end {b : Int} (h : -(M : Int) ≤ b ∧ b ≤ M) : (if 0 < ec 0 0 (es b) (ex b) then 0 else es b) = es (max b 0) ∧ (if 0 < ec 0 0 (es b) (ex b) then 0 else ex b) = ex (max b 0) := by
  have hM : (M : Int) = 9218868437227405312 := rfl
  have k := ec_sel_hi (i := b) (i' := 0) h (by omega)
  rw [es_nought, ex_nought] at k
  exact k
theorem NewPiece.up {w w' : World} {K K' : Nat} {o : Bool} {s : Int} {x : Rat} {N : Int} {p : Bool} {s' : Int} {x' : Rat} {N' : Int} {p' : Bool} {e : Ending} (h : NewPiece w K o s x N p s' x' N' p' e w') (hk : K ≤ K') : NewPiece w K' o s x N p s' x' N' p' e w' := by
  obtain ⟨g, A, n, c, B, m, d, g', A', n', c', B', m', d', rfl, h1, h2, hb⟩ := h
  exact ⟨g, A, n, c, B, m, d, g', A', n', c', B', m', d', rfl, h1.mono hk, h2.mono hk, hb⟩
def PN (b1 b2 : Int) (s1 : Int) (x1 : Rat) (s2 : Int) (x2 : Rat) (i j : Int) : Int × Int :=
  (-(PF (-b2) (-b1) s1 x1 s2 x2 (-j) (-i)).2, -(PF (-b2) (-b1) s1 x1 s2 x2 (-j) (-i)).1)
def LF (b1 b2 : Int) (s1 : Int) (x1 : Rat) (s2 : Int) (x2 : Rat) (k : Nat) : Int → Int → Int × Int :=
  if (b1 ≤ 0 ∧ 0 ≤ b2) ∧ esx s1 x1 ≤ 0 ∧ 0 ≤ esx s2 x2 then pf (-1) 0 true 1 0 true else if k = 0 then PF b1 b2 s1 x1 s2 x2 else PN b1 b2 s1 x1 s2 x2
end Go.Proofs.YtmjkmoahkanblaaGreat

namespace Go.Proofs.YtmjkmoahkanblaaGreat
open Go.RowKit
def ngF (F : Int → Int → Int × Int) : Int → Int → Int × Int := fun i j => (-(F (-j) (-i)).2, -(F (-j) (-i)).1)
def PcV (w : World) (o : Bool) (s1 : Int) (g1 : Bool) (A1 : Option Addr) (n1 c1 : Nat) (B1 : Option Addr) (m1 d1 : Nat) (N1 : Int) (o1 : Bool) (s2 : Int) (g2 : Bool) (A2 : Option Addr) (n2 c2 : Nat) (B2 : Option Addr) (m2 d2 : Nat) (N2 : Int) (o2 : Bool) (F : Int → Int → Int × Int) : Prop :=
  PcW w o s1 g1 A1 n1 c1 B1 m1 d1 N1 o1 s2 g2 A2 n2 c2 B2 m2 d2 N2 o2 F ∧ ∀ W, Below w.heap.size w W →
    Calls Tryz.prog 77 #[.agg #[.bool o, .int .i64 s1, .bool g1, .slice A1 n1 c1, .slice B1 m1 d1, .int .i64 N1, .bool o1, .int .i64 s2, .bool g2, .slice A2 n2 c2, .slice B2 m2 d2, .int .i64 N2, .bool o2]] W (NewPcF W (ngF F))
def NewPcV (w : World) (F : Int → Int → Int × Int) (e : Ending) (w' : World) : Prop :=
  ∃ o s1 g1 A1 n1 c1 B1 m1 d1 N1 o1 s2 g2 A2 n2 c2 B2 m2 d2 N2 o2,
    e = .returned (.agg #[.bool o, .int .i64 s1, .bool g1, .slice A1 n1 c1, .slice B1 m1 d1, .int .i64 N1, .bool o1, .int .i64 s2, .bool g2, .slice A2 n2 c2, .slice B2 m2 d2, .int .i64 N2, .bool o2]) ∧ PcV w' o s1 g1 A1 n1 c1 B1 m1 d1 N1 o1 s2 g2 A2 n2 c2 B2 m2 d2 N2 o2 F ∧ Below w.heap.size w w'
section
variable {w w' : World} {K : Nat} {o : Bool} {s1 : Int} {g1 : Bool} {A1 : Option Addr} {n1 c1 : Nat} {B1 : Option Addr} {m1 d1 : Nat} {N1 : Int} {o1 : Bool} {s2 : Int} {g2 : Bool} {A2 : Option Addr} {n2 c2 : Nat} {B2 : Option Addr} {m2 d2 : Nat} {N2 : Int} {o2 : Bool} {x1 x2 : Rat} {F : Int → Int → Int × Int}
theorem PcV.below (h : PcV w o s1 g1 A1 n1 c1 B1 m1 d1 N1 o1 s2 g2 A2 n2 c2 B2 m2 d2 N2 o2 F) (hb : Below w.heap.size w w') : PcV w' o s1 g1 A1 n1 c1 B1 m1 d1 N1 o1 s2 g2 A2 n2 c2 B2 m2 d2 N2 o2 F :=
  ⟨h.1.below hb, fun W hW => h.2 W (hb.trans (hW.mono hb.size))⟩
theorem pcv_one (h1 : RatV w K g1 (.slice A1 n1 c1) (.slice B1 m1 d1) x1) (h2 : RatV w K g2 (.slice A2 n2 c2) (.slice B2 m2 d2) x2) (hK : 34 ≤ K) (hK2 : K ≤ 1048576) (hs1 : s1 = 0 ∨ s1 = -1) (hs2 : s2 = 0 ∨ s2 = 1) (hle : dn s1 x1 ≤ up s2 x2) :
    PcV w false s1 g1 A1 n1 c1 B1 m1 d1 1 o1 s2 g2 A2 n2 c2 B2 m2 d2 1 o2 (pf s1 x1 o1 s2 x2 o2) := by
  refine ⟨pcw_one K s1 g1 A1 n1 c1 B1 m1 d1 x1 o1 s2 g2 A2 n2 c2 B2 m2 d2 x2 o2 w h1 h2 hK hK2 hs1 hs2 hle, fun W hW => ?_⟩
  refine (minusp_any K false s1 g1 A1 n1 c1 B1 m1 d1 x1 1 o1 s2 g2 A2 n2 c2 B2 m2 d2 x2 1 o2 W (h1.below hW) (h2.below hW) (by omega) (by omega) (by omega)).mono ?_
  rintro e w' ⟨g5, A5, n5, c5, B5, m5, d5, g6, A6, n6, c6, B6, m6, d6, rfl, r1, r2, hbw⟩
  refine ⟨_, _, _, _, _, _, _, _, _, _, _, _, _, _, _, _, _, _, _, _, _, rfl, ?_, hbw⟩
  have e : ngF (pf s1 x1 o1 s2 x2 o2) = pf (-s2) (-x2) o2 (-s1) (-x1) o1 := by
    funext i j; rw [pf_neg]; rfl
  rw [e]
  refine pcw_one K _ g5 A5 n5 c5 B5 m5 d5 _ _ _ g6 A6 n6 c6 B6 m6 d6 _ _ w' r1 r2 hK hK2 (by omega) (by omega) ?_
  rw [dn_neg, up_neg]; omega
theorem pcv_nothing (h1 : RatV w K g1 (.slice A1 n1 c1) (.slice B1 m1 d1) x1) (h2 : RatV w K g2 (.slice A2 n2 c2) (.slice B2 m2 d2) x2) (hK2 : K ≤ 1048576) (hs1 : -1 ≤ s1 ∧ s1 ≤ 1) (hs2 : -1 ≤ s2 ∧ s2 ≤ 1) :
    PcV w true s1 g1 A1 n1 c1 B1 m1 d1 N1 o1 s2 g2 A2 n2 c2 B2 m2 d2 N2 o2 (fun _ _ => ((M : Int), -(M : Int))) := by
  refine ⟨pcw_nothing s1 g1 A1 n1 c1 B1 m1 d1 x1 o1 s2 g2 A2 n2 c2 B2 m2 d2 x2 o2 N1 N2 w, fun W hW => ?_⟩
  refine (minusp_any K true s1 g1 A1 n1 c1 B1 m1 d1 x1 N1 o1 s2 g2 A2 n2 c2 B2 m2 d2 x2 N2 o2 W (h1.below hW) (h2.below hW) (by omega) hs1 hs2).mono ?_
  rintro e w' ⟨g5, A5, n5, c5, B5, m5, d5, g6, A6, n6, c6, B6, m6, d6, rfl, r1, r2, hbw⟩
  refine ⟨_, _, _, _, _, _, _, _, _, _, _, _, _, _, _, _, _, _, _, _, _, rfl, ?_, hbw⟩
  have e : ngF (fun _ _ => ((M : Int), -(M : Int))) = fun _ _ => ((M : Int), -(M : Int)) := by
    funext i j; unfold ngF; simp
  rw [e]
  exact pcw_nothing _ g5 A5 n5 c5 B5 m5 d5 0 _ _ g6 A6 n6 c6 B6 m6 d6 0 _ _ _ w'
theorem ngF_iv (h : ∀ i j, Iv i j → Iv (F i j).1 (F i j).2) (i j : Int) (hx : Iv i j) : Iv (ngF F i j).1 (ngF F i j).2 := (h (-j) (-i) hx.negg).negg
end
theorem SetOf.setB {w : World} {v : Value} {i j : Int} (h : SetOf w v i j) {g : Nat} {t : TypeId} {cs : Array Value} (hb : Blk w g t cs) (hc : NoWd cs) (k : Nat) (vs : List Value) : SetOf (sets w g k vs) v i j := by
  rcases h with ⟨rfl, rfl, s, x, t, y, g, A, n, c, B, m, d, g', A', n', c', B', m', d', rfl, h4, h5⟩ | ⟨h1, g, A, n, c, B, m, d, g', A', n', c', B', m', d', rfl, h4, h5⟩
  · exact .inl ⟨rfl, rfl, s, x, t, y, g, A, n, c, B, m, d, g', A', n', c', B', m', d', rfl, h4.sets hb hc k vs, h5.sets hb hc k vs⟩
  · exact .inr ⟨h1, g, A, n, c, B, m, d, g', A', n', c', B', m', d', rfl, h4.sets hb hc k vs, h5.sets hb hc k vs⟩
theorem SetOf.setsE {w W' : World} {v : Value} {i j : Int} (h : SetOf w v i j) {g : Nat} {t : TypeId} {cs : Array Value} {k : Nat} {vs : List Value} (hb : Blk w g t cs) (hc : NoWd cs) (e : sets w g k vs = W') : SetOf W' v i j := e ▸ h.setB hb hc k vs
def NewSetI (w : World) (i j : Int) (e : Ending) (w' : World) : Prop :=
  ∃ o s g A n c B m d t g' A' n' c' B' m' d', e = .returned (.agg #[.bool o, .int .i64 s, .bool g, .slice A n c, .slice B m d, .int .i64 t, .bool g', .slice A' n' c', .slice B' m' d']) ∧
    SetOf w' (.agg #[.bool o, .int .i64 s, .bool g, .slice A n c, .slice B m d, .int .i64 t, .bool g', .slice A' n' c', .slice B' m' d']) i j ∧ Below w.heap.size w w'
theorem SetOf.cells {w : World} {v : Value} {i j : Int} (h : SetOf w v i j) : ∃ o s g A n c B m d t g' A' n' c' B' m' d', v = .agg #[.bool o, .int .i64 s, .bool g, .slice A n c, .slice B m d, .int .i64 t, .bool g', .slice A' n' c', .slice B' m' d'] := by
  rcases h with ⟨-, -, s, x, t, y, g, A, n, c, B, m, d, g', A', n', c', B', m', d', rfl, -, -⟩ | ⟨-, g, A, n, c, B, m, d, g', A', n', c', B', m', d', rfl, -, -⟩
  · exact ⟨_, _, _, _, _, _, _, _, _, _, _, _, _, _, _, _, _, rfl⟩
  · exact ⟨_, _, _, _, _, _, _, _, _, _, _, _, _, _, _, _, _, rfl⟩
theorem of_i (x y : Nat) (w : World) (hx : x < 18446744073709551616) (hy : y < 18446744073709551616) :
    Calls Tryz.prog 57 #[.agg #[.int .u64 (x : Int), .int .u64 (y : Int)]] w (NewSetI w (rd x y).1 (rd x y).2) :=
  (of_idx x y w hx hy).mono fun e w' ⟨v, he, hs, hb⟩ => by
    obtain ⟨o, s, g, A, n, c, B, m, d, t, g', A', n', c', B', m', d', rfl⟩ := hs.cells
    exact ⟨o, s, g, A, n, c, B, m, d, t, g', A', n', c', B', m', d', he, hs, hb⟩
theorem minus_i (v : Value) (i j : Int) (w : World) (h : SetOf w v i j) :
    Calls Tryz.prog 58 #[v] w (NewSetI w (-j) (-i)) :=
  (minus_idx v i j w h).mono fun e w' ⟨v, he, hs, hb⟩ => by
    obtain ⟨o, s, g, A, n, c, B, m, d, t, g', A', n', c', B', m', d', rfl⟩ := hs.cells
    exact ⟨o, s, g, A, n, c, B, m, d, t, g', A', n', c', B', m', d', he, hs, hb⟩
theorem PcG.at {W : World} {g : Nat} {t : TypeId} {cs : Array Value} (hb : Blk W g t cs) (k : Nat) {o : Bool} {s1 : Int} {g1 : Bool} {A1 : Option Addr} {n1 c1 : Nat} {B1 : Option Addr} {m1 d1 : Nat} {N1 : Int} {o1 : Bool} {s2 : Int} {g2 : Bool} {A2 : Option Addr} {n2 c2 : Nat} {B2 : Option Addr} {m2 d2 : Nat} {N2 : Int} {o2 : Bool} {F : Int → Int → Int × Int}
    (h : PcW W o s1 g1 A1 n1 c1 B1 m1 d1 N1 o1 s2 g2 A2 n2 c2 B2 m2 d2 N2 o2 F)
    (hc : cs[k * 13]? = some (.bool o) ∧ cs[k * 13 + 1]? = some (.int .i64 s1) ∧ cs[k * 13 + 2]? = some (.bool g1) ∧ cs[k * 13 + 3]? = some (.slice A1 n1 c1) ∧ cs[k * 13 + 4]? = some (.slice B1 m1 d1) ∧ cs[k * 13 + 5]? = some (.int .i64 N1) ∧ cs[k * 13 + 6]? = some (.bool o1) ∧ cs[k * 13 + 7]? = some (.int .i64 s2) ∧ cs[k * 13 + 8]? = some (.bool g2) ∧ cs[k * 13 + 9]? = some (.slice A2 n2 c2) ∧ cs[k * 13 + 10]? = some (.slice B2 m2 d2) ∧ cs[k * 13 + 11]? = some (.int .i64 N2) ∧ cs[k * 13 + 12]? = some (.bool o2)) : PcG W ⟨g, 0, none⟩ k F :=
  PcG.of hb h fun i hi => by
    obtain ⟨c0, c1, c2, c3, c4, c5, c6, c7, c8, c9, c10, c11, c12⟩ := hc
    match i, hi with
    | 0, _ => exact c0 | 1, _ => exact c1 | 2, _ => exact c2 | 3, _ => exact c3 | 4, _ => exact c4 | 5, _ => exact c5 | 6, _ => exact c6 | 7, _ => exact c7 | 8, _ => exact c8 | 9, _ => exact c9 | 10, _ => exact c10 | 11, _ => exact c11 | 12, _ => exact c12
end Go.Proofs.YtmjkmoahkanblaaGreat
