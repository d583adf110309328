/-
Walks: package vergeref6, Upper; package vergeref10, quotients, minus (of a piece), zero.
-/
import Derived.Test.YtmjkmoahkanblaaGreatM04
import Derived.Test.YtmjkmoahkanblaaGreatM25
import Derived.Test.YtmjkmoahkanblaaGreatM28
set_option linter.unusedSimpArgs false
set_option linter.unusedVariables false
set_option maxHeartbeats 12800000

namespace Go.Proofs.YtmjkmoahkanblaaGreat
open Go.RowKit
theorem upper_none (K : Nat) (o : Bool) (s1 : Int) (g1 : Bool) (A1 : Option Addr) (n1 c1 : Nat) (B1 : Option Addr) (m1 d1 : Nat) (x1 : Rat) (s2 : Int) (g2 : Bool) (A2 : Option Addr) (n2 c2 : Nat) (B2 : Option Addr) (m2 d2 : Nat) (x2 : Rat) (w : World) (h2 : RatV w K g2 (.slice A2 n2 c2) (.slice B2 m2 d2) x2) (hK : K ≤ 1073741824) (ho : o = true ∨ esx s2 x2 ≤ 0) :
    Calls Tryz.prog 146 #[.agg #[.bool o, .int .i64 s1, .bool g1, .slice A1 n1 c1, .slice B1 m1 d1, .int .i64 s2, .bool g2, .slice A2 n2 c2, .slice B2 m2 d2]] w (NewSet w 1 true 0 0 0 0) := by
  have HN := Lib.hid none6
  have HS := Lib.hid fun W (hW : Below w.heap.size w W) => sign6_any K s2 g2 A2 n2 c2 B2 m2 d2 x2 W (h2.below hW) hK
  obtain ⟨sg, hsg⟩ : ∃ z, esx s2 x2 = z := ⟨_, rfl⟩
  rw [hsg] at HS ho
  clear h2 hK hsg
  cases o
  · have LB0 := Lib.hid (show Below w.heap.size w ((w.alloc (.cells #[.bool false, .int .i64 s1, .bool g1, .slice A1 n1 c1, .slice B1 m1 d1, .int .i64 s2, .bool g2, .slice A2 n2 c2, .slice B2 m2 d2] 69)).alloc (.cells #[.bool false, .int .i64 0, .bool false, .slice none 0 0, .slice none 0 0, .int .i64 0, .bool false, .slice none 0 0, .slice none 0 0] 69)) from ((below_alloc w _).alloc (by simp <;> omega) _))
    have LG0_0 := Lib.hid (((Blk.at (W := w) (g := w.heap.size) (by simp <;> omega) 69 #[.bool false, .int .i64 s1, .bool g1, .slice A1 n1 c1, .slice B1 m1 d1, .int .i64 s2, .bool g2, .slice A2 n2 c2, .slice B2 m2 d2]).alloc (.cells #[.bool false, .int .i64 0, .bool false, .slice none 0 0, .slice none 0 0, .int .i64 0, .bool false, .slice none 0 0, .slice none 0 0] 69)))
    have LR0 := Lib.hid (HasBlk.of (n := 9) (Blk.at (W := (w.alloc (.cells #[.bool false, .int .i64 s1, .bool g1, .slice A1 n1 c1, .slice B1 m1 d1, .int .i64 s2, .bool g2, .slice A2 n2 c2, .slice B2 m2 d2] 69))) (g := (w.heap.size + 1)) (by simp <;> omega) 69 #[.bool false, .int .i64 0, .bool false, .slice none 0 0, .slice none 0 0, .int .i64 0, .bool false, .slice none 0 0, .slice none 0 0]) rfl rfl)
    go_enter Tryz.func146, Tryz.ntmps146
    have hz : sg ≤ 0 := by rcases ho with h | h; cases h; exact h
    clear ho
    have q0_0 := LG0_0.out.ce 0 rfl
    have q0_1 := LG0_0.out.ce 1 rfl
    have q0_2 := LG0_0.out.ce 2 rfl
    have q0_3 := LG0_0.out.ce 3 rfl
    have q0_4 := LG0_0.out.ce 4 rfl
    have q0_5 := LG0_0.out.ce 5 rfl
    have q0_6 := LG0_0.out.ce 6 rfl
    have q0_7 := LG0_0.out.ce 7 rfl
    have q0_8 := LG0_0.out.ce 8 rfl
    go_wp2_with fail
    refine (HS.out _ LB0.out).mono ?_
    rintro e w1 ⟨rfl, hb1⟩
    have LB1 := stB LB0 hb1 LB0.out.size
    have LR1 := stR LR0 hb1
    have LG0_1 := stG LG0_0 hb1
    clear LB0 LR0 LG0_0
    clear hb1 HS q0_0 q0_1 q0_2 q0_3 q0_4 q0_5 q0_6 q0_7 q0_8
    go_wp2_with fail
    refine (HN.out _).mono ?_
    rintro e wN ⟨p1, P1, q1, r1, Q1, t1, u1, p2, P2, q2, r2, Q2, t2, u2, rfl, hR1, hR2, hbN⟩
    have LB2 := stB LB1 hbN LB1.out.size
    have LR2 := stR LR1 hbN
    have LG0_2 := stG LG0_1 hbN
    clear LB1 LR1 LG0_1
    have FR1 := Lib.hid (LR2.out.rat hR1 [.bool true, .int .i64 0, .bool p1, .slice P1 q1 r1, .slice Q1 t1 u1, .int .i64 0, .bool p2, .slice P2 q2 r2, .slice Q2 t2 u2])
    have FR2 := Lib.hid (LR2.out.rat hR2 [.bool true, .int .i64 0, .bool p1, .slice P1 q1 r1, .slice Q1 t1 u1, .int .i64 0, .bool p2, .slice P2 q2 r2, .slice Q2 t2 u2])
    clear hR1 hR2 hbN HN
    obtain ⟨ha0, hf0, ha1, hf1, ha2, hf2, ha3, hf3, ha4, hf4, ha5, hf5, ha6, hf6, ha7, hf7, ha8, hf8⟩ := LR2.out.sf9
    obtain ⟨hk0, hk1, hk2, hk3, hk4, hk5, hk6, hk7, hk8⟩ := LR2.out.sc9 (.bool true) (.int .i64 0) (.bool p1) (.slice P1 q1 r1) (.slice Q1 t1 u1) (.int .i64 0) (.bool p2) (.slice P2 q2 r2) (.slice Q2 t2 u2)
    have F := Lib.hid (below_sets (w0 := w) (r := (w.heap.size + 1)) (by omega) [.bool true, .int .i64 0, .bool p1, .slice P1 q1 r1, .slice Q1 t1 u1, .int .i64 0, .bool p2, .slice P2 q2 r2, .slice Q2 t2 u2] 0 _ LB2.out)
    simp [sets] at hk0 hk1 hk2 hk3 hk4 hk5 hk6 hk7 hk8
    go_wp2
    refine bodyPost_ret (v := .agg #[.bool true, .int .i64 0, .bool p1, .slice P1 q1 r1, .slice Q1 t1 u1, .int .i64 0, .bool p2, .slice P2 q2 r2, .slice Q2 t2 u2]) (by simp [results, Tryz.results146, go_sem, hk0, hk1, hk2, hk3, hk4, hk5, hk6, hk7, hk8]) rfl ?_
    exact ⟨_, _, _, _, _, _, _, _, _, _, _, _, _, _, rfl, FR1.out, FR2.out, F.out⟩
  · have LB0 := Lib.hid (show Below w.heap.size w ((w.alloc (.cells #[.bool true, .int .i64 s1, .bool g1, .slice A1 n1 c1, .slice B1 m1 d1, .int .i64 s2, .bool g2, .slice A2 n2 c2, .slice B2 m2 d2] 69)).alloc (.cells #[.bool false, .int .i64 0, .bool false, .slice none 0 0, .slice none 0 0, .int .i64 0, .bool false, .slice none 0 0, .slice none 0 0] 69)) from ((below_alloc w _).alloc (by simp <;> omega) _))
    have LG0_0 := Lib.hid (((Blk.at (W := w) (g := w.heap.size) (by simp <;> omega) 69 #[.bool true, .int .i64 s1, .bool g1, .slice A1 n1 c1, .slice B1 m1 d1, .int .i64 s2, .bool g2, .slice A2 n2 c2, .slice B2 m2 d2]).alloc (.cells #[.bool false, .int .i64 0, .bool false, .slice none 0 0, .slice none 0 0, .int .i64 0, .bool false, .slice none 0 0, .slice none 0 0] 69)))
    have LR0 := Lib.hid (HasBlk.of (n := 9) (Blk.at (W := (w.alloc (.cells #[.bool true, .int .i64 s1, .bool g1, .slice A1 n1 c1, .slice B1 m1 d1, .int .i64 s2, .bool g2, .slice A2 n2 c2, .slice B2 m2 d2] 69))) (g := (w.heap.size + 1)) (by simp <;> omega) 69 #[.bool false, .int .i64 0, .bool false, .slice none 0 0, .slice none 0 0, .int .i64 0, .bool false, .slice none 0 0, .slice none 0 0]) rfl rfl)
    go_enter Tryz.func146, Tryz.ntmps146
    have q0_0 := LG0_0.out.ce 0 rfl
    have q0_1 := LG0_0.out.ce 1 rfl
    have q0_2 := LG0_0.out.ce 2 rfl
    have q0_3 := LG0_0.out.ce 3 rfl
    have q0_4 := LG0_0.out.ce 4 rfl
    have q0_5 := LG0_0.out.ce 5 rfl
    have q0_6 := LG0_0.out.ce 6 rfl
    have q0_7 := LG0_0.out.ce 7 rfl
    have q0_8 := LG0_0.out.ce 8 rfl
    clear HS ho
    go_wp2_with fail
    refine (HN.out _).mono ?_
    rintro e wN ⟨p1, P1, q1, r1, Q1, t1, u1, p2, P2, q2, r2, Q2, t2, u2, rfl, hR1, hR2, hbN⟩
    have LB1 := stB LB0 hbN LB0.out.size
    have LR1 := stR LR0 hbN
    have LG0_1 := stG LG0_0 hbN
    clear LB0 LR0 LG0_0
    have FR1 := Lib.hid (LR1.out.rat hR1 [.bool true, .int .i64 0, .bool p1, .slice P1 q1 r1, .slice Q1 t1 u1, .int .i64 0, .bool p2, .slice P2 q2 r2, .slice Q2 t2 u2])
    have FR2 := Lib.hid (LR1.out.rat hR2 [.bool true, .int .i64 0, .bool p1, .slice P1 q1 r1, .slice Q1 t1 u1, .int .i64 0, .bool p2, .slice P2 q2 r2, .slice Q2 t2 u2])
    clear hR1 hR2 hbN HN
    obtain ⟨ha0, hf0, ha1, hf1, ha2, hf2, ha3, hf3, ha4, hf4, ha5, hf5, ha6, hf6, ha7, hf7, ha8, hf8⟩ := LR1.out.sf9
    obtain ⟨hk0, hk1, hk2, hk3, hk4, hk5, hk6, hk7, hk8⟩ := LR1.out.sc9 (.bool true) (.int .i64 0) (.bool p1) (.slice P1 q1 r1) (.slice Q1 t1 u1) (.int .i64 0) (.bool p2) (.slice P2 q2 r2) (.slice Q2 t2 u2)
    have F := Lib.hid (below_sets (w0 := w) (r := (w.heap.size + 1)) (by omega) [.bool true, .int .i64 0, .bool p1, .slice P1 q1 r1, .slice Q1 t1 u1, .int .i64 0, .bool p2, .slice P2 q2 r2, .slice Q2 t2 u2] 0 _ LB1.out)
    simp [sets] at hk0 hk1 hk2 hk3 hk4 hk5 hk6 hk7 hk8
    go_wp2
    refine bodyPost_ret (v := .agg #[.bool true, .int .i64 0, .bool p1, .slice P1 q1 r1, .slice Q1 t1 u1, .int .i64 0, .bool p2, .slice P2 q2 r2, .slice Q2 t2 u2]) (by simp [results, Tryz.results146, go_sem, hk0, hk1, hk2, hk3, hk4, hk5, hk6, hk7, hk8]) rfl ?_
    exact ⟨_, _, _, _, _, _, _, _, _, _, _, _, _, _, rfl, FR1.out, FR2.out, F.out⟩
theorem upper_some (K : Nat) (s1 : Int) (g1 : Bool) (A1 : Option Addr) (n1 c1 : Nat) (B1 : Option Addr) (m1 d1 : Nat) (x1 : Rat) (s2 : Int) (g2 : Bool) (A2 : Option Addr) (n2 c2 : Nat) (B2 : Option Addr) (m2 d2 : Nat) (x2 : Rat) (w : World) (h1 : RatV w K g1 (.slice A1 n1 c1) (.slice B1 m1 d1) x1) (h2 : RatV w K g2 (.slice A2 n2 c2) (.slice B2 m2 d2) x2) (hK0 : 1 ≤ K) (hK : K ≤ 1073741824) (ho : 0 < esx s2 x2) :
    Calls Tryz.prog 146 #[.agg #[.bool false, .int .i64 s1, .bool g1, .slice A1 n1 c1, .slice B1 m1 d1, .int .i64 s2, .bool g2, .slice A2 n2 c2, .slice B2 m2 d2]] w (NewSet w K false (if 0 < ec 0 0 s1 x1 then 0 else s1) (if 0 < ec 0 0 s1 x1 then 0 else x1) s2 x2) := by
  have HS := Lib.hid fun W (hW : Below w.heap.size w W) => sign6_any K s2 g2 A2 n2 c2 B2 m2 d2 x2 W (h2.below hW) hK
  have HF := Lib.hid (show ∀ W, Calls Tryz.prog 95 #[.int .i64 0] W (NewEnd W 1 0 0) from fun W => finite_nat 0 W (by omega))
  have HG := Lib.hid fun W (gf : Bool) (Af : Option Addr) (nf cf : Nat) (Bf : Option Addr) (mf df : Nat) (hW : Below w.heap.size w W) (hf : RatV W K gf (.slice Af nf cf) (.slice Bf mf df) 0) => greater_any K s1 g1 A1 n1 c1 B1 m1 d1 x1 0 gf Af nf cf Bf mf df 0 W (h1.below hW) hf hK
  have Y0 := Lib.hid h2
  obtain ⟨u, hu⟩ : ∃ z, (if 0 < ec 0 0 s1 x1 then 0 else s1) = z := ⟨_, rfl⟩
  obtain ⟨v, hv⟩ : ∃ z, (if 0 < ec 0 0 s1 x1 then 0 else x1) = z := ⟨_, rfl⟩
  rw [hu, hv] at HG ⊢
  obtain ⟨sg, hsg⟩ : ∃ z, esx s2 x2 = z := ⟨_, rfl⟩
  rw [hsg] at HS ho
  have hz : ¬ sg ≤ 0 := by omega
  have HK0 := Lib.hid hK0
  clear h1 h2 hK0 hK hu hv hsg ho
  obtain ⟨LB0, LG0_0, LR⟩ := bx2 w #[.bool false, .int .i64 s1, .bool g1, .slice A1 n1 c1, .slice B1 m1 d1, .int .i64 s2, .bool g2, .slice A2 n2 c2, .slice B2 m2 d2] 69 #[.bool false, .int .i64 0, .bool false, .slice none 0 0, .slice none 0 0, .int .i64 0, .bool false, .slice none 0 0, .slice none 0 0] 69
  have LR0 := Lib.hid (HasBlk.of (n := 9) LR.out rfl rfl)
  clear LR
  go_enter Tryz.func146, Tryz.ntmps146
  obtain ⟨q0_0, q0_1, q0_2, q0_3, q0_4, q0_5, q0_6, q0_7, q0_8⟩ := LG0_0.out.c9
  go_wp2_with fail
  refine (HS.out _ LB0.out).mono ?_
  rintro e w1 ⟨rfl, hb1⟩
  have LB1 := stB LB0 hb1 LB0.out.size
  have LR1 := stR LR0 hb1
  have LG0_1 := stG LG0_0 hb1
  clear LB0 LR0 LG0_0
  clear hb1 HS q0_0 q0_1 q0_2 q0_3 q0_4 q0_5 q0_6 q0_7 q0_8
  go_wp2_with fail
  refine wp_region_held_drew (S := fun W' => Blk W' w.heap.size 69 #[.bool false, .int .i64 s1, .bool g1, .slice A1 n1 c1, .slice B1 m1 d1, .int .i64 s2, .bool g2, .slice A2 n2 c2, .slice B2 m2 d2] ∧ HasBlk W' (w.heap.size + 1) 69 9 ∧ Below w.heap.size w W') (by kernel_rfl) (by exact ⟨LG0_1.out.drew, LR1.out.drew, LB1.out.drew⟩) (fun hHeld => ?_)
  refine tk 0 ?_
  try simp only [Act.put, lay]
  refine tk 1 ?_ (hv := by intro W2 hSw; obtain ⟨q0, q1, q2, q3, q4, q5, q6, q7, q8⟩ := hSw.1.c9; go_simp; (try with_reducible rfl))
  try simp only [Act.put, lay]
  refine tk 4 ?_
  try simp only [Act.put, lay]
  refine tk 5 ?_ (hv := by intro W2 hSw; obtain ⟨q0, q1, q2, q3, q4, q5, q6, q7, q8⟩ := hSw.1.c9; go_simp; (try with_reducible rfl))
  try simp only [Act.put, lay]
  refine rdy 2 (fun KK hKK => ?_)
  go_simp
  refine (HF.out _).mono ?_
  rintro e w2 ⟨gf, Af, nf, cf, Bf, mf, df, rfl, hRf, hbA⟩
  go_wp2_with fail
  refine hKK.out _ _ (⟨hHeld.1.keep hbA, hHeld.2.1.keep hbA, hHeld.2.2.trans (hbA.mono hHeld.2.2.size)⟩) (fun _ => ?_)
  clear hKK KK hHeld; rename_i hHeld
  try simp only [Act.put, lay]
  refine rdy 3 (fun KK hKK => ?_)
  go_simp
  refine (HG.out _ _ _ _ _ _ _ _ hHeld.2.2 (hRf.mono HK0.out)).mono ?_
  rintro e w3 ⟨ga, AA, na, ca, BA, ma, da, rfl, hRa, hbB⟩
  go_wp2_with fail
  refine hKK.out _ _ (⟨hHeld.1.keep hbB, hHeld.2.1.keep hbB, hHeld.2.2.trans (hbB.mono hHeld.2.2.size)⟩) (fun _ => ?_)
  clear hKK KK hHeld; rename_i hHeld
  try simp only [Act.put, lay]
  refine tk 6 ?_
  try simp only [Act.put, lay]
  refine rdy 7 (fun KK hKK => ?_)
  have ha0 := hHeld.2.1.someCell 0 (by decide); have hf0 := hHeld.2.1.frozen 0; have ha1 := hHeld.2.1.someCell 1 (by decide); have hf1 := hHeld.2.1.frozen 1; have ha2 := hHeld.2.1.someCell 2 (by decide); have hf2 := hHeld.2.1.frozen 2; have ha3 := hHeld.2.1.someCell 3 (by decide); have hf3 := hHeld.2.1.frozen 3; have ha4 := hHeld.2.1.someCell 4 (by decide); have hf4 := hHeld.2.1.frozen 4; have ha5 := hHeld.2.1.someCell 5 (by decide); have hf5 := hHeld.2.1.frozen 5; have ha6 := hHeld.2.1.someCell 6 (by decide); have hf6 := hHeld.2.1.frozen 6; have ha7 := hHeld.2.1.someCell 7 (by decide); have hf7 := hHeld.2.1.frozen 7; have ha8 := hHeld.2.1.someCell 8 (by decide); have hf8 := hHeld.2.1.frozen 8; have HK := Lib.hid (hHeld.2.1.setCell [.bool false, .int .i64 u, .bool ga, .slice AA na ca, .slice BA ma da, .int .i64 s2, .bool g2, .slice A2 n2 c2, .slice B2 m2 d2] rfl); have F := Lib.hid (below_sets (w0 := w) (r := (w.heap.size + 1)) (by omega) [.bool false, .int .i64 u, .bool ga, .slice AA na ca, .slice BA ma da, .int .i64 s2, .bool g2, .slice A2 n2 c2, .slice B2 m2 d2] 0 _ hHeld.2.2); have FR1 := Lib.hid (hHeld.2.1.rat hRa [.bool false, .int .i64 u, .bool ga, .slice AA na ca, .slice BA ma da, .int .i64 s2, .bool g2, .slice A2 n2 c2, .slice B2 m2 d2]); have FR2 := Lib.hid (hHeld.2.1.rat (Y0.out.below hHeld.2.2) [.bool false, .int .i64 u, .bool ga, .slice AA na ca, .slice BA ma da, .int .i64 s2, .bool g2, .slice A2 n2 c2, .slice B2 m2 d2])
  go_simp
  refine hKK.out _ _ (⟨hHeld.1.other (by omega) 0 [.bool false, .int .i64 u, .bool ga, .slice AA na ca, .slice BA ma da, .int .i64 s2, .bool g2, .slice A2 n2 c2, .slice B2 m2 d2], hHeld.2.1.sets [.bool false, .int .i64 u, .bool ga, .slice AA na ca, .slice BA ma da, .int .i64 s2, .bool g2, .slice A2 n2 c2, .slice B2 m2 d2] rfl rfl, below_sets (by omega) [.bool false, .int .i64 u, .bool ga, .slice AA na ca, .slice BA ma da, .int .i64 s2, .bool g2, .slice A2 n2 c2, .slice B2 m2 d2] 0 _ hHeld.2.2⟩) (fun _ => ?_)
  clear hKK KK hHeld; rename_i hHeld
  try simp only [Act.put, lay]
  refine wpAnyH_done (by kernel_rfl) ?_ _
  have hk0 := HK.out 0 (by decide)
  have hk1 := HK.out 1 (by decide)
  have hk2 := HK.out 2 (by decide)
  have hk3 := HK.out 3 (by decide)
  have hk4 := HK.out 4 (by decide)
  have hk5 := HK.out 5 (by decide)
  have hk6 := HK.out 6 (by decide)
  have hk7 := HK.out 7 (by decide)
  have hk8 := HK.out 8 (by decide)
  simp [sets] at hk0 hk1 hk2 hk3 hk4 hk5 hk6 hk7 hk8
  clear hHeld HK hRf hbA hRa hbB
  clear LB1 LR1 LG0_1
  go_wp2
  refine bodyPost_ret (v := .agg #[.bool false, .int .i64 u, .bool ga, .slice AA na ca, .slice BA ma da, .int .i64 s2, .bool g2, .slice A2 n2 c2, .slice B2 m2 d2]) (by simp [results, Tryz.results146, go_sem, hk0, hk1, hk2, hk3, hk4, hk5, hk6, hk7, hk8]) rfl ?_
  exact ⟨_, _, _, _, _, _, _, _, _, _, _, _, _, _, rfl, FR1.out, FR2.out, F.out⟩
theorem zero_any (K : Nat) (o : Bool) (s1 : Int) (g1 : Bool) (A1 : Option Addr) (n1 c1 : Nat) (B1 : Option Addr) (m1 d1 : Nat) (x1 : Rat) (s2 : Int) (g2 : Bool) (A2 : Option Addr) (n2 c2 : Nat) (B2 : Option Addr) (m2 d2 : Nat) (x2 : Rat) (w : World) (h1 : RatV w K g1 (.slice A1 n1 c1) (.slice B1 m1 d1) x1) (h2 : RatV w K g2 (.slice A2 n2 c2) (.slice B2 m2 d2) x2) (hK : K ≤ 1073741824) :
    Calls Tryz.prog 85 #[.agg #[.bool o, .int .i64 s1, .bool g1, .slice A1 n1 c1, .slice B1 m1 d1, .int .i64 s2, .bool g2, .slice A2 n2 c2, .slice B2 m2 d2]] w fun e w' => e = .returned (.bool (!o && decide (esx s1 x1 ≤ 0) && decide (0 ≤ esx s2 x2))) ∧ Below w.heap.size w w' := by
  have HS := Lib.hid fun W (hW : Below w.heap.size w W) => sign6_any K s1 g1 A1 n1 c1 B1 m1 d1 x1 W (h1.below hW) hK
  have HT := Lib.hid fun W (hW : Below w.heap.size w W) => sign6_any K s2 g2 A2 n2 c2 B2 m2 d2 x2 W (h2.below hW) hK
  obtain ⟨sg, hsg⟩ : ∃ z, esx s1 x1 = z := ⟨_, rfl⟩
  obtain ⟨tg, htg⟩ : ∃ z, esx s2 x2 = z := ⟨_, rfl⟩
  rw [hsg] at HS ⊢
  rw [htg] at HT ⊢
  clear h1 h2 hK hsg htg
  cases o
  · have LB0 := Lib.hid (show Below w.heap.size w (w.alloc (.cells #[.bool false, .int .i64 s1, .bool g1, .slice A1 n1 c1, .slice B1 m1 d1, .int .i64 s2, .bool g2, .slice A2 n2 c2, .slice B2 m2 d2] 69)) from (below_alloc w _))
    have LG0_0 := Lib.hid ((Blk.at (W := w) (g := w.heap.size) (by simp <;> omega) 69 #[.bool false, .int .i64 s1, .bool g1, .slice A1 n1 c1, .slice B1 m1 d1, .int .i64 s2, .bool g2, .slice A2 n2 c2, .slice B2 m2 d2]))
    go_enter Tryz.func85, Tryz.ntmps85
    have q0_0 := LG0_0.out.ce 0 rfl
    have q0_1 := LG0_0.out.ce 1 rfl
    have q0_2 := LG0_0.out.ce 2 rfl
    have q0_3 := LG0_0.out.ce 3 rfl
    have q0_4 := LG0_0.out.ce 4 rfl
    have q0_5 := LG0_0.out.ce 5 rfl
    have q0_6 := LG0_0.out.ce 6 rfl
    have q0_7 := LG0_0.out.ce 7 rfl
    have q0_8 := LG0_0.out.ce 8 rfl
    go_wp2_with fail
    refine (HS.out _ LB0.out).mono ?_
    rintro e w1 ⟨rfl, hb1⟩
    have LB1 := stB LB0 hb1 LB0.out.size
    have LG0_1 := stG LG0_0 hb1
    clear LB0 LG0_0
    clear hb1 HS q0_0 q0_1 q0_2 q0_3 q0_4 q0_5 q0_6 q0_7 q0_8
    have q0_0 := LG0_1.out.ce 0 rfl
    have q0_1 := LG0_1.out.ce 1 rfl
    have q0_2 := LG0_1.out.ce 2 rfl
    have q0_3 := LG0_1.out.ce 3 rfl
    have q0_4 := LG0_1.out.ce 4 rfl
    have q0_5 := LG0_1.out.ce 5 rfl
    have q0_6 := LG0_1.out.ce 6 rfl
    have q0_7 := LG0_1.out.ce 7 rfl
    have q0_8 := LG0_1.out.ce 8 rfl
    by_cases hz : sg ≤ 0
    · have hzb := decide_eq_true hz
      go_wp2_with fail
      refine (HT.out _ LB1.out).mono ?_
      rintro e w2 ⟨rfl, hb2⟩
      have F := Lib.hid (LB1.out.trans (hb2.mono LB1.out.size))
      clear hb2
      go_wp2
      go_ret
      exact ⟨ret_bool (by rw [hzb]; rfl), F.out⟩
    · have hzb := decide_eq_false hz
      have F := Lib.hid LB1.out
      go_wp2
      go_ret
      exact ⟨ret_bool (by rw [hzb]; rfl), F.out⟩
  · have LB0 := Lib.hid (show Below w.heap.size w (w.alloc (.cells #[.bool true, .int .i64 s1, .bool g1, .slice A1 n1 c1, .slice B1 m1 d1, .int .i64 s2, .bool g2, .slice A2 n2 c2, .slice B2 m2 d2] 69)) from (below_alloc w _))
    have LG0_0 := Lib.hid ((Blk.at (W := w) (g := w.heap.size) (by simp <;> omega) 69 #[.bool true, .int .i64 s1, .bool g1, .slice A1 n1 c1, .slice B1 m1 d1, .int .i64 s2, .bool g2, .slice A2 n2 c2, .slice B2 m2 d2]))
    have F := Lib.hid LB0.out
    go_enter Tryz.func85, Tryz.ntmps85
    have q0_0 := LG0_0.out.ce 0 rfl
    have q0_1 := LG0_0.out.ce 1 rfl
    have q0_2 := LG0_0.out.ce 2 rfl
    have q0_3 := LG0_0.out.ce 3 rfl
    have q0_4 := LG0_0.out.ce 4 rfl
    have q0_5 := LG0_0.out.ce 5 rfl
    have q0_6 := LG0_0.out.ce 6 rfl
    have q0_7 := LG0_0.out.ce 7 rfl
    have q0_8 := LG0_0.out.ce 8 rfl
    go_wp2
    go_ret
    exact ⟨rfl, F.out⟩
end Go.Proofs.YtmjkmoahkanblaaGreat
