/-
Walks: package vergeref6, Read.
Walks: package vergeref2, RNeg of what is below nought.
Walks: package vergeref2, RCmp.
Walks: package vergeref6, ends.
Walks: package vergeref6, ends held against each other.
What the quotient's loops keep.
Walks: package vergeref2, sub.
Walks: package vergeref2, guess.
-/
import Derived.Test.YthlmlmfebpjgdaaGreatDoorM04
import Derived.Test.YthlmlmfebpjgdaaGreatDoorM05
import Derived.Test.YthlmlmfebpjgdaaGreatDoorM03
import Derived.Test.YthlmlmfebpjgdaaGreatDoorM02
import Derived.Test.YthlmlmfebpjgdaaGreatDoorM01
set_option linter.unusedSimpArgs false
set_option linter.unusedVariables false
set_option maxHeartbeats 12800000

namespace Go.Proofs.YthlmlmfebpjgdaaGreatDoor
open Go.RowKit
theorem plain_b (b : Nat) (w : World) (hb : b < 18446744073709551616) :
    Calls Tryz.prog 175 #[.int .u64 (b : Int)] w fun e w' => e = .returned (.int .u64 (pl b : Int)) ∧ Below w.heap.size w w' :=
  (plain_any b w hb).mono (by rintro e w' ⟨h, k, rfl⟩; exact ⟨h, below_drewN (Below.refl _ _) k⟩)
theorem read6 (x y : Nat) (w : World) (hx : x < 18446744073709551616) (hy : y < 18446744073709551616) :
    Calls Tryz.prog 106 #[.agg #[.int .u64 (x : Int), .int .u64 (y : Int)]] w fun e w' => e = .returned (.agg #[.int .u64 (pat (rd x y).1 : Int), .int .u64 (pat (rd x y).2 : Int)]) ∧ Below w.heap.size w w' := by
  have ba : Below w.heap.size w ((w.alloc (.cells #[.int .u64 (x : Int), .int .u64 (y : Int)] 24)).alloc (.cells #[.int .u64 0, .int .u64 0] 24)) := (below_alloc w _).alloc (by simp) _
  have HS := Lib.hid fun W => sound6 x y W hx hy
  have g1 := (Blk.new w 24 #[.int .u64 (x : Int), .int .u64 (y : Int)]).alloc (.cells #[.int .u64 0, .int .u64 0] 24)
  have g2 := Blk.new2 w (.cells #[.int .u64 (x : Int), .int .u64 (y : Int)] 24) 24 #[.int .u64 0, .int .u64 0]
  have G1 := Lib.hid g1
  have G2 := Lib.hid g2
  have BA := Lib.hid ba
  clear g1 g2 ba
  obtain ⟨s, hs⟩ : ∃ s, snd x y = s := ⟨_, rfl⟩
  rw [hs] at HS
  unfold rd
  rw [hs]
  cases s
  · simp only [Bool.false_eq_true, if_false]
    rw [pat_max, pat_min]
    clear hs
    have HE := Lib.hid empty6
    go_enter Tryz.func106, Tryz.ntmps106
    go_wp2_with fail
    refine (HS.out _).mono ?_; rintro e w1 ⟨rfl, hb1⟩
    have B1 := Lib.hid (BA.out.trans (hb1.mono BA.out.size))
    have K1 := Lib.hid (HasBlk.of (n := 2) (G2.out.keep hb1) rfl rfl)
    clear hb1
    go_wp2_with fail
    refine (HE.out _).mono ?_; rintro e w2 ⟨rfl, hb2⟩
    have B2 := Lib.hid (B1.out.trans (hb2.mono B1.out.size))
    have K2 := Lib.hid (K1.out.keep hb2)
    clear hb2
    obtain ⟨cs, hblk, hsz, hnw⟩ := K2.out
    have c0 := hblk.someCell (j := 0) (by omega); have c1 := hblk.someCell (j := 1) (by omega); have f0 := hblk.frozen 0; have f1 := hblk.frozen 1
    have k0 := sets_cell hblk [.int .u64 9218868437227405312, .int .u64 18442240474082181120] 0 (by decide) (by simp; omega)
    have k1 := sets_cell hblk [.int .u64 9218868437227405312, .int .u64 18442240474082181120] 1 (by decide) (by simp; omega)
    have F := Lib.hid (below_sets (w0 := w) (r := w.heap.size + 1) (by omega) [.int .u64 9218868437227405312, .int .u64 18442240474082181120] 0 _ B2.out)
    simp [sets] at k0 k1
    clear hblk hsz hnw
    go_wp2
    refine bodyPost_ret (v := .agg #[.int .u64 9218868437227405312, .int .u64 18442240474082181120]) (by simp [results, Tryz.results106, go_sem, k0, k1]) rfl ?_
    exact ⟨rfl, F.out⟩
  · simp only [if_true]
    have hd := of_decide_eq_true hs
    rw [← pl_real hx hd.1, ← pl_real hy hd.2.1]
    clear hs hd
    have P1 := Lib.hid fun W => plain_b x W hx
    have P2 := Lib.hid fun W => plain_b y W hy
    go_enter Tryz.func106, Tryz.ntmps106
    go_wp2_with fail
    refine (HS.out _).mono ?_; rintro e w1 ⟨rfl, hb1⟩
    have g0 : Blk w1.drew w.heap.size 24 #[.int .u64 (x : Int), .int .u64 (y : Int)] ∧ HasBlk w1.drew (w.heap.size + 1) 24 2 ∧ Below w.heap.size w w1.drew := ⟨G1.out.keep hb1.drew, HasBlk.of (G2.out.keep hb1.drew) rfl rfl, (BA.out.trans (hb1.mono BA.out.size)).drew⟩
    clear hb1
    go_wp2_with fail
    refine wp_region_held_drew (S := fun W' => Blk W' w.heap.size 24 #[.int .u64 (x : Int), .int .u64 (y : Int)] ∧ HasBlk W' (w.heap.size + 1) 24 2 ∧ Below w.heap.size w W') (by kernel_rfl) (g0) (fun hHeld => ?_)
    refine tk 0 ?_
    try simp only [Act.put, List.setIfInBounds_toArray, List.set_cons_zero, List.set_cons_succ]
    refine tk 1 ?_ (hv := by intro W2 hSw; have q := hSw.1.cell 0; have q1 := hSw.1.cell 1; simp at q q1; go_simp; (try with_reducible rfl))
    try simp only [Act.put, List.setIfInBounds_toArray, List.set_cons_zero, List.set_cons_succ]
    refine tk 3 ?_
    try simp only [Act.put, List.setIfInBounds_toArray, List.set_cons_zero, List.set_cons_succ]
    refine tk 4 ?_ (hv := by intro W2 hSw; have q := hSw.1.cell 0; have q1 := hSw.1.cell 1; simp at q q1; go_simp; (try with_reducible rfl))
    try simp only [Act.put, List.setIfInBounds_toArray, List.set_cons_zero, List.set_cons_succ]
    refine rdy 2 (fun KK hKK => ?_)
    go_simp
    refine (P1.out _).mono ?_
    rintro e w2 ⟨rfl, hb2⟩
    go_wp2_with fail
    refine hKK.out _ _ (⟨hHeld.1.keep hb2, hHeld.2.1.keep hb2, hHeld.2.2.trans (hb2.mono hHeld.2.2.size)⟩) (fun _ => ?_)
    clear hKK KK hHeld; rename_i hHeld
    try simp only [Act.put, List.setIfInBounds_toArray, List.set_cons_zero, List.set_cons_succ]
    refine rdy 5 (fun KK hKK => ?_)
    go_simp
    refine (P2.out _).mono ?_
    rintro e w3 ⟨rfl, hb3⟩
    go_wp2_with fail
    refine hKK.out _ _ (⟨hHeld.1.keep hb3, hHeld.2.1.keep hb3, hHeld.2.2.trans (hb3.mono hHeld.2.2.size)⟩) (fun _ => ?_)
    clear hKK KK hHeld; rename_i hHeld
    try simp only [Act.put, List.setIfInBounds_toArray, List.set_cons_zero, List.set_cons_succ]
    refine tk 6 ?_
    try simp only [Act.put, List.setIfInBounds_toArray, List.set_cons_zero, List.set_cons_succ]
    refine rdy 7 (fun KK hKK => ?_)
    have c0 := hHeld.2.1.someCell 0 (by decide); have c1 := hHeld.2.1.someCell 1 (by decide); have f0 := hHeld.2.1.frozen 0; have f1 := hHeld.2.1.frozen 1; have HK := Lib.hid (hHeld.2.1.setCell [.int .u64 (pl x : Int), .int .u64 (pl y : Int)] rfl); have F := Lib.hid (below_sets (w0 := w) (r := w.heap.size + 1) (by omega) [.int .u64 (pl x : Int), .int .u64 (pl y : Int)] 0 _ hHeld.2.2)
    go_simp
    refine hKK.out _ _ (show _ ∧ _ from ⟨hHeld.1.other (by omega) 0 [.int .u64 (pl x : Int), .int .u64 (pl y : Int)], hHeld.2.1.sets [.int .u64 (pl x : Int), .int .u64 (pl y : Int)] rfl rfl, below_sets (by omega) [.int .u64 (pl x : Int), .int .u64 (pl y : Int)] 0 _ hHeld.2.2⟩) (fun _ => ?_)
    clear hKK KK hHeld; rename_i hHeld
    try simp only [Act.put, List.setIfInBounds_toArray, List.set_cons_zero, List.set_cons_succ]
    refine wpAnyH_done (by kernel_rfl) ?_ _
    have k0 := HK.out 0 (by decide)
    have k1 := HK.out 1 (by decide)
    simp [sets] at k0 k1
    clear hHeld HK
    go_wp2
    refine bodyPost_ret (v := .agg #[.int .u64 (pl x : Int), .int .u64 (pl y : Int)]) (by simp [results, Tryz.results106, go_sem, k0, k1]) rfl ?_
    exact ⟨rfl, F.out⟩
end Go.Proofs.YthlmlmfebpjgdaaGreatDoor

namespace Go.Proofs.YthlmlmfebpjgdaaGreatDoor
open Go.RowKit
theorem rneg_true (K : Nat) (vn vd : Value) (x : Rat) (w : World) (h : RatV w K true vn vd x) (hK : K ≤ 1073741824) :
    Calls Tryz.prog 47 #[.agg #[.bool true, vn, vd]] w (NewRat w K (-x)) := by
  obtain ⟨p, q, A, n, c, B, m, d, rfl, rfl, hu, hv, hq, h0, hp, hq2, rfl⟩ := h
  have hn := hu.len_le hp
  have hm := hv.len_le hq2
  have HU := Lib.hid hu
  have HV := Lib.hid hv
  have hz : n = 0 ↔ p = 0 := by
    have := @digs_length_eq_zero p
    rw [hu.len] at this; exact this
  have HP := Lib.hid hp
  have HQ := Lib.hid hq2
  have H0 := Lib.hid h0
  have HZ := Lib.hid hz
  clear hp hq2 hu hv h0 hz
  have HN : ∀ (W : World) (A : Option Addr) (n c v : Nat), Below w.heap.size w W → U32s w A n c (digs v) → n ≤ K → Calls Tryz.prog 93 #[.slice A n c] W fun e w' => ∃ A1 n1 c1, e = .returned (.slice A1 n1 c1) ∧ U32s w' A1 n1 c1 (digs v) ∧ Below W.heap.size W w' ∧ Below w.heap.size w w' := fun W A n c v hW hu hn =>
    (norm_v A n c _ W (hu.below hW) (by omega) (num_digs v)).mono (by
      rintro e w' ⟨A1, n1, c1, h1, h2, h3, h4, h5⟩
      exact ⟨A1, n1, c1, h1, h2, h5, hW.trans (h5.mono hW.size)⟩)
  have H := Lib.hid HN
  clear HN
  go_enter Tryz.func47, Tryz.ntmps47
  go_wp2_with fail
  refine wp_region_held_drew (S := (fun w' => w'.cell? ⟨w.heap.size, 0, none⟩ = some (.bool true) ∧ w'.cell? ⟨w.heap.size, 1, none⟩ = some (.slice A n c) ∧ w'.cell? ⟨w.heap.size, 2, none⟩ = some (.slice B m d) ∧
      w'.cell? ⟨w.heap.size + 1, 0, none⟩ = some (cellOf w' ⟨w.heap.size + 1, 0, none⟩) ∧ w'.cell? ⟨w.heap.size + 1, 1, none⟩ = some (cellOf w' ⟨w.heap.size + 1, 1, none⟩) ∧ w'.cell? ⟨w.heap.size + 1, 2, none⟩ = some (cellOf w' ⟨w.heap.size + 1, 2, none⟩) ∧
      w'.frozen? ⟨w.heap.size + 1, 0, none⟩ = false ∧ w'.frozen? ⟨w.heap.size + 1, 1, none⟩ = false ∧ w'.frozen? ⟨w.heap.size + 1, 2, none⟩ = false ∧ Below w.heap.size w w')) (by kernel_rfl) (by refine ⟨?_, ?_, ?_, ?_, ?_, ?_, ?_, ?_, ?_, ?_⟩ <;> first | exact below_two _ _ _ | (simp [cellOf]; done)) (fun hHeld => ?_)
  refine tk 0 ?_ (hv := by intro W2 hSw; (try dsimp only at hSw); go_simp; (try with_reducible rfl))
  try simp only [Act.put, List.setIfInBounds_toArray, List.set_cons_zero, List.set_cons_succ]
  refine tk 1 ?_ (hv := by intro W2 hSw; (try dsimp only at hSw); go_simp; (try with_reducible rfl))
  try simp only [Act.put, List.setIfInBounds_toArray, List.set_cons_zero, List.set_cons_succ]
  refine tk 2 ?_ (hv := by intro W2 hSw; (try dsimp only at hSw); go_simp; (try with_reducible rfl))
  try simp only [Act.put, List.setIfInBounds_toArray, List.set_cons_zero, List.set_cons_succ]
  refine tk 3 ?_ (hv := by intro W2 hSw; (try dsimp only at hSw); go_simp; (try with_reducible rfl))
  try simp only [Act.put, List.setIfInBounds_toArray, List.set_cons_zero, List.set_cons_succ]
  refine tkn 4 ?_
  try simp only [Act.put, List.setIfInBounds_toArray, List.set_cons_zero, List.set_cons_succ]
  refine tkn 5 ?_
  try simp only [Act.put, List.setIfInBounds_toArray, List.set_cons_zero, List.set_cons_succ]
  refine tkn 6 ?_
  try simp only [Act.put, List.setIfInBounds_toArray, List.set_cons_zero, List.set_cons_succ]
  refine tkn 7 ?_
  try simp only [Act.put, List.setIfInBounds_toArray, List.set_cons_zero, List.set_cons_succ]
  refine tk 8 ?_ (hv := by intro W2 hSw; (try dsimp only at hSw); go_simp; (try with_reducible rfl))
  try simp only [Act.put, List.setIfInBounds_toArray, List.set_cons_zero, List.set_cons_succ]
  refine tk 9 ?_ (hv := by intro W2 hSw; (try dsimp only at hSw); go_simp; (try with_reducible rfl))
  try simp only [Act.put, List.setIfInBounds_toArray, List.set_cons_zero, List.set_cons_succ]
  refine tk 10 ?_ (hv := by intro W2 hSw; (try dsimp only at hSw); go_simp; (try with_reducible rfl))
  try simp only [Act.put, List.setIfInBounds_toArray, List.set_cons_zero, List.set_cons_succ]
  refine tk 12 ?_ (hv := by intro W2 hSw; (try dsimp only at hSw); go_simp; (try with_reducible rfl))
  try simp only [Act.put, List.setIfInBounds_toArray, List.set_cons_zero, List.set_cons_succ]
  refine tk 13 ?_ (hv := by intro W2 hSw; (try dsimp only at hSw); go_simp; (try with_reducible rfl))
  try simp only [Act.put, List.setIfInBounds_toArray, List.set_cons_zero, List.set_cons_succ]
  refine rdy 11 (fun KK hKK => ?_)
  go_simp
  refine (H.out _ _ _ _ ?_ ?_ ?_ ?_).mono ?_; rotate_left; (first | exact below_two _ _ _ | assumption); (first | exact HU.out | exact HV.out); (assumption); rintro e wa ⟨Aa, na, ca, rfl, hua, hba, hbwa⟩
  go_wp2_with fail
  refine hKK.out _ _ (held3 hHeld hba) (fun _ => ?_)
  clear hKK KK hHeld; rename_i hHeld
  try simp only [Act.put, List.setIfInBounds_toArray, List.set_cons_zero, List.set_cons_succ]
  refine rdy 14 (fun KK hKK => ?_)
  go_simp
  refine (H.out _ _ _ _ ?_ ?_ ?_ ?_).mono ?_; rotate_left; (first | exact below_two _ _ _ | assumption); (first | exact HU.out | exact HV.out); (assumption); rintro e w1 ⟨A1, n1, c1, rfl, hu1, hb1, hbw⟩
  go_wp2_with fail
  refine hKK.out _ _ (held3 hHeld hb1) (fun _ => ?_)
  clear hKK KK hHeld; rename_i hHeld
  try simp only [Act.put, List.setIfInBounds_toArray, List.set_cons_zero, List.set_cons_succ]
  refine tk 15 ?_ (hv := by intro W2 hSw; (try dsimp only at hSw); go_simp; (try with_reducible rfl))
  try simp only [Act.put, List.setIfInBounds_toArray, List.set_cons_zero, List.set_cons_succ]
  refine rdy 16 (fun KK hKK => ?_)
  go_simp
  refine hKK.out _ _ (held3_set (by omega) (by omega) hHeld _ _ _ _ rfl) (fun hHeld1 => ?_)
  refine wpAnyH_done (by kernel_rfl) ?_ _
  
  have hblk := (((Blk.new2 w (.cells #[.bool true, .slice A n c, .slice B m d] 42) 42 #[.bool false, .slice none 0 0, .slice none 0 0]).drewN 1).keep hba).keep hb1
  have z2 : -rv true p q = rv false p q := by
    rw [rv_true]; grind
  have hNR : NewRat w K (-rv true p q) (.returned (.agg #[.bool false, .slice Aa na ca, .slice A1 n1 c1])) _ :=
    RatV.ret (g := w.heap.size + 1) ⟨p, q, Aa, na, ca, A1, n1, c1, rfl, rfl, hua.below hb1, hu1, hq, (fun _ => rfl), HP.out, HQ.out, z2⟩ hbw hblk NoWd.zero (by omega)
  have k := set3_cells (hblk.cell 0) (hblk.cell 1) (hblk.cell 2) (.bool false) (.slice Aa na ca) (.slice A1 n1 c1)
  have HNR := Lib.hid hNR
  obtain ⟨k0, k1, k2⟩ := k
  clear hKK KK hHeld hHeld1 hNR hblk z2 hba hbwa hua hu1 hb1 hbw
  go_wp2
  exact bodyPost_ret (v := .agg #[.bool false, .slice Aa na ca, .slice A1 n1 c1]) (by simp [results, Tryz.results47, go_sem, k0, k1, k2]) rfl HNR.out
theorem rneg_any (K : Nat) (neg : Bool) (vn vd : Value) (x : Rat) (w : World) (h : RatV w K neg vn vd x) (hK : K ≤ 1073741824) :
    Calls Tryz.prog 47 #[.agg #[.bool neg, vn, vd]] w (NewRat w K (-x)) := by
  cases neg
  · exact rneg_false K vn vd x w h hK
  · exact rneg_true K vn vd x w h hK
end Go.Proofs.YthlmlmfebpjgdaaGreatDoor

namespace Go.Proofs.YthlmlmfebpjgdaaGreatDoor
open Go.RowKit
theorem heldc {w W W' : World} {a0 a1 a2 b1 b2 : Addr} {v0 v1 v2 u1 u2 : Value} (h : W.cell? a0 = some v0 ∧ W.cell? a1 = some v1 ∧ W.cell? a2 = some v2 ∧ W.cell? b1 = some u1 ∧ W.cell? b2 = some u2 ∧ Below w.heap.size w W) (hb : Below W.heap.size W W') :
    W'.cell? a0 = some v0 ∧ W'.cell? a1 = some v1 ∧ W'.cell? a2 = some v2 ∧ W'.cell? b1 = some u1 ∧ W'.cell? b2 = some u2 ∧ Below w.heap.size w W' := by
  obtain ⟨h0, h1, h2, h3, h4, h5⟩ := h
  exact ⟨cell_below h0 hb, cell_below h1 hb, cell_below h2 hb, cell_below h3 hb, cell_below h4 hb, h5.trans (hb.mono h5.size)⟩
theorem rcmp_any (K : Nat) (neg : Bool) (vn vd : Value) (x : Rat) (neg' : Bool) (vn' vd' : Value) (y : Rat) (w : World) (h : RatV w K neg vn vd x) (h' : RatV w K neg' vn' vd' y) (hK : K ≤ 1073741824) :
    Calls Tryz.prog 113 #[.agg #[.bool neg, vn, vd], .agg #[.bool neg', vn', vd']] w fun e w' => e = .returned (.int .i64 (rc x y)) ∧ Below w.heap.size w w' := by
  obtain ⟨A, n, c, B, m, d, rfl, rfl⟩ := h.shape
  obtain ⟨A', n', c', B', m', d', rfl, rfl⟩ := h'.shape
  have H := Lib.hid h
  have H' := Lib.hid h'
  have ba : Below w.heap.size w ((w.alloc (.cells #[.bool neg, .slice A n c, .slice B m d] 42)).alloc (.cells #[.bool neg', .slice A' n' c', .slice B' m' d'] 42)) := (below_alloc w _).alloc (by simp) _
  have h1 := Lib.hid (rsign_any K neg _ _ x _ (h.below ba) hK)
  have BA := Lib.hid ba
  clear h h' ba
  go_enter Tryz.func113, Tryz.ntmps113
  go_wp2_with fail
  refine h1.out.mono ?_
  rintro e w1 ⟨rfl, hb1⟩
  have B1 := Lib.hid (BA.out.trans (hb1.mono BA.out.size))
  have K1 := Lib.hid (((Blk.new w 42 #[.bool neg, .slice A n c, .slice B m d]).alloc (.cells #[.bool neg', .slice A' n' c', .slice B' m' d'] 42)).keep hb1)
  have K2 := Lib.hid ((Blk.new2 w (.cells #[.bool neg, .slice A n c, .slice B m d] 42) 42 #[.bool neg', .slice A' n' c', .slice B' m' d']).keep hb1)
  have k0 := K2.out.cell 0
  have k1 := K2.out.cell 1
  have k2 := K2.out.cell 2
  have h2 := Lib.hid (rsign_any K neg' _ _ y _ (H'.out.below B1.out) hK)
  clear hb1 h1
  simp at k0 k1 k2
  go_wp2_with fail
  refine h2.out.mono ?_
  rintro e w2 ⟨rfl, hb2⟩
  have B2 := Lib.hid (B1.out.trans (hb2.mono B1.out.size))
  have Q1 := Lib.hid (K1.out.keep hb2)
  have Q2 := Lib.hid (K2.out.keep hb2)
  clear hb2 k0 k1 k2 K1 K2 h2 B1 BA
  obtain ⟨s, hs⟩ : ∃ s, rsg x = s := ⟨_, rfl⟩
  obtain ⟨t, ht⟩ : ∃ t, rsg y = t := ⟨_, rfl⟩
  have HS := Lib.hid hs
  have HT := Lib.hid ht
  rw [hs, ht]
  clear hs ht
  rcases Int.lt_trichotomy s t with h0 | h0 | h0
  · go_wp2
    go_ret
    exact ⟨ret_int (by rw [rc_below (by rw [HS.out, HT.out]; exact h0)]), B2.out⟩
  · subst h0
    obtain ⟨p, q, A1, n1, c1, D1, m1, d1, e1, e2, hu, hv, hq, hp0, hp, hq2, rfl⟩ := H.out
    obtain ⟨p', q', A2, n2, c2, D2, m2, d2, e3, e4, hu', hv', hq', hp0', hp', hq2', rfl⟩ := H'.out
    cases e1; cases e2; cases e3; cases e4
    have l1 := hu.len_le hp
    have l2 := hv.len_le hq2
    have l3 := hu'.len_le hp'
    have l4 := hv'.len_le hq2'
    have HTm : ∀ (W : World) (A B : Option Addr) (n c m d a b : Nat), Below w.heap.size w W → U32s w A n c (digs a) → U32s w B m d (digs b) → n ≤ K → m ≤ K → Calls Tryz.prog 95 #[.slice A n c, .slice B m d] W fun e w' => ∃ A1 n1 c1, e = .returned (.slice A1 n1 c1) ∧ U32s w' A1 n1 c1 (digs (a * b)) ∧ Below W.heap.size W w' ∧ Below w.heap.size w w' := fun W A B n c m d a b hW h1 h2 h3 h4 =>
      (times_any A B n c m d _ _ W (h1.below hW) (h2.below hW) (by omega) (by omega)).mono (by
        rintro e w' ⟨A1, n1, c1, h5, h6, h7⟩
        rw [num_digs, num_digs] at h6
        exact ⟨A1, n1, c1, h5, h6, h7, hW.trans (h7.mono hW.size)⟩)
    have HCm : ∀ (W : World) (A B : Option Addr) (n c m d a b : Nat), Below w.heap.size w W → U32s W A n c (digs a) → U32s W B m d (digs b) → Calls Tryz.prog 98 #[.slice A n c, .slice B m d] W fun e w' => e = .returned (.int .i64 (cmp3 a b)) ∧ Below W.heap.size W w' ∧ Below w.heap.size w w' := fun W A B n c m d a b hW h1 h2 =>
      (cmp_any A B n c m d _ _ W h1 h2).mono (by
        rintro e w' ⟨h5, k, rfl⟩
        rw [num_digs, num_digs] at h5
        exact ⟨h5, below_drewN (Below.refl _ _) k, below_drewN hW k⟩)
    have R := Lib.hid (rc_same hq hq' hp0 hp0' (by rw [HS.out, HT.out]))
    have HU := Lib.hid hu
    have HV := Lib.hid hv
    have HU' := Lib.hid hu'
    have HV' := Lib.hid hv'
    have HTm := Lib.hid HTm
    have HCm := Lib.hid HCm
    have k0 := Q1.out.cell 0
    have k1 := Q1.out.cell 1
    have k2 := Q1.out.cell 2
    have j1 := Q2.out.cell 1
    have j2 := Q2.out.cell 2
    have b2 := B2.out
    simp at k0 k1 k2 j1 j2
    clear hu hv hu' hv' hp hq2 hp' hq2' hp0 hp0' H H' hq hq' Q1 Q2
    go_wp2_with fail
    go_region_held3 (fun w' => w'.cell? ⟨w.heap.size, 0, none⟩ = some (.bool neg) ∧ w'.cell? ⟨w.heap.size, 1, none⟩ = some (.slice A n c) ∧ w'.cell? ⟨w.heap.size, 2, none⟩ = some (.slice B m d) ∧ w'.cell? ⟨w.heap.size + 1, 1, none⟩ = some (.slice A' n' c') ∧ w'.cell? ⟨w.heap.size + 1, 2, none⟩ = some (.slice B' m' d') ∧ Below w.heap.size w w')
      (first | (exact heldc (by assumption) hb1) | (exact ⟨k0, k1, k2, j1, j2, b2.drew⟩))
      (first | (go_at_call 95; refine (HTm.out _ _ _ _ _ _ _ ?_ ?_ ?_ ?_ ?_ ?_ ?_).mono ?_; rotate_left; rotate_left; (first | exact B2.out.drew | assumption); (first | exact HU.out | exact HU'.out); (first | exact HV.out | exact HV'.out); (assumption); (assumption); rintro e w1 ⟨A1, n1, c1, rfl, hu1, hb1, hbw⟩) | (go_at_call 98; refine (HCm.out _ _ _ _ _ _ _ ?_ ?_ ?_ ?_ ?_).mono ?_; rotate_left; rotate_left; (assumption); (exact U32s.below (by assumption) hb1); (assumption); rintro e w1 ⟨rfl, hb1, hbw⟩))
    rename_i hHeld
    have kk := hHeld.1
    have BW := Lib.hid hbw
    have hc := cmp3_range (p * q') (p' * q)
    obtain ⟨r, hr⟩ : ∃ r, rc (rv neg p q) (rv neg' p' q') = r := ⟨_, rfl⟩
    have R := R.out
    rw [hr, HS.out] at R
    obtain ⟨c, hcc⟩ : ∃ c, cmp3 (p * q') (p' * q) = c := ⟨_, rfl⟩
    rw [hcc] at R hc ⊢
    have Hr := Lib.hid hr
    have r0 : s = 0 → r = 0 := by intro h; rw [if_pos h] at R; exact R
    have r1 : s ≠ 0 → neg = true → r = -c := by intro h h2; rw [if_neg h, if_pos h2] at R; exact R
    have r2 : s ≠ 0 → neg = false → r = c := by intro h h2; rw [if_neg h, h2] at R; exact R
    have R0 := Lib.hid r0
    have R1 := Lib.hid r1
    have R2 := Lib.hid r2
    clear R r0 r1 r2 hr hcc hHeld hbw hb1 hu1 HS HT HCm HTm HU HV HU' HV' k0 k1 k2 j1 j2 b2
    rcases Int.lt_trichotomy s 0 with hs | hs | hs
    · have hs1 : (s == 0) = false := by simp; omega
      cases neg
      · go_wp2
        go_ret
        exact ⟨ret_int (Hr.out.trans (R2.out (by omega) (by simp))).symm, BW.out⟩
      · go_wp2
        go_ret
        exact ⟨ret_int (Hr.out.trans (R1.out (by omega) (by simp))).symm, BW.out⟩
    · subst hs
      cases neg
      · go_wp2
        go_ret
        exact ⟨ret_int (Hr.out.trans (R0.out (by simp))).symm, BW.out⟩
      · go_wp2
        go_ret
        exact ⟨ret_int (Hr.out.trans (R0.out (by simp))).symm, BW.out⟩
    · have hs1 : (s == 0) = false := by simp; omega
      cases neg
      · go_wp2
        go_ret
        exact ⟨ret_int (Hr.out.trans (R2.out (by omega) (by simp))).symm, BW.out⟩
      · go_wp2
        go_ret
        exact ⟨ret_int (Hr.out.trans (R1.out (by omega) (by simp))).symm, BW.out⟩
  · have h0' : ¬ s < t := by omega
    go_wp2
    go_ret
    exact ⟨ret_int (by rw [rc_above (by rw [HS.out, HT.out]; exact h0)]), B2.out⟩
end Go.Proofs.YthlmlmfebpjgdaaGreatDoor

namespace Go.Proofs.YthlmlmfebpjgdaaGreatDoor
open Go.RowKit
def NewEnd (w : World) (K : Nat) (s : Int) (x : Rat) (e : Ending) (w' : World) : Prop :=
  ∃ neg A n c B m d, e = .returned (.agg #[.int .i64 s, .bool neg, .slice A n c, .slice B m d]) ∧ RatV w' K neg (.slice A n c) (.slice B m d) x ∧ Below w.heap.size w w'
def NewSet (w : World) (K : Nat) (o : Bool) (s : Int) (x : Rat) (t : Int) (y : Rat) (e : Ending) (w' : World) : Prop :=
  ∃ neg A n c B m d neg' A' n' c' B' m' d', e = .returned (.agg #[.bool o, .int .i64 s, .bool neg, .slice A n c, .slice B m d, .int .i64 t, .bool neg', .slice A' n' c', .slice B' m' d']) ∧
    RatV w' K neg (.slice A n c) (.slice B m d) x ∧ RatV w' K neg' (.slice A' n' c') (.slice B' m' d') y ∧ Below w.heap.size w w'
def NewRatS (w : World) (K : Nat) (x : Rat) (e : Ending) (w' : World) : Prop :=
  ∃ neg A n c B m d, e = .returned (.agg #[.bool neg, .slice A n c, .slice B m d]) ∧ RatV w' K neg (.slice A n c) (.slice B m d) x ∧ Below w.heap.size w w'
theorem NewRat.s {w w' : World} {K : Nat} {x : Rat} {e : Ending} (h : NewRat w K x e w') : NewRatS w K x e w' := by
  obtain ⟨neg, vn, vd, rfl, hr, hb⟩ := h
  obtain ⟨A, n, c, B, m, d, rfl, rfl⟩ := hr.shape
  exact ⟨neg, A, n, c, B, m, d, rfl, hr, hb⟩
def es (i : Int) : Int := if i = M then 1 else if i = -(M : Int) then -1 else 0
def ex (i : Int) : Rat := if es i = 0 then fl i else 0
theorem es_max : es M = 1 := rfl
theorem es_min : es (-(M : Int)) = -1 := by decide
theorem ex_max : ex M = 0 := rfl
theorem ex_min : ex (-(M : Int)) = 0 := by unfold ex; rw [es_min]; rfl
theorem es_mid {i : Int} (h : -(M : Int) < i) (h' : i < M) : es i = 0 := by unfold es; rw [if_neg (by omega), if_neg (by omega)]
theorem ex_mid {i : Int} (h : -(M : Int) < i) (h' : i < M) : ex i = fl i := by unfold ex; rw [es_mid h h']; rfl
theorem finite_nat (v : Nat) (w : World) (hv : v < 4294967296) :
    Calls Tryz.prog 153 #[.int .i64 (v : Int)] w (NewEnd w 1 0 (v : Rat)) := by
  have hs : ∀ W, Calls Tryz.prog 51 #[.int .i64 (v : Int)] W (NewRatS W 1 (v : Rat)) := fun W => (int_nat v W hv).mono fun _ _ h => h.s
  have HS := Lib.hid hs
  clear hs
  obtain ⟨LB0, LR⟩ := bx1 w #[.int .i64 0, .bool false, .slice none 0 0, .slice none 0 0] 87
  have LR0 := Lib.hid (HasBlk.of (n := 4) LR.out rfl rfl)
  clear LR
  go_enter Tryz.func153, Tryz.ntmps153
  go_wp2_with fail
  refine (HS.out _).mono ?_
  rintro e w1 ⟨neg, A5, n5, c5, A6, n6, c6, rfl, hr, hb1⟩
  have LB1 := stB LB0 hb1 LB0.out.size
  have LR1 := stR LR0 hb1
  clear LB0 LR0
  obtain ⟨ha0, hf0, ha1, hf1, ha2, hf2, ha3, hf3⟩ := LR1.out.sf4
  obtain ⟨hk0, hk1, hk2, hk3⟩ := LR1.out.sc4 (.int .i64 0) (.bool neg) (.slice A5 n5 c5) (.slice A6 n6 c6)
  have F := Lib.hid (below_sets (w0 := w) (r := w.heap.size) (by omega) [.int .i64 0, .bool neg, .slice A5 n5 c5, .slice A6 n6 c6] 0 _ LB1.out)
  simp [sets] at hk0 hk1 hk2 hk3
  have FR := Lib.hid (LR1.out.rat hr [.int .i64 0, .bool neg, .slice A5 n5 c5, .slice A6 n6 c6])
  clear hr hb1 LR1 LB1
  go_wp2
  refine bodyPost_ret (v := .agg #[.int .i64 0, .bool neg, .slice A5 n5 c5, .slice A6 n6 c6]) (by simp [results, Tryz.results153, go_sem, hk0, hk1, hk2, hk3]) rfl ?_
  exact ⟨neg, _, _, _, _, _, _, rfl, FR.out, F.out⟩
theorem RatV.k34 {w : World} {neg : Bool} {vn vd : Value} {x : Rat} (h : RatV w 1 neg vn vd x) : RatV w 34 neg vn vd x := h.mono (by decide)
theorem bound_raw (b : Nat) (w : World) (hb : b < 18446744073709551616) (hr : rungOf b ≤ M) :
    Calls Tryz.prog 156 #[.int .u64 (b : Int)] w (NewEnd w 34 (es (idx b)) (ex (idx b))) := by
  have hs : ∀ W, Calls Tryz.prog 51 #[.int .i64 0] W (NewRatS W 1 0) := fun W => (int_nat 0 W (by omega)).mono fun _ _ h => h.s
  have HS := Lib.hid hs
  clear hs
  have hc := pat_cases hb
  rw [M_val] at hr
  by_cases h1 : b = 9218868437227405312
  · subst h1
    rw [show idx 9218868437227405312 = (M : Int) from by rw [M_val]; omega, es_max, ex_max]
    clear hc hr
    obtain ⟨LB0, LR⟩ := bx1 w #[.int .i64 0, .bool false, .slice none 0 0, .slice none 0 0] 87
    have LR0 := Lib.hid (HasBlk.of (n := 4) LR.out rfl rfl)
    clear LR
    go_enter Tryz.func156, Tryz.ntmps156
    go_wp2_with fail
    refine (HS.out _).mono ?_
    rintro e w1 ⟨neg, A5, n5, c5, A6, n6, c6, rfl, hr, hb1⟩
    have LB1 := stB LB0 hb1 LB0.out.size
    have LR1 := stR LR0 hb1
    clear LB0 LR0
    obtain ⟨ha0, hf0, ha1, hf1, ha2, hf2, ha3, hf3⟩ := LR1.out.sf4
    obtain ⟨hk0, hk1, hk2, hk3⟩ := LR1.out.sc4 (.int .i64 1) (.bool neg) (.slice A5 n5 c5) (.slice A6 n6 c6)
    have F := Lib.hid (below_sets (w0 := w) (r := w.heap.size) (by omega) [.int .i64 1, .bool neg, .slice A5 n5 c5, .slice A6 n6 c6] 0 _ LB1.out)
    simp [sets] at hk0 hk1 hk2 hk3
    have FR := Lib.hid (LR1.out.rat hr [.int .i64 1, .bool neg, .slice A5 n5 c5, .slice A6 n6 c6])
    clear hr hb1 LR1 LB1
    go_wp2
    refine bodyPost_ret (v := .agg #[.int .i64 1, .bool neg, .slice A5 n5 c5, .slice A6 n6 c6]) (by simp [results, Tryz.results156, go_sem, hk0, hk1, hk2, hk3]) rfl ?_
    exact ⟨neg, _, _, _, _, _, _, rfl, FR.out.k34, F.out⟩
  · by_cases h2 : b = 18442240474082181120
    · subst h2
      rw [show idx 18442240474082181120 = -(M : Int) from by rw [M_val]; omega, es_min, ex_min]
      clear hc hr h1
      obtain ⟨LB0, LR⟩ := bx1 w #[.int .i64 0, .bool false, .slice none 0 0, .slice none 0 0] 87
      have LR0 := Lib.hid (HasBlk.of (n := 4) LR.out rfl rfl)
      clear LR
      go_enter Tryz.func156, Tryz.ntmps156
      go_wp2_with fail
      refine (HS.out _).mono ?_
      rintro e w1 ⟨neg, A5, n5, c5, A6, n6, c6, rfl, hr, hb1⟩
      have LB1 := stB LB0 hb1 LB0.out.size
      have LR1 := stR LR0 hb1
      clear LB0 LR0
      obtain ⟨ha0, hf0, ha1, hf1, ha2, hf2, ha3, hf3⟩ := LR1.out.sf4
      obtain ⟨hk0, hk1, hk2, hk3⟩ := LR1.out.sc4 (.int .i64 (-1)) (.bool neg) (.slice A5 n5 c5) (.slice A6 n6 c6)
      have F := Lib.hid (below_sets (w0 := w) (r := w.heap.size) (by omega) [.int .i64 (-1), .bool neg, .slice A5 n5 c5, .slice A6 n6 c6] 0 _ LB1.out)
      simp [sets] at hk0 hk1 hk2 hk3
      have FR := Lib.hid (LR1.out.rat hr [.int .i64 (-1), .bool neg, .slice A5 n5 c5, .slice A6 n6 c6])
      clear hr hb1 LR1 LB1
      go_wp2
      refine bodyPost_ret (v := .agg #[.int .i64 (-1), .bool neg, .slice A5 n5 c5, .slice A6 n6 c6]) (by simp [results, Tryz.results156, go_sem, hk0, hk1, hk2, hk3]) rfl ?_
      exact ⟨neg, _, _, _, _, _, _, rfl, FR.out.k34, F.out⟩
    · have e1 : ((b : Int) == 9218868437227405312) = false := by simp; omega
      have e2 : ((b : Int) == 18442240474082181120) = false := by simp; omega
      have hi : -(M : Int) < idx b ∧ idx b < M := by rw [M_val]; omega
      have hpl : pl b = pat (idx b) := pl_real hb (by rw [M_val]; omega)
      have hf : fin (pat (idx b)) := by
        show rungOf _ < M
        rw [rung_pat (by omega) (by omega)]; omega
      have HP := Lib.hid fun W => plain_b b W hb
      have HF := Lib.hid fun W => (frombits_any (pat (idx b)) W (pat_lt (by omega) (by omega)) hf).mono fun _ _ h => h.s
      rw [idx_pat (by omega) (by omega)] at HF
      rw [hpl] at HP
      rw [es_mid hi.1 hi.2, ex_mid hi.1 hi.2]
      clear hc hr h1 h2 hpl hf hi
      obtain ⟨LB0, LR⟩ := bx1 w #[.int .i64 0, .bool false, .slice none 0 0, .slice none 0 0] 87
      have LR0 := Lib.hid (HasBlk.of (n := 4) LR.out rfl rfl)
      clear LR
      go_enter Tryz.func156, Tryz.ntmps156
      go_wp2_with fail
      refine (HP.out _).mono ?_
      rintro e w1 ⟨rfl, hb1⟩
      have LB1 := stB LB0 hb1 LB0.out.size
      have LR1 := stR LR0 hb1
      clear LB0 LR0
      go_wp2_with fail
      refine (HF.out _).mono ?_
      rintro e w2 ⟨neg, A5, n5, c5, A6, n6, c6, rfl, hr, hb2⟩
      have LB2 := stB LB1 hb2 LB1.out.size
      have LR2 := stR LR1 hb2
      clear LB1 LR1
      obtain ⟨ha0, hf0, ha1, hf1, ha2, hf2, ha3, hf3⟩ := LR2.out.sf4
      obtain ⟨hk0, hk1, hk2, hk3⟩ := LR2.out.sc4 (.int .i64 0) (.bool neg) (.slice A5 n5 c5) (.slice A6 n6 c6)
      have F := Lib.hid (below_sets (w0 := w) (r := w.heap.size) (by omega) [.int .i64 0, .bool neg, .slice A5 n5 c5, .slice A6 n6 c6] 0 _ LB2.out)
      simp [sets] at hk0 hk1 hk2 hk3
      have FR := Lib.hid (LR2.out.rat hr [.int .i64 0, .bool neg, .slice A5 n5 c5, .slice A6 n6 c6])
      clear hr hb1 hb2 LR2 LB2
      go_wp2
      refine bodyPost_ret (v := .agg #[.int .i64 0, .bool neg, .slice A5 n5 c5, .slice A6 n6 c6]) (by simp [results, Tryz.results156, go_sem, hk0, hk1, hk2, hk3]) rfl ?_
      exact ⟨neg, _, _, _, _, _, _, rfl, FR.out, F.out⟩
end Go.Proofs.YthlmlmfebpjgdaaGreatDoor

namespace Go.Proofs.YthlmlmfebpjgdaaGreatDoor
open Go.RowKit
def ec (s : Int) (x : Rat) (t : Int) (y : Rat) : Int := if s = t then (if s = 0 then rc x y else 0) else if s < t then -1 else 1
theorem ec_lt {s t : Int} (x y : Rat) (h : s < t) : ec s x t y = -1 := by unfold ec; rw [if_neg (by omega), if_pos h]
theorem ec_gt {s t : Int} (x y : Rat) (h : t < s) : ec s x t y = 1 := by unfold ec; rw [if_neg (by omega), if_neg (by omega)]
theorem ec_inf {s t : Int} (x y : Rat) (h : s = t) (h0 : s ≠ 0) : ec s x t y = 0 := by unfold ec; rw [if_pos h, if_neg h0]
theorem ec_zero (x y : Rat) : ec 0 x 0 y = rc x y := by unfold ec; rw [if_pos rfl, if_pos rfl]
theorem ecmp_any (K : Nat) (s1 : Int) (g1 : Bool) (A1 : Option Addr) (n1 c1 : Nat) (B1 : Option Addr) (m1 d1 : Nat) (x1 : Rat) (s2 : Int) (g2 : Bool) (A2 : Option Addr) (n2 c2 : Nat) (B2 : Option Addr) (m2 d2 : Nat) (x2 : Rat) (w : World) (h1 : RatV w K g1 (.slice A1 n1 c1) (.slice B1 m1 d1) x1) (h2 : RatV w K g2 (.slice A2 n2 c2) (.slice B2 m2 d2) x2) (hK : K ≤ 1073741824) :
    Calls Tryz.prog 94 #[.agg #[.int .i64 s1, .bool g1, .slice A1 n1 c1, .slice B1 m1 d1], .agg #[.int .i64 s2, .bool g2, .slice A2 n2 c2, .slice B2 m2 d2]] w fun e w' => e = .returned (.int .i64 (ec s1 x1 s2 x2)) ∧ Below w.heap.size w w' := by
  rcases Int.lt_trichotomy s1 s2 with h | h | h
  · rw [ec_lt x1 x2 h]
    have hq : (s1 == s2) = false := by simp; omega
    obtain ⟨LB0, LG0_0, LG1_0⟩ := bx2 w #[.int .i64 s1, .bool g1, .slice A1 n1 c1, .slice B1 m1 d1] 87 #[.int .i64 s2, .bool g2, .slice A2 n2 c2, .slice B2 m2 d2] 87
    go_enter Tryz.func94, Tryz.ntmps94
    go_wp2
    go_ret
    exact ⟨rfl, LB0.out⟩
  · subst h
    by_cases h0 : s1 = 0
    · subst h0
      rw [ec_zero]
      obtain ⟨LB0, LG0_0, LG1_0⟩ := bx2 w #[.int .i64 0, .bool g1, .slice A1 n1 c1, .slice B1 m1 d1] 87 #[.int .i64 0, .bool g2, .slice A2 n2 c2, .slice B2 m2 d2] 87
      have HC := Lib.hid fun W (hW : Below w.heap.size w W) => rcmp_any K g1 _ _ x1 g2 _ _ x2 W (h1.below hW) (h2.below hW) hK
      clear h1 h2
      go_enter Tryz.func94, Tryz.ntmps94
      go_wp2_with fail
      refine (HC.out _ LB0.out).mono ?_
      rintro e w1 ⟨rfl, hb1⟩
      have LB1 := stB LB0 hb1 LB0.out.size
      have LG0_1 := stG LG0_0 hb1
      have LG1_1 := stG LG1_0 hb1
      clear LB0 LG0_0 LG1_0
      go_wp2
      go_ret
      exact ⟨rfl, LB1.out⟩
    · rw [ec_inf x1 x2 rfl h0]
      have hq : (s1 == 0) = false := by simp; omega
      obtain ⟨LB0, LG0_0, LG1_0⟩ := bx2 w #[.int .i64 s1, .bool g1, .slice A1 n1 c1, .slice B1 m1 d1] 87 #[.int .i64 s1, .bool g2, .slice A2 n2 c2, .slice B2 m2 d2] 87
      go_enter Tryz.func94, Tryz.ntmps94
      go_wp2
      go_ret
      exact ⟨rfl, LB0.out⟩
  · rw [ec_gt x1 x2 h]
    have hq : (s1 == s2) = false := by simp; omega
    have hq2 : ¬ s1 < s2 := by omega
    obtain ⟨LB0, LG0_0, LG1_0⟩ := bx2 w #[.int .i64 s1, .bool g1, .slice A1 n1 c1, .slice B1 m1 d1] 87 #[.int .i64 s2, .bool g2, .slice A2 n2 c2, .slice B2 m2 d2] 87
    go_enter Tryz.func94, Tryz.ntmps94
    go_wp2
    go_ret
    exact ⟨rfl, LB0.out⟩
theorem lesser_any (K : Nat) (s1 : Int) (g1 : Bool) (A1 : Option Addr) (n1 c1 : Nat) (B1 : Option Addr) (m1 d1 : Nat) (x1 : Rat) (s2 : Int) (g2 : Bool) (A2 : Option Addr) (n2 c2 : Nat) (B2 : Option Addr) (m2 d2 : Nat) (x2 : Rat) (w : World) (h1 : RatV w K g1 (.slice A1 n1 c1) (.slice B1 m1 d1) x1) (h2 : RatV w K g2 (.slice A2 n2 c2) (.slice B2 m2 d2) x2) (hK : K ≤ 1073741824) :
    Calls Tryz.prog 151 #[.agg #[.int .i64 s1, .bool g1, .slice A1 n1 c1, .slice B1 m1 d1], .agg #[.int .i64 s2, .bool g2, .slice A2 n2 c2, .slice B2 m2 d2]] w (NewEnd w K (if ec s2 x2 s1 x1 < 0 then s2 else s1) (if ec s2 x2 s1 x1 < 0 then x2 else x1)) := by
  have HC := Lib.hid fun W (hW : Below w.heap.size w W) => ecmp_any K s2 g2 A2 n2 c2 B2 m2 d2 x2 s1 g1 A1 n1 c1 B1 m1 d1 x1 W (h2.below hW) (h1.below hW) hK
  obtain ⟨r, hr⟩ : ∃ r, ec s2 x2 s1 x1 = r := ⟨_, rfl⟩
  rw [hr] at HC ⊢
  have H1 := Lib.hid h1
  have H2 := Lib.hid h2
  clear h1 h2 hr
  by_cases h : r < 0
  · rw [if_pos h, if_pos h]
    obtain ⟨LB0, LG0_0, LG1_0, LR⟩ := bx3 w #[.int .i64 s1, .bool g1, .slice A1 n1 c1, .slice B1 m1 d1] 87 #[.int .i64 s2, .bool g2, .slice A2 n2 c2, .slice B2 m2 d2] 87 #[.int .i64 0, .bool false, .slice none 0 0, .slice none 0 0] 87
    have LR0 := Lib.hid (HasBlk.of (n := 4) LR.out rfl rfl)
    clear LR
    go_enter Tryz.func151, Tryz.ntmps151
    go_wp2_with fail
    refine (HC.out _ LB0.out).mono ?_
    rintro e w1 ⟨rfl, hb1⟩
    have LB1 := stB LB0 hb1 LB0.out.size
    have LR1 := stR LR0 hb1
    have LG0_1 := stG LG0_0 hb1
    have LG1_1 := stG LG1_0 hb1
    clear LB0 LR0 LG0_0 LG1_0
    obtain ⟨q1_0, q1_1, q1_2, q1_3⟩ := LG1_1.out.c4
    obtain ⟨ha0, hf0, ha1, hf1, ha2, hf2, ha3, hf3⟩ := LR1.out.sf4
    obtain ⟨hk0, hk1, hk2, hk3⟩ := LR1.out.sc4 (.int .i64 s2) (.bool g2) (.slice A2 n2 c2) (.slice B2 m2 d2)
    have F := Lib.hid (below_sets (w0 := w) (r := (w.heap.size + 2)) (by omega) [.int .i64 s2, .bool g2, .slice A2 n2 c2, .slice B2 m2 d2] 0 _ LB1.out)
    simp [sets] at hk0 hk1 hk2 hk3
    have FR := Lib.hid (LR1.out.rat (H2.out.below LB1.out) [.int .i64 s2, .bool g2, .slice A2 n2 c2, .slice B2 m2 d2])
    clear hb1 HC H1 H2
    go_wp2
    refine bodyPost_ret (v := .agg #[.int .i64 s2, .bool g2, .slice A2 n2 c2, .slice B2 m2 d2]) (by simp [results, Tryz.results151, go_sem, hk0, hk1, hk2, hk3]) rfl ?_
    exact ⟨_, _, _, _, _, _, _, rfl, FR.out, F.out⟩
  · rw [if_neg h, if_neg h]
    obtain ⟨LB0, LG0_0, LG1_0, LR⟩ := bx3 w #[.int .i64 s1, .bool g1, .slice A1 n1 c1, .slice B1 m1 d1] 87 #[.int .i64 s2, .bool g2, .slice A2 n2 c2, .slice B2 m2 d2] 87 #[.int .i64 0, .bool false, .slice none 0 0, .slice none 0 0] 87
    have LR0 := Lib.hid (HasBlk.of (n := 4) LR.out rfl rfl)
    clear LR
    go_enter Tryz.func151, Tryz.ntmps151
    go_wp2_with fail
    refine (HC.out _ LB0.out).mono ?_
    rintro e w1 ⟨rfl, hb1⟩
    have LB1 := stB LB0 hb1 LB0.out.size
    have LR1 := stR LR0 hb1
    have LG0_1 := stG LG0_0 hb1
    have LG1_1 := stG LG1_0 hb1
    clear LB0 LR0 LG0_0 LG1_0
    obtain ⟨q0_0, q0_1, q0_2, q0_3⟩ := LG0_1.out.c4
    obtain ⟨ha0, hf0, ha1, hf1, ha2, hf2, ha3, hf3⟩ := LR1.out.sf4
    obtain ⟨hk0, hk1, hk2, hk3⟩ := LR1.out.sc4 (.int .i64 s1) (.bool g1) (.slice A1 n1 c1) (.slice B1 m1 d1)
    have F := Lib.hid (below_sets (w0 := w) (r := (w.heap.size + 2)) (by omega) [.int .i64 s1, .bool g1, .slice A1 n1 c1, .slice B1 m1 d1] 0 _ LB1.out)
    simp [sets] at hk0 hk1 hk2 hk3
    have FR := Lib.hid (LR1.out.rat (H1.out.below LB1.out) [.int .i64 s1, .bool g1, .slice A1 n1 c1, .slice B1 m1 d1])
    clear hb1 HC H1 H2
    go_wp2
    refine bodyPost_ret (v := .agg #[.int .i64 s1, .bool g1, .slice A1 n1 c1, .slice B1 m1 d1]) (by simp [results, Tryz.results151, go_sem, hk0, hk1, hk2, hk3]) rfl ?_
    exact ⟨_, _, _, _, _, _, _, rfl, FR.out, F.out⟩
theorem greater_any (K : Nat) (s1 : Int) (g1 : Bool) (A1 : Option Addr) (n1 c1 : Nat) (B1 : Option Addr) (m1 d1 : Nat) (x1 : Rat) (s2 : Int) (g2 : Bool) (A2 : Option Addr) (n2 c2 : Nat) (B2 : Option Addr) (m2 d2 : Nat) (x2 : Rat) (w : World) (h1 : RatV w K g1 (.slice A1 n1 c1) (.slice B1 m1 d1) x1) (h2 : RatV w K g2 (.slice A2 n2 c2) (.slice B2 m2 d2) x2) (hK : K ≤ 1073741824) :
    Calls Tryz.prog 154 #[.agg #[.int .i64 s1, .bool g1, .slice A1 n1 c1, .slice B1 m1 d1], .agg #[.int .i64 s2, .bool g2, .slice A2 n2 c2, .slice B2 m2 d2]] w (NewEnd w K (if 0 < ec s2 x2 s1 x1 then s2 else s1) (if 0 < ec s2 x2 s1 x1 then x2 else x1)) := by
  have HC := Lib.hid fun W (hW : Below w.heap.size w W) => ecmp_any K s2 g2 A2 n2 c2 B2 m2 d2 x2 s1 g1 A1 n1 c1 B1 m1 d1 x1 W (h2.below hW) (h1.below hW) hK
  obtain ⟨r, hr⟩ : ∃ r, ec s2 x2 s1 x1 = r := ⟨_, rfl⟩
  rw [hr] at HC ⊢
  have H1 := Lib.hid h1
  have H2 := Lib.hid h2
  clear h1 h2 hr
  by_cases h : 0 < r
  · rw [if_pos h, if_pos h]
    obtain ⟨LB0, LG0_0, LG1_0, LR⟩ := bx3 w #[.int .i64 s1, .bool g1, .slice A1 n1 c1, .slice B1 m1 d1] 87 #[.int .i64 s2, .bool g2, .slice A2 n2 c2, .slice B2 m2 d2] 87 #[.int .i64 0, .bool false, .slice none 0 0, .slice none 0 0] 87
    have LR0 := Lib.hid (HasBlk.of (n := 4) LR.out rfl rfl)
    clear LR
    go_enter Tryz.func154, Tryz.ntmps154
    go_wp2_with fail
    refine (HC.out _ LB0.out).mono ?_
    rintro e w1 ⟨rfl, hb1⟩
    have LB1 := stB LB0 hb1 LB0.out.size
    have LR1 := stR LR0 hb1
    have LG0_1 := stG LG0_0 hb1
    have LG1_1 := stG LG1_0 hb1
    clear LB0 LR0 LG0_0 LG1_0
    obtain ⟨q1_0, q1_1, q1_2, q1_3⟩ := LG1_1.out.c4
    obtain ⟨ha0, hf0, ha1, hf1, ha2, hf2, ha3, hf3⟩ := LR1.out.sf4
    obtain ⟨hk0, hk1, hk2, hk3⟩ := LR1.out.sc4 (.int .i64 s2) (.bool g2) (.slice A2 n2 c2) (.slice B2 m2 d2)
    have F := Lib.hid (below_sets (w0 := w) (r := (w.heap.size + 2)) (by omega) [.int .i64 s2, .bool g2, .slice A2 n2 c2, .slice B2 m2 d2] 0 _ LB1.out)
    simp [sets] at hk0 hk1 hk2 hk3
    have FR := Lib.hid (LR1.out.rat (H2.out.below LB1.out) [.int .i64 s2, .bool g2, .slice A2 n2 c2, .slice B2 m2 d2])
    clear hb1 HC H1 H2
    go_wp2
    refine bodyPost_ret (v := .agg #[.int .i64 s2, .bool g2, .slice A2 n2 c2, .slice B2 m2 d2]) (by simp [results, Tryz.results154, go_sem, hk0, hk1, hk2, hk3]) rfl ?_
    exact ⟨_, _, _, _, _, _, _, rfl, FR.out, F.out⟩
  · rw [if_neg h, if_neg h]
    obtain ⟨LB0, LG0_0, LG1_0, LR⟩ := bx3 w #[.int .i64 s1, .bool g1, .slice A1 n1 c1, .slice B1 m1 d1] 87 #[.int .i64 s2, .bool g2, .slice A2 n2 c2, .slice B2 m2 d2] 87 #[.int .i64 0, .bool false, .slice none 0 0, .slice none 0 0] 87
    have LR0 := Lib.hid (HasBlk.of (n := 4) LR.out rfl rfl)
    clear LR
    go_enter Tryz.func154, Tryz.ntmps154
    go_wp2_with fail
    refine (HC.out _ LB0.out).mono ?_
    rintro e w1 ⟨rfl, hb1⟩
    have LB1 := stB LB0 hb1 LB0.out.size
    have LR1 := stR LR0 hb1
    have LG0_1 := stG LG0_0 hb1
    have LG1_1 := stG LG1_0 hb1
    clear LB0 LR0 LG0_0 LG1_0
    obtain ⟨q0_0, q0_1, q0_2, q0_3⟩ := LG0_1.out.c4
    obtain ⟨ha0, hf0, ha1, hf1, ha2, hf2, ha3, hf3⟩ := LR1.out.sf4
    obtain ⟨hk0, hk1, hk2, hk3⟩ := LR1.out.sc4 (.int .i64 s1) (.bool g1) (.slice A1 n1 c1) (.slice B1 m1 d1)
    have F := Lib.hid (below_sets (w0 := w) (r := (w.heap.size + 2)) (by omega) [.int .i64 s1, .bool g1, .slice A1 n1 c1, .slice B1 m1 d1] 0 _ LB1.out)
    simp [sets] at hk0 hk1 hk2 hk3
    have FR := Lib.hid (LR1.out.rat (H1.out.below LB1.out) [.int .i64 s1, .bool g1, .slice A1 n1 c1, .slice B1 m1 d1])
    clear hb1 HC H1 H2
    go_wp2
    refine bodyPost_ret (v := .agg #[.int .i64 s1, .bool g1, .slice A1 n1 c1, .slice B1 m1 d1]) (by simp [results, Tryz.results154, go_sem, hk0, hk1, hk2, hk3]) rfl ?_
    exact ⟨_, _, _, _, _, _, _, rfl, FR.out, F.out⟩
end Go.Proofs.YthlmlmfebpjgdaaGreatDoor

namespace Go.Proofs.YthlmlmfebpjgdaaGreatDoor
def SubInv (rs ys cur : List Nat) (x i c b : Nat) : Prop :=
  W32 cur ∧ cur.length = rs.length ∧ (∀ j : Nat, i ≤ j → cur[j]?.getD 0 = rs[j]?.getD 0) ∧ c < 4294967296 ∧ b ≤ 1 ∧
    num (cur.take i) + x * num (ys.take i) = num (rs.take i) + 2^(32 * i) * (b + c)
theorem SubInv.start {rs ys : List Nat} (x : Nat) (h : W32 rs) : SubInv rs ys rs x 0 0 0 :=
  ⟨h, rfl, fun _ _ => rfl, by omega, by omega, by simp [num]⟩
theorem SubInv.step {rs ys cur : List Nat} {x i c b t d b' : Nat} (h : SubInv rs ys cur x i c b) (hi : i < rs.length) (hx : x < 4294967296) (hy : W32 ys)
    (ht : t = c + ys[i]?.getD 0 * x) (hd : d < 4294967296) (hb' : b' ≤ 1) (he : d + (t % 4294967296 + b) = rs[i]?.getD 0 + 4294967296 * b') :
    SubInv rs ys (cur.set i d) x (i + 1) (t / 4294967296) b' := by
  obtain ⟨hw, hl, hr, hc, hb, hs⟩ := h
  have h1 := hy.get i
  have h2 : ys[i]?.getD 0 * x ≤ 4294967295 * 4294967295 := Nat.mul_le_mul (by omega) (by omega)
  refine ⟨hw.set _ hd, by simp [hl], fun j hj => ?_, by omega, hb', ?_⟩
  · rw [List.getElem?_set_ne (by omega)]; exact hr j (by omega)
  · have e1 : num ((cur.set i d).take (i + 1)) = num (cur.take i) + 2^(32 * i) * d := by
      rw [num_take_next, List.take_set_of_le (Nat.le_refl _), List.getElem?_set_self (by omega)]; rfl
    rw [e1, num_take_next, num_take_next, pow32, Nat.mul_add x]
    have e2 : x * (2^(32 * i) * ys[i]?.getD 0) = 2^(32 * i) * (ys[i]?.getD 0 * x) := by
      rw [Nat.mul_left_comm, Nat.mul_comm x]
    rw [e2]
    generalize ys[i]?.getD 0 * x = z at *
    generalize 2^(32 * i) = p at *
    have e3 : p * (b + c) + p * d + p * z = p * rs[i]?.getD 0 + 2^32 * p * (b' + t / 4294967296) := by
      rw [Nat.mul_comm (2^32) p, Nat.mul_assoc, ← Nat.mul_add, ← Nat.mul_add, ← Nat.mul_add]
      congr 1; omega
    omega
theorem SubInv.done {rs ys cur : List Nat} {x c b : Nat} (h : SubInv rs ys cur x rs.length c b) (hr : W32 rs) (hm : ys.length ≤ rs.length) (hle : x * num ys ≤ num rs) :
    num cur = num rs - x * num ys := by
  obtain ⟨hw, hl, _, hc, hb, hs⟩ := h
  rw [List.take_of_length_le (by omega), List.take_of_length_le (Nat.le_refl _), List.take_of_length_le hm] at hs
  have h1 := num_lt hw
  have h2 := num_lt hr
  rw [hl] at h1
  have h3 : b + c = 0 := by
    rcases Nat.eq_zero_or_pos (b + c) with h3 | h3
    · exact h3
    · exfalso
      have := Nat.mul_le_mul_left (2^(32 * rs.length)) h3
      omega
  rw [h3] at hs
  omega
theorem guess_le {rs ys : List Nat} {n : Nat} (hy : W32 ys) (hrl : rs.length = n + 2) (hyl : ys.length = n + 1) (x : Nat)
    (hx : x = (rs[n + 1]?.getD 0 * 4294967296 + rs[n]?.getD 0) / (ys[n]?.getD 0 + 1)) : x * num ys ≤ num rs := by
  have h1 : num ys ≤ 2^(32 * n) * (ys[n]?.getD 0 + 1) := by
    have e : num ys = num (ys.take n) + 2^(32 * n) * ys[n]?.getD 0 := by
      rw [← num_take_next, List.take_of_length_le (by omega)]
    have := num_lt (hy.take n)
    rw [List.length_take, Nat.min_eq_left (by omega)] at this
    rw [e, Nat.mul_add, Nat.mul_one]; omega
  have h2 : 2^(32 * n) * (rs[n + 1]?.getD 0 * 4294967296 + rs[n]?.getD 0) ≤ num rs := by
    have e : num rs = num (rs.take n) + 2^(32 * n) * rs[n]?.getD 0 + 2^(32 * (n + 1)) * rs[n + 1]?.getD 0 := by
      rw [← num_take_next, ← num_take_next, List.take_of_length_le (by omega)]
    rw [e, pow32, Nat.mul_add, Nat.mul_comm (2^32), Nat.mul_assoc, Nat.mul_comm (rs[n + 1]?.getD 0)]
    generalize 2^(32 * n) * rs[n]?.getD 0 = a
    generalize rs[n + 1]?.getD 0 = b
    show 2^(32 * n) * (2^32 * b) + a ≤ _
    omega
  have h3 : x * (ys[n]?.getD 0 + 1) ≤ rs[n + 1]?.getD 0 * 4294967296 + rs[n]?.getD 0 := by
    rw [hx]; exact Nat.div_mul_le_self _ _
  calc x * num ys ≤ x * (2^(32 * n) * (ys[n]?.getD 0 + 1)) := Nat.mul_le_mul_left _ h1
    _ = 2^(32 * n) * (x * (ys[n]?.getD 0 + 1)) := by rw [Nat.mul_left_comm]
    _ ≤ 2^(32 * n) * (rs[n + 1]?.getD 0 * 4294967296 + rs[n]?.getD 0) := Nat.mul_le_mul_left _ h3
    _ ≤ num rs := h2
theorem num_shift_up {rs : List Nat} (h : rs ≠ []) (hz : rs[rs.length - 1]?.getD 0 = 0) (u : Nat) : num (u :: rs.take (rs.length - 1)) = u + 4294967296 * num rs := by
  rw [num_cons]
  have hl : 0 < rs.length := List.length_pos_iff.2 h
  have e : num rs = num (rs.take (rs.length - 1)) := by
    have := num_take_next rs (rs.length - 1)
    rw [Nat.sub_add_cancel hl, List.take_of_length_le (Nat.le_refl _), hz] at this
    omega
  rw [← e]
def ByInv (us qs : List Nat) (V R i : Nat) : Prop := W32 qs ∧ qs.length = us.length ∧ num (us.drop i) = num (qs.drop i) * V + R ∧ R < V
theorem ByInv.start (us : List Nat) {V : Nat} (hV : 0 < V) : ByInv us (List.replicate us.length 0) V 0 us.length :=
  ⟨W32.replicate _, by simp, by simp [num], hV⟩
theorem num_drop_cons (l : List Nat) (i : Nat) : num (l.drop i) = l[i]?.getD 0 + 4294967296 * num (l.drop (i + 1)) := by
  rw [num_tail (l.drop i), List.getElem?_drop, List.tail_drop]; rfl
theorem ByInv.step {us qs : List Nat} {V R i d R' : Nat} (h : ByInv us qs V R (i + 1)) (hi : i < us.length) (hd : d < 4294967296) (he : us[i]?.getD 0 + 4294967296 * R = d * V + R') (hR : R' < V) :
    ByInv us (qs.set i d) V R' i := by
  obtain ⟨hw, hl, hs, _⟩ := h
  refine ⟨hw.set _ hd, by simp [hl], ?_, hR⟩
  rw [num_drop_cons us, hs, num_drop_cons (qs.set i d), List.getElem?_set_self (by omega)]
  rw [List.drop_set_of_lt (by omega)]
  show _ = (d + 4294967296 * num (qs.drop (i + 1))) * V + R'
  rw [Nat.mul_add, Nat.add_mul, Nat.mul_assoc]
  generalize num (qs.drop (i + 1)) * V = z at *
  omega
theorem ByInv.done {us qs : List Nat} {V R : Nat} (h : ByInv us qs V R 0) : num us / V = num qs ∧ num us % V = R := by
  obtain ⟨_, _, hs, hR⟩ := h
  rw [List.drop_zero, List.drop_zero] at hs
  rw [hs, Nat.mul_comm]
  constructor
  · rw [Nat.mul_add_div (by omega), Nat.div_eq_of_lt hR, Nat.add_zero]
  · rw [Nat.mul_add_mod, Nat.mod_eq_of_lt hR]
end Go.Proofs.YthlmlmfebpjgdaaGreatDoor

namespace Go.Proofs.YthlmlmfebpjgdaaGreatDoor
open Go.RowKit
theorem sub_any (B : Option Addr) (g n m d x : Nat) (rs ys : List Nat) (w : World) (hr : Arr w g rs) (hrw : W32 rs) (hy : U32s w B m d ys) (hne : ∀ ad, B = some ad → ad.block ≠ g) (hrl : rs.length = n) (hs : n ≤ 8589934592) (hm : m ≤ n)
    (hx : x < 4294967296) (hle : x * num ys ≤ num rs) :
    Calls Tryz.prog 226 #[.slice (some ⟨g, 0, none⟩) n n, .slice B m d, .int .u64 (x : Int)] w fun e w' =>
      ∃ rs', e = .returned (.tuple #[]) ∧ Arr w' g rs' ∧ W32 rs' ∧ rs'.length = n ∧ num rs' = num rs - x * num ys ∧ w.grownBy w' (some g) := by
  have HR := Lib.hid hr
  have HY := Lib.hid hy
  have HRW := Lib.hid hrw
  have HLE := Lib.hid hle
  have HRL := Lib.hid hrl
  clear hr hy hrw hle hrl
  go_enter Tryz.func226, Tryz.ntmps226
  go_wp2
  go_loopw [6, 7, 8] (fun cv bv iv wr => ∃ (i c b : Nat) (cur : List Nat), iv = .int .i64 i ∧ cv = .int .u64 c ∧ bv = .int .u64 b ∧ i ≤ n ∧ SubInv rs ys cur x i c b ∧ Arr wr g cur ∧ w.grownBy wr (some g)) (fun _ _ iv _ => n - (intOf iv).toNat)
  case atStart => exact ⟨0, 0, 0, rs, rfl, rfl, rfl, Nat.zero_le _, SubInv.start _ HRW.out, HR.out, World.grownBy.refl w _⟩
  case round =>
    obtain ⟨i, c, b, cur, rfl, rfl, rfl, hi, hinv, harr, hgr⟩ := hrel
    have HI := Lib.hid hinv
    have HA := Lib.hid harr
    have HG := Lib.hid hgr
    have hc32 : c < 4294967296 := hinv.2.2.2.1
    have hb1 : b ≤ 1 := hinv.2.2.2.2.1
    clear hinv harr hgr
    by_cases hlt : i < n
    · have hf := HA.out.frozen i
      have hcc := HA.out.cell (j := i) (by rw [HI.out.2.1, HRL.out]; exact hlt)
      rw [HI.out.2.2.1 i (Nat.le_refl _)] at hcc
      have hr1 := HRW.out.get i
      obtain ⟨r, hrr⟩ : ∃ r, rs[i]?.getD 0 = r := ⟨_, rfl⟩
      rw [hrr] at hcc hr1
      have HRR := Lib.hid hrr
      clear hrr
      by_cases hlm : i < m
      · have hU : U32s wr B m d ys := HY.out.keep HG.out.size (fun ad e h0 => by
          obtain ⟨ad', e', hlt', _⟩ := HY.out.at_ h0
          rw [e] at e'; cases e'
          exact HG.out.block _ hlt' (fun h => hne ad e (by injection h)))
        obtain ⟨ad, rfl, hc⟩ := hU.cell (j := i) hlm
        have hy1 := HY.out.lt i
        obtain ⟨y, hyy⟩ : ∃ y, ys[i]?.getD 0 = y := ⟨_, rfl⟩
        rw [hyy] at hc hy1
        have HYY := Lib.hid hyy
        clear hyy hU
        have hz1 : y * x ≤ 4294967295 * 4294967295 := Nat.mul_le_mul (by omega) (by omega)
        obtain ⟨z, hz⟩ : ∃ z, y * x = z := ⟨_, rfl⟩
        rw [hz] at hz1
        have e1 : (y : Int) * (x : Int) = (z : Int) := by rw [← hz]; simp
        have HZ := Lib.hid hz
        clear hz
        have hmk := mask32_i (a := (c : Int) + (z : Int)) (by omega) (by omega)
        by_cases hbor : r < (c + z) % 4294967296 + b
        · go_wp2
          go_roundw
          case rel =>
            refine ⟨i + 1, (c + z) / 4294967296, 1, cur.set i (r + 4294967296 - ((c + z) % 4294967296 + b)), by go_num, by go_num, rfl, by omega, HI.out.step (b' := 1) (by rw [HRL.out]; exact hlt) hx HY.out.w32 (by rw [HYY.out, HZ.out]) (by omega) (by omega) (by rw [HRR.out]; omega), ?_, HG.out.trans ⟨rfl, rfl, rfl, by simp, fun k _ hk => Below.heap_setCell _ _ _ _ (fun e => hk (by rw [e]))⟩⟩
            rw [show (r : Int) + 4294967296 - (((c : Int) + (z : Int)) % 4294967296 + (b : Int)) = ((r + 4294967296 - ((c + z) % 4294967296 + b) : Nat) : Int) from by omega]
            exact HA.out.set _ _
          case measure => simp [intOf]; omega
        · go_wp2
          go_roundw
          case rel =>
            refine ⟨i + 1, (c + z) / 4294967296, 0, cur.set i (r - ((c + z) % 4294967296 + b)), by go_num, by go_num, rfl, by omega, HI.out.step (b' := 0) (by rw [HRL.out]; exact hlt) hx HY.out.w32 (by rw [HYY.out, HZ.out]) (by omega) (by omega) (by rw [HRR.out]; omega), ?_, HG.out.trans ⟨rfl, rfl, rfl, by simp, fun k _ hk => Below.heap_setCell _ _ _ _ (fun e => hk (by rw [e]))⟩⟩
            rw [show (r : Int) - (((c : Int) + (z : Int)) % 4294967296 + (b : Int)) = ((r - ((c + z) % 4294967296 + b) : Nat) : Int) from by omega]
            exact HA.out.set _ _
          case measure => simp [intOf]; omega
      · have HYY := Lib.hid (show ys[i]?.getD 0 = 0 by rw [List.getElem?_eq_none (by rw [HY.out.len]; omega)]; rfl)
        have hmk := mask32_i (a := (c : Int)) (by omega) (by omega)
        by_cases hbor : r < (c) % 4294967296 + b
        · go_wp2
          go_roundw
          case rel =>
            refine ⟨i + 1, (c) / 4294967296, 1, cur.set i (r + 4294967296 - ((c) % 4294967296 + b)), by go_num, by go_num, rfl, by omega, HI.out.step (b' := 1) (by rw [HRL.out]; exact hlt) hx HY.out.w32 (by rw [HYY.out]; omega) (by omega) (by omega) (by rw [HRR.out]; omega), ?_, HG.out.trans ⟨rfl, rfl, rfl, by simp, fun k _ hk => Below.heap_setCell _ _ _ _ (fun e => hk (by rw [e]))⟩⟩
            rw [show (r : Int) + 4294967296 - (((c : Int)) % 4294967296 + (b : Int)) = ((r + 4294967296 - ((c) % 4294967296 + b) : Nat) : Int) from by omega]
            exact HA.out.set _ _
          case measure => simp [intOf]; omega
        · go_wp2
          go_roundw
          case rel =>
            refine ⟨i + 1, (c) / 4294967296, 0, cur.set i (r - ((c) % 4294967296 + b)), by go_num, by go_num, rfl, by omega, HI.out.step (b' := 0) (by rw [HRL.out]; exact hlt) hx HY.out.w32 (by rw [HYY.out]; omega) (by omega) (by omega) (by rw [HRR.out]; omega), ?_, HG.out.trans ⟨rfl, rfl, rfl, by simp, fun k _ hk => Below.heap_setCell _ _ _ _ (fun e => hk (by rw [e]))⟩⟩
            rw [show (r : Int) - (((c : Int)) % 4294967296 + (b : Int)) = ((r - ((c) % 4294967296 + b) : Nat) : Int) from by omega]
            exact HA.out.set _ _
          case measure => simp [intOf]; omega
    · obtain rfl : i = n := by omega
      go_wp2
      go_end0
      have hi1 := HI.out
      have hrl := HRL.out
      subst hrl
      exact ⟨cur, rfl, HA.out, hi1.1, hi1.2.1, hi1.done HRW.out (by rw [HY.out.len]; exact hm) HLE.out, HG.out⟩
end Go.Proofs.YthlmlmfebpjgdaaGreatDoor

namespace Go.Proofs.YthlmlmfebpjgdaaGreatDoor
open Go.RowKit
theorem guess_any (B : Option Addr) (g n d : Nat) (rs ys : List Nat) (w : World) (hr : Arr w g rs) (hrw : W32 rs) (hy : U32s w B (n + 1) d ys) (hrl : rs.length = n + 2) (hs : n ≤ 8589934592)
    (hle : num ys ≤ num rs) (hlt : num rs < num ys * 4294967296) :
    Calls Tryz.prog 225 #[.slice (some ⟨g, 0, none⟩) (n + 2) (n + 2), .slice B (n + 1) d] w fun e w' =>
      ∃ x : Nat, e = .returned (.int .u64 (x : Int)) ∧ 0 < x ∧ x < 4294967296 ∧ x * num ys ≤ num rs ∧ ∃ k, w' = w.drewN k := by
  obtain ⟨ad, rfl, hc⟩ := hy.cell (j := n) (by omega)
  have hy1 := hy.lt n
  have hr1 : rs[n + 1]?.getD 0 < 4294967296 := hrw.get _
  have hr0 : rs[n]?.getD 0 < 4294967296 := hrw.get _
  have hc1 := hr.cell (j := n + 1) (by omega)
  have hc0 := hr.cell (j := n) (by omega)
  have hg := guess_le hy.w32 hrl hy.len
  obtain ⟨y, hyy⟩ : ∃ y, ys[n]?.getD 0 = y := ⟨_, rfl⟩
  obtain ⟨r1, hrr1⟩ : ∃ r, rs[n + 1]?.getD 0 = r := ⟨_, rfl⟩
  obtain ⟨r0, hrr0⟩ : ∃ r, rs[n]?.getD 0 = r := ⟨_, rfl⟩
  rw [hyy] at hc hy1 hg
  rw [hrr1] at hr1 hc1 hg
  rw [hrr0] at hr0 hc0 hg
  have hv := num_lt hy.w32
  clear hyy hrr1 hrr0
  have hp : 0 < num ys := by
    rcases Nat.eq_zero_or_pos (num ys) with h | h
    · rw [h] at hlt; omega
    · exact h
  obtain ⟨q, hq⟩ : ∃ q, (r1 * 4294967296 + r0) / (y + 1) = q := ⟨_, rfl⟩
  have hq1 := hg q hq.symm
  have hq2 : q < 4294967296 := by
    rcases Nat.lt_or_ge q 4294967296 with h | h
    · exact h
    · have : 4294967296 * num ys ≤ q * num ys := Nat.mul_le_mul_right _ h
      rw [Nat.mul_comm] at this; omega
  have hor := or_join (i := 32) (x := r1) (y := r0) (by omega) (by omega) (by omega)
  rw [show ((r1 * 2^32 : Nat) : Int) = (r1 : Int) * 4294967296 from by omega, show ((r1 * 2^32 + r0 : Nat) : Int) = (r1 : Int) * 4294967296 + (r0 : Int) from by omega] at hor
  have hdiv : ((r1 : Int) * 4294967296 + (r0 : Int)) / ((y : Int) + 1) = (q : Int) := by rw [← hq]; simp
  have b1 : (0 : Int) ≤ (r1 : Int) * 4294967296 + (r0 : Int) := by omega
  have b2 : (r1 : Int) * 4294967296 + (r0 : Int) < 18446744073709551616 := by omega
  have HQ1 := Lib.hid hq1
  have HLE := Lib.hid hle
  have HP := Lib.hid hp
  have i1 : ((n : Int) + 1) < ((n + 2 : Nat) : Int) := by omega
  have i2 : (n : Int) < ((n + 2 : Nat) : Int) := by omega
  have i3 : (n : Int) < ((n + 1 : Nat) : Int) := by omega
  have i4 : ((n : Int) + 1).toNat = n + 1 := by omega
  clear hy hr hg hv hq1 hq hle hlt hp hrw hrl
  go_enter Tryz.func225, Tryz.ntmps225
  by_cases h0 : q = 0
  · have g1 : ((q : Int) == 0) = true := by simp; exact h0
    go_wp2_with fail
    go_quiet (fail)
    go_wp2
    go_ret
    exact ⟨1, rfl, by omega, by omega, by have := HLE.out; omega, _, rfl⟩
  · have g1 : ((q : Int) == 0) = false := by simp; exact h0
    go_wp2_with fail
    go_quiet (fail)
    go_wp2
    go_ret
    exact ⟨q, ret_int hdiv, by omega, hq2, HQ1.out, _, rfl⟩
theorem guess_at (B : Option Addr) (g n d : Nat) (rs ys : List Nat) (w : World) (hr : Arr w g rs) (hrw : W32 rs) (hy : U32s w B n d ys) (hn : 1 ≤ n) (hrl : rs.length = n + 1) (hs : n ≤ 8589934592)
    (hle : num ys ≤ num rs) (hlt : num rs < num ys * 4294967296) :
    Calls Tryz.prog 225 #[.slice (some ⟨g, 0, none⟩) (n + 1) (n + 1), .slice B n d] w fun e w' =>
      ∃ x : Nat, e = .returned (.int .u64 (x : Int)) ∧ 0 < x ∧ x < 4294967296 ∧ x * num ys ≤ num rs ∧ ∃ k, w' = w.drewN k := by
  obtain ⟨n, rfl⟩ : ∃ i, n = i + 1 := ⟨n - 1, by omega⟩
  exact guess_any B g n d rs ys w hr hrw hy hrl (by omega) hle hlt
end Go.Proofs.YthlmlmfebpjgdaaGreatDoor
