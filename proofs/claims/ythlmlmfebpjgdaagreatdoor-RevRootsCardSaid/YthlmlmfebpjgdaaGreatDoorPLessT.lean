/-
Walks: package rev, less of finite ends.
Plain: the sum of two ends.
Walks: package rev, point and less of infinite ends.
Walks: package rev, FMARev, MulRev.
What positive, factor, FMARev, MulRev of the program answer, by indexes; a piece turned over.
Pieces and sets as a walk lays them: what Within makes of a piece, and of its negatives.
Walks: package vergeref6, product, Times.
The reference's product, lesser, greater of ends by indexes.
Walks: package vergeref6, None.
-/
import Derived.Test.YthlmlmfebpjgdaaGreatDoorM04
import Derived.Test.YthlmlmfebpjgdaaGreatDoorPNwT
import Derived.Test.YthlmlmfebpjgdaaGreatDoorM06
import Derived.Test.YthlmlmfebpjgdaaGreatDoorM18
import Derived.Laws.FloatArith
import Derived.Test.YthlmlmfebpjgdaaGreatDoorPCut2T
import Derived.Test.YthlmlmfebpjgdaaGreatDoorM11
import Derived.Test.YthlmlmfebpjgdaaGreatDoorM12
import Derived.Deep.DeepCutAuto
set_option linter.unusedSimpArgs false
set_option linter.unusedVariables false
set_option maxHeartbeats 12800000

namespace Go.Proofs.YthlmlmfebpjgdaaGreatDoor
open Go.RowKit
attribute [local go_sem] run_store_float run_negf
end Go.Proofs.YthlmlmfebpjgdaaGreatDoor

namespace Go.Proofs.YthlmlmfebpjgdaaGreatDoor
open Go.RowKit
end Go.Proofs.YthlmlmfebpjgdaaGreatDoor

namespace Go.Proofs.YthlmlmfebpjgdaaGreatDoor
open Go.RowKit
attribute [local go_sem] run_store_float run_negf
end Go.Proofs.YthlmlmfebpjgdaaGreatDoor

namespace Go.Proofs.YthlmlmfebpjgdaaGreatDoor
open Go.RowKit
attribute [local go_sem] run_store_float
end Go.Proofs.YthlmlmfebpjgdaaGreatDoor

namespace Go.Proofs.YthlmlmfebpjgdaaGreatDoor
open Go.RowKit
theorem rc_neg2 (x y : Rat) : rc (-x) (-y) = - rc x y := by
  unfold rc
  by_cases h : x < y
  · have h1 : ¬ -x < -y := by grind
    have h2 : -y < -x := by grind
    rw [if_neg h1, if_pos h2, if_pos h]; rfl
  · by_cases h' : y < x
    · have h1 : -x < -y := by grind
      rw [if_pos h1, if_neg h, if_pos h']
    · have h1 : ¬ -x < -y := by grind
      have h2 : ¬ -y < -x := by grind
      rw [if_neg h1, if_neg h2, if_neg h, if_neg h']; rfl
theorem ec_neg2 (s : Int) (x : Rat) (t : Int) (y : Rat) : ec (-s) (-x) (-t) (-y) = - ec s x t y := by
  unfold ec
  by_cases h : s = t
  · subst h
    rw [if_pos rfl, if_pos rfl, rc_neg2]
    by_cases h0 : s = 0
    · subst h0; simp
    · rw [if_neg (by omega), if_neg h0]; rfl
  · rw [if_neg (show ¬ -s = -t by omega), if_neg h]
    by_cases h2 : s < t
    · rw [if_neg (show ¬ -s < -t by omega), if_pos h2]; rfl
    · rw [if_pos (show -s < -t by omega), if_neg h2]
theorem ec_turn (i t : Int) (y : Rat) : ec (es i) (ex i) (-t) (-y) = - ec (es (-i)) (ex (-i)) t y := by
  have h := ec_neg2 (es (-i)) (ex (-i)) t y
  rw [es_neg, ex_neg, Int.neg_neg, Rat.neg_neg] at h
  rw [h, es_neg, ex_neg]
theorem pf_neg (sa : Int) (xa : Rat) (oa : Bool) (sb : Int) (xb : Rat) (ob : Bool) (i j : Int) :
    pf (-sb) (-xb) ob (-sa) (-xa) oa i j = (-(pf sa xa oa sb xb ob (-j) (-i)).2, -(pf sa xa oa sb xb ob (-j) (-i)).1) := by
  have a := rndI_neg (d := 1) (.inr rfl) xb
  have b := rndI_neg (d := -1) (.inl rfl) xa
  rw [show (-(1 : Int)) = -1 from rfl] at a
  rw [show (- -1 : Int) = 1 from rfl] at b
  unfold pf
  by_cases hji : j < i
  · rw [if_pos hji, if_pos (show -i < -j by omega)]; simp
  · rw [if_neg hji, if_neg (show ¬ -i < -j by omega), ec_turn, ec_turn, ec_turn, ec_turn, a, b]
    unfold wg
    obtain ⟨c1, h1⟩ : ∃ z, ec (es (-i)) (ex (-i)) sa xa = z := ⟨_, rfl⟩
    obtain ⟨c2, h2⟩ : ∃ z, ec (es (-j)) (ex (-j)) sb xb = z := ⟨_, rfl⟩
    obtain ⟨c3, h3⟩ : ∃ z, ec (es (-i)) (ex (-i)) sb xb = z := ⟨_, rfl⟩
    obtain ⟨c4, h4⟩ : ∃ z, ec (es (-j)) (ex (-j)) sa xa = z := ⟨_, rfl⟩
    rw [h1, h2, h3, h4]
    by_cases hc : 0 < c2 ∨ (c2 = 0 ∧ ob = true) ∨ c1 < 0 ∨ (c1 = 0 ∧ oa = true)
    · rw [if_pos hc, if_pos (by rcases hc with h | ⟨h, o⟩ | h | ⟨h, o⟩; exact .inr (.inr (.inl (by omega))); exact .inr (.inr (.inr ⟨by omega, o⟩)); exact .inl (by omega); exact .inr (.inl ⟨by omega, o⟩))]
      simp
    · rw [if_neg hc, if_neg (by rintro (h | ⟨h, o⟩ | h | ⟨h, o⟩); exact hc (.inr (.inr (.inl (by omega)))); exact hc (.inr (.inr (.inr ⟨by omega, o⟩))); exact hc (.inl (by omega)); exact hc (.inr (.inl ⟨by omega, o⟩)))]
      by_cases k1 : c3 ≤ 0 <;> by_cases k2 : 0 ≤ c4
      · rw [if_neg (by omega), if_neg (by omega), if_neg (by omega), if_neg (by omega)]; simp
      · rw [if_neg (show ¬ -c3 < 0 by omega), if_pos (show 0 < -c4 by omega), if_pos (show c4 < 0 by omega), if_neg (show ¬ 0 < c3 by omega)]; simp
      · rw [if_pos (show -c3 < 0 by omega), if_neg (show ¬ 0 < -c4 by omega), if_neg (show ¬ c4 < 0 by omega), if_pos (show 0 < c3 by omega)]; simp
      · rw [if_pos (show -c3 < 0 by omega), if_pos (show 0 < -c4 by omega), if_pos (show c4 < 0 by omega), if_pos (show 0 < c3 by omega)]
structure NumOk (s1 : Int) (x1 : Rat) (s2 : Int) (x2 : Rat) : Prop where
  a1 : s1 = 0 ∨ s1 = -1
  a2 : s1 ≠ 0 → x1 = 0
  b1 : s2 = 0 ∨ s2 = 1
  b2 : s2 ≠ 0 → x2 = 0
  le : s1 = 0 → s2 = 0 → x1 ≤ x2
def Ne (i j : Int) : Prop := -(M : Int) ≤ i ∧ i ≤ j ∧ j ≤ M ∧ i < M ∧ -(M : Int) < j
theorem Ne.iv {i j : Int} (h : Ne i j) : Iv i j := .inl h
theorem Ne.neg {i j : Int} (h : Ne i j) : Ne (-j) (-i) := by unfold Ne at *; omega
theorem ne_or {i j : Int} (h : Iv i j) (h2 : ¬ j < i) : Ne i j := by
  rcases h with h | ⟨rfl, rfl⟩
  · exact h
  · have hM : (M : Int) = 9218868437227405312 := rfl
    omega
end Go.Proofs.YthlmlmfebpjgdaaGreatDoor

namespace Go.Proofs.YthlmlmfebpjgdaaGreatDoor
open Go.RowKit
def NewPcF (w : World) (F : Int → Int → Int × Int) (e : Ending) (w' : World) : Prop :=
  ∃ o s1 g1 A1 n1 c1 B1 m1 d1 N1 o1 s2 g2 A2 n2 c2 B2 m2 d2 N2 o2,
    e = .returned (.agg #[.bool o, .int .i64 s1, .bool g1, .slice A1 n1 c1, .slice B1 m1 d1, .int .i64 N1, .bool o1, .int .i64 s2, .bool g2, .slice A2 n2 c2, .slice B2 m2 d2, .int .i64 N2, .bool o2]) ∧ PcW w' o s1 g1 A1 n1 c1 B1 m1 d1 N1 o1 s2 g2 A2 n2 c2 B2 m2 d2 N2 o2 F ∧ Below w.heap.size w w'
theorem PcG.of {W : World} {g : Nat} {t : TypeId} {cs : Array Value} {k : Nat} {F : Int → Int → Int × Int} (hb : Blk W g t cs) {o : Bool} {s1 : Int} {g1 : Bool} {A1 : Option Addr} {n1 c1 : Nat} {B1 : Option Addr} {m1 d1 : Nat} {N1 : Int} {o1 : Bool} {s2 : Int} {g2 : Bool} {A2 : Option Addr} {n2 c2 : Nat} {B2 : Option Addr} {m2 d2 : Nat} {N2 : Int} {o2 : Bool}
    (h : PcW W o s1 g1 A1 n1 c1 B1 m1 d1 N1 o1 s2 g2 A2 n2 c2 B2 m2 d2 N2 o2 F)
    (hc : ∀ i : Nat, i < 13 → cs[k * 13 + i]? = (#[.bool o, .int .i64 s1, .bool g1, .slice A1 n1 c1, .slice B1 m1 d1, .int .i64 N1, .bool o1, .int .i64 s2, .bool g2, .slice A2 n2 c2, .slice B2 m2 d2, .int .i64 N2, .bool o2] : Array Value)[i]?) : PcG W ⟨g, 0, none⟩ k F := by
  have e : (⟨g, 0, none⟩ : Addr).add (k * 13) = ⟨g, k * 13, none⟩ := by unfold Addr.add; split <;> simp_all
  have c : ∀ i : Nat, i < 13 → W.cell? ⟨g, k * 13 + i, none⟩ = (#[.bool o, .int .i64 s1, .bool g1, .slice A1 n1 c1, .slice B1 m1 d1, .int .i64 N1, .bool o1, .int .i64 s2, .bool g2, .slice A2 n2 c2, .slice B2 m2 d2, .int .i64 N2, .bool o2] : Array Value)[i]? := fun i hi => (hb.cell _).trans (hc i hi)
  refine ⟨o, s1, g1, A1, n1, c1, B1, m1, d1, N1, o1, s2, g2, A2, n2, c2, B2, m2, d2, N2, o2, ?_, ?_, ?_, ?_, ?_, ?_, ?_, ?_, ?_, ?_, ?_, ?_, ?_, h⟩
  · rw [e]; exact c 0 (by omega)
  · rw [e]; exact c 1 (by omega)
  · rw [e]; exact c 2 (by omega)
  · rw [e]; exact c 3 (by omega)
  · rw [e]; exact c 4 (by omega)
  · rw [e]; exact c 5 (by omega)
  · rw [e]; exact c 6 (by omega)
  · rw [e]; exact c 7 (by omega)
  · rw [e]; exact c 8 (by omega)
  · rw [e]; exact c 9 (by omega)
  · rw [e]; exact c 10 (by omega)
  · rw [e]; exact c 11 (by omega)
  · rw [e]; exact c 12 (by omega)
theorem esx_idx {i : Int} (h : -(M : Int) ≤ i ∧ i ≤ M) : (0 < esx (es i) (ex i) ↔ 0 < i) ∧ (esx (es i) (ex i) < 0 ↔ i < 0) := by
  have hM : (M : Int) = 9218868437227405312 := rfl
  by_cases h1 : i = M
  · subst h1; rw [es_max]; unfold esx; rw [if_pos (by omega)]; omega
  · by_cases h2 : i = -(M : Int)
    · subst h2; rw [es_min]; unfold esx; rw [if_pos (by omega)]; omega
    · rw [es_mid (by omega) (by omega), ex_mid (by omega) (by omega)]
      unfold esx rsg
      rw [if_neg (by omega)]
      rcases Int.lt_trichotomy i 0 with h3 | h3 | h3
      · have := fl_lt_iff.2 h3
        rw [fl_zero] at this
        rw [if_neg (by grind), if_pos this]; omega
      · subst h3; rw [fl_zero]; simp
      · have := fl_pos h3
        rw [if_neg (by grind), if_neg (by grind)]; omega
theorem NewPiece.up {w w' : World} {K K' : Nat} {o : Bool} {s : Int} {x : Rat} {N : Int} {p : Bool} {s' : Int} {x' : Rat} {N' : Int} {p' : Bool} {e : Ending} (h : NewPiece w K o s x N p s' x' N' p' e w') (hk : K ≤ K') : NewPiece w K' o s x N p s' x' N' p' e w' := by
  obtain ⟨g, A, n, c, B, m, d, g', A', n', c', B', m', d', rfl, h1, h2, hb⟩ := h
  exact ⟨g, A, n, c, B, m, d, g', A', n', c', B', m', d', rfl, h1.mono hk, h2.mono hk, hb⟩
def ngF (F : Int → Int → Int × Int) : Int → Int → Int × Int := fun i j => (-(F (-j) (-i)).2, -(F (-j) (-i)).1)
def PcV (w : World) (o : Bool) (s1 : Int) (g1 : Bool) (A1 : Option Addr) (n1 c1 : Nat) (B1 : Option Addr) (m1 d1 : Nat) (N1 : Int) (o1 : Bool) (s2 : Int) (g2 : Bool) (A2 : Option Addr) (n2 c2 : Nat) (B2 : Option Addr) (m2 d2 : Nat) (N2 : Int) (o2 : Bool) (F : Int → Int → Int × Int) : Prop :=
  PcW w o s1 g1 A1 n1 c1 B1 m1 d1 N1 o1 s2 g2 A2 n2 c2 B2 m2 d2 N2 o2 F ∧ ∀ W, Below w.heap.size w W →
    Calls Tryz.prog 109 #[.agg #[.bool o, .int .i64 s1, .bool g1, .slice A1 n1 c1, .slice B1 m1 d1, .int .i64 N1, .bool o1, .int .i64 s2, .bool g2, .slice A2 n2 c2, .slice B2 m2 d2, .int .i64 N2, .bool o2]] W (NewPcF W (ngF F))
def NewPcV (w : World) (F : Int → Int → Int × Int) (e : Ending) (w' : World) : Prop :=
  ∃ o s1 g1 A1 n1 c1 B1 m1 d1 N1 o1 s2 g2 A2 n2 c2 B2 m2 d2 N2 o2,
    e = .returned (.agg #[.bool o, .int .i64 s1, .bool g1, .slice A1 n1 c1, .slice B1 m1 d1, .int .i64 N1, .bool o1, .int .i64 s2, .bool g2, .slice A2 n2 c2, .slice B2 m2 d2, .int .i64 N2, .bool o2]) ∧ PcV w' o s1 g1 A1 n1 c1 B1 m1 d1 N1 o1 s2 g2 A2 n2 c2 B2 m2 d2 N2 o2 F ∧ Below w.heap.size w w'
section
variable {w w' : World} {K : Nat} {o : Bool} {s1 : Int} {g1 : Bool} {A1 : Option Addr} {n1 c1 : Nat} {B1 : Option Addr} {m1 d1 : Nat} {N1 : Int} {o1 : Bool} {s2 : Int} {g2 : Bool} {A2 : Option Addr} {n2 c2 : Nat} {B2 : Option Addr} {m2 d2 : Nat} {N2 : Int} {o2 : Bool} {x1 x2 : Rat} {F : Int → Int → Int × Int}
theorem PcV.below (h : PcV w o s1 g1 A1 n1 c1 B1 m1 d1 N1 o1 s2 g2 A2 n2 c2 B2 m2 d2 N2 o2 F) (hb : Below w.heap.size w w') : PcV w' o s1 g1 A1 n1 c1 B1 m1 d1 N1 o1 s2 g2 A2 n2 c2 B2 m2 d2 N2 o2 F :=
  ⟨h.1.below hb, fun W hW => h.2 W (hb.trans (hW.mono hb.size))⟩
theorem pcv_one (h1 : RatV w K g1 (.slice A1 n1 c1) (.slice B1 m1 d1) x1) (h2 : RatV w K g2 (.slice A2 n2 c2) (.slice B2 m2 d2) x2) (hK : 34 ≤ K) (hK2 : K ≤ 1048576) (hs1 : s1 = 0 ∨ s1 = -1) (hs2 : s2 = 0 ∨ s2 = 1) (hle : dn s1 x1 ≤ up s2 x2) :
    PcV w false s1 g1 A1 n1 c1 B1 m1 d1 1 o1 s2 g2 A2 n2 c2 B2 m2 d2 1 o2 (pf s1 x1 o1 s2 x2 o2) := by
  refine ⟨pcw_one K s1 g1 A1 n1 c1 B1 m1 d1 x1 o1 s2 g2 A2 n2 c2 B2 m2 d2 x2 o2 w h1 h2 hK hK2 hs1 hs2 hle, fun W hW => ?_⟩
  refine (minusp_any K false s1 g1 A1 n1 c1 B1 m1 d1 x1 1 o1 s2 g2 A2 n2 c2 B2 m2 d2 x2 1 o2 W (h1.below hW) (h2.below hW) (by omega) (by omega) (by omega)).mono ?_
  rintro e w' ⟨g5, A5, n5, c5, B5, m5, d5, g6, A6, n6, c6, B6, m6, d6, rfl, r1, r2, hbw⟩
  refine ⟨_, _, _, _, _, _, _, _, _, _, _, _, _, _, _, _, _, _, _, _, _, rfl, ?_, hbw⟩
  have e : ngF (pf s1 x1 o1 s2 x2 o2) = pf (-s2) (-x2) o2 (-s1) (-x1) o1 := by
    funext i j; rw [pf_neg]; rfl
  rw [e]
  refine pcw_one K _ g5 A5 n5 c5 B5 m5 d5 _ _ _ g6 A6 n6 c6 B6 m6 d6 _ _ w' r1 r2 hK hK2 (by omega) (by omega) ?_
  rw [dn_neg, up_neg]; omega
theorem pcv_nothing (h1 : RatV w K g1 (.slice A1 n1 c1) (.slice B1 m1 d1) x1) (h2 : RatV w K g2 (.slice A2 n2 c2) (.slice B2 m2 d2) x2) (hK2 : K ≤ 1048576) (hs1 : -1 ≤ s1 ∧ s1 ≤ 1) (hs2 : -1 ≤ s2 ∧ s2 ≤ 1) :
    PcV w true s1 g1 A1 n1 c1 B1 m1 d1 N1 o1 s2 g2 A2 n2 c2 B2 m2 d2 N2 o2 (fun _ _ => ((M : Int), -(M : Int))) := by
  refine ⟨pcw_nothing s1 g1 A1 n1 c1 B1 m1 d1 x1 o1 s2 g2 A2 n2 c2 B2 m2 d2 x2 o2 N1 N2 w, fun W hW => ?_⟩
  refine (minusp_any K true s1 g1 A1 n1 c1 B1 m1 d1 x1 N1 o1 s2 g2 A2 n2 c2 B2 m2 d2 x2 N2 o2 W (h1.below hW) (h2.below hW) (by omega) hs1 hs2).mono ?_
  rintro e w' ⟨g5, A5, n5, c5, B5, m5, d5, g6, A6, n6, c6, B6, m6, d6, rfl, r1, r2, hbw⟩
  refine ⟨_, _, _, _, _, _, _, _, _, _, _, _, _, _, _, _, _, _, _, _, _, rfl, ?_, hbw⟩
  have e : ngF (fun _ _ => ((M : Int), -(M : Int))) = fun _ _ => ((M : Int), -(M : Int)) := by
    funext i j; unfold ngF; simp
  rw [e]
  exact pcw_nothing _ g5 A5 n5 c5 B5 m5 d5 0 _ _ g6 A6 n6 c6 B6 m6 d6 0 _ _ _ w'
theorem ngF_iv (h : ∀ i j, Iv i j → Iv (F i j).1 (F i j).2) (i j : Int) (hx : Iv i j) : Iv (ngF F i j).1 (ngF F i j).2 := (h (-j) (-i) hx.negg).negg
end
def NewSetI (w : World) (i j : Int) (e : Ending) (w' : World) : Prop :=
  ∃ o s g A n c B m d t g' A' n' c' B' m' d', e = .returned (.agg #[.bool o, .int .i64 s, .bool g, .slice A n c, .slice B m d, .int .i64 t, .bool g', .slice A' n' c', .slice B' m' d']) ∧
    SetOf w' (.agg #[.bool o, .int .i64 s, .bool g, .slice A n c, .slice B m d, .int .i64 t, .bool g', .slice A' n' c', .slice B' m' d']) i j ∧ Below w.heap.size w w'
theorem SetOf.cells {w : World} {v : Value} {i j : Int} (h : SetOf w v i j) : ∃ o s g A n c B m d t g' A' n' c' B' m' d', v = .agg #[.bool o, .int .i64 s, .bool g, .slice A n c, .slice B m d, .int .i64 t, .bool g', .slice A' n' c', .slice B' m' d'] := by
  rcases h with ⟨-, -, s, x, t, y, g, A, n, c, B, m, d, g', A', n', c', B', m', d', rfl, -, -⟩ | ⟨-, g, A, n, c, B, m, d, g', A', n', c', B', m', d', rfl, -, -⟩
  · exact ⟨_, _, _, _, _, _, _, _, _, _, _, _, _, _, _, _, _, rfl⟩
  · exact ⟨_, _, _, _, _, _, _, _, _, _, _, _, _, _, _, _, _, rfl⟩
theorem of_i (x y : Nat) (w : World) (hx : x < 18446744073709551616) (hy : y < 18446744073709551616) :
    Calls Tryz.prog 83 #[.agg #[.int .u64 (x : Int), .int .u64 (y : Int)]] w (NewSetI w (rd x y).1 (rd x y).2) :=
  (of_idx x y w hx hy).mono fun e w' ⟨v, he, hs, hb⟩ => by
    obtain ⟨o, s, g, A, n, c, B, m, d, t, g', A', n', c', B', m', d', rfl⟩ := hs.cells
    exact ⟨o, s, g, A, n, c, B, m, d, t, g', A', n', c', B', m', d', he, hs, hb⟩
theorem PcG.at {W : World} {g : Nat} {t : TypeId} {cs : Array Value} (hb : Blk W g t cs) (k : Nat) {o : Bool} {s1 : Int} {g1 : Bool} {A1 : Option Addr} {n1 c1 : Nat} {B1 : Option Addr} {m1 d1 : Nat} {N1 : Int} {o1 : Bool} {s2 : Int} {g2 : Bool} {A2 : Option Addr} {n2 c2 : Nat} {B2 : Option Addr} {m2 d2 : Nat} {N2 : Int} {o2 : Bool} {F : Int → Int → Int × Int}
    (h : PcW W o s1 g1 A1 n1 c1 B1 m1 d1 N1 o1 s2 g2 A2 n2 c2 B2 m2 d2 N2 o2 F)
    (hc : cs[k * 13]? = some (.bool o) ∧ cs[k * 13 + 1]? = some (.int .i64 s1) ∧ cs[k * 13 + 2]? = some (.bool g1) ∧ cs[k * 13 + 3]? = some (.slice A1 n1 c1) ∧ cs[k * 13 + 4]? = some (.slice B1 m1 d1) ∧ cs[k * 13 + 5]? = some (.int .i64 N1) ∧ cs[k * 13 + 6]? = some (.bool o1) ∧ cs[k * 13 + 7]? = some (.int .i64 s2) ∧ cs[k * 13 + 8]? = some (.bool g2) ∧ cs[k * 13 + 9]? = some (.slice A2 n2 c2) ∧ cs[k * 13 + 10]? = some (.slice B2 m2 d2) ∧ cs[k * 13 + 11]? = some (.int .i64 N2) ∧ cs[k * 13 + 12]? = some (.bool o2)) : PcG W ⟨g, 0, none⟩ k F :=
  PcG.of hb h fun i hi => by
    obtain ⟨c0, c1, c2, c3, c4, c5, c6, c7, c8, c9, c10, c11, c12⟩ := hc
    match i, hi with
    | 0, _ => exact c0 | 1, _ => exact c1 | 2, _ => exact c2 | 3, _ => exact c3 | 4, _ => exact c4 | 5, _ => exact c5 | 6, _ => exact c6 | 7, _ => exact c7 | 8, _ => exact c8 | 9, _ => exact c9 | 10, _ => exact c10 | 11, _ => exact c11 | 12, _ => exact c12
end Go.Proofs.YthlmlmfebpjgdaaGreatDoor

namespace Go.Proofs.YthlmlmfebpjgdaaGreatDoor
open Go.RowKit
set_option maxRecDepth 8000 in
theorem p6_zeroa (g1 : Bool) (A1 : Option Addr) (n1 c1 : Nat) (B1 : Option Addr) (m1 d1 : Nat) (g2 : Bool) (A2 : Option Addr) (n2 c2 : Nat) (B2 : Option Addr) (m2 d2 : Nat) (s1 s2 : Int) (w : World) (hS1 : ∀ W, Below w.heap.size w W → Calls Tryz.prog 152 #[.agg #[.int .i64 s1, .bool g1, .slice A1 n1 c1, .slice B1 m1 d1]] W fun e w' => e = .returned (.int .i64 0) ∧ Below W.heap.size W w') :
    Calls Tryz.prog 150 #[.agg #[.int .i64 s1, .bool g1, .slice A1 n1 c1, .slice B1 m1 d1], .agg #[.int .i64 s2, .bool g2, .slice A2 n2 c2, .slice B2 m2 d2]] w (NewEnd w 1 0 0) := by
  have HF := Lib.hid (show ∀ W, Calls Tryz.prog 153 #[.int .i64 0] W (NewEnd W 1 0 0) from fun W => finite_nat 0 W (by omega))
  have HS1 := Lib.hid hS1
  clear hS1
  have LL := li3 w #[.int .i64 s1, .bool g1, .slice A1 n1 c1, .slice B1 m1 d1] 87 #[.int .i64 s2, .bool g2, .slice A2 n2 c2, .slice B2 m2 d2] 87 #[.int .i64 0, .bool false, .slice none 0 0, .slice none 0 0] 87
  go_enter Tryz.func150, Tryz.ntmps150
  obtain ⟨q1_0, q1_1, q1_2, q1_3⟩ := (LL.out.blk 0 rfl).c4
  go_wp2_with fail
  refine (HS1.out _ LL.out.b).mono ?_
  rintro e wk ⟨rfl, hb⟩
  replace LL := stL LL hb
  clear hb q1_0 q1_1 q1_2 q1_3
  go_wp2_with fail
  refine (HF.out _).mono ?_
  rintro e wk ⟨g5, A5, n5, c5, B5, m5, d5, rfl, hr5, hb⟩
  replace LL := stL LL hb
  clear hb
  have HR5 := Lib.hid hr5
  clear hr5
  replace LL := Lib.hid (LL.out.loose 2 rfl rfl)
  simp only [List.eraseIdx, List.size_toArray, List.length_cons, List.length_nil, Nat.zero_add, Nat.reduceAdd] at LL
  have HRB := LL.out.has 0 rfl
  obtain ⟨ha4_0, hf4_0, ha4_1, hf4_1, ha4_2, hf4_2, ha4_3, hf4_3⟩ := (LL.out.has 0 rfl).sf4
  have LF := Lib.hid (LL.out.write [.int .i64 0, .bool g5, .slice A5 n5 c5, .slice B5 m5 d5] rfl (by omega) (by simp <;> omega) (by simp <;> omega))
  obtain ⟨hk4_0, hk4_1, hk4_2, hk4_3⟩ := (LF.out.blk 2 rfl).c4
  simp [sets] at hk4_0 hk4_1 hk4_2 hk4_3
  clear LL
  go_wp2
  refine bodyPost_ret (v := .agg #[.int .i64 0, .bool g5, .slice A5 n5 c5, .slice B5 m5 d5]) (by simp [results, Tryz.results150, go_sem, hk4_0, hk4_1, hk4_2, hk4_3]) rfl ?_
  exact ⟨g5, A5, n5, c5, B5, m5, d5, rfl, HRB.rat HR5.out [.int .i64 0, .bool g5, .slice A5 n5 c5, .slice B5 m5 d5], LF.out.b⟩
set_option maxRecDepth 8000 in
theorem p6_zerob (g1 : Bool) (A1 : Option Addr) (n1 c1 : Nat) (B1 : Option Addr) (m1 d1 : Nat) (g2 : Bool) (A2 : Option Addr) (n2 c2 : Nat) (B2 : Option Addr) (m2 d2 : Nat) (s1 s2 a1 : Int) (w : World) (hS1 : ∀ W, Below w.heap.size w W → Calls Tryz.prog 152 #[.agg #[.int .i64 s1, .bool g1, .slice A1 n1 c1, .slice B1 m1 d1]] W fun e w' => e = .returned (.int .i64 a1) ∧ Below W.heap.size W w') (hz : (a1 == 0) = false) (hS2 : ∀ W, Below w.heap.size w W → Calls Tryz.prog 152 #[.agg #[.int .i64 s2, .bool g2, .slice A2 n2 c2, .slice B2 m2 d2]] W fun e w' => e = .returned (.int .i64 0) ∧ Below W.heap.size W w') :
    Calls Tryz.prog 150 #[.agg #[.int .i64 s1, .bool g1, .slice A1 n1 c1, .slice B1 m1 d1], .agg #[.int .i64 s2, .bool g2, .slice A2 n2 c2, .slice B2 m2 d2]] w (NewEnd w 1 0 0) := by
  have HF := Lib.hid (show ∀ W, Calls Tryz.prog 153 #[.int .i64 0] W (NewEnd W 1 0 0) from fun W => finite_nat 0 W (by omega))
  have HS1 := Lib.hid hS1
  have HS2 := Lib.hid hS2
  clear hS1 hS2
  have LL := li3 w #[.int .i64 s1, .bool g1, .slice A1 n1 c1, .slice B1 m1 d1] 87 #[.int .i64 s2, .bool g2, .slice A2 n2 c2, .slice B2 m2 d2] 87 #[.int .i64 0, .bool false, .slice none 0 0, .slice none 0 0] 87
  go_enter Tryz.func150, Tryz.ntmps150
  obtain ⟨q1_0, q1_1, q1_2, q1_3⟩ := (LL.out.blk 0 rfl).c4
  go_wp2_with fail
  refine (HS1.out _ LL.out.b).mono ?_
  rintro e wk ⟨rfl, hb⟩
  replace LL := stL LL hb
  clear hb q1_0 q1_1 q1_2 q1_3
  obtain ⟨q2_0, q2_1, q2_2, q2_3⟩ := (LL.out.blk 1 rfl).c4
  go_wp2_with fail
  refine (HS2.out _ LL.out.b).mono ?_
  rintro e wk ⟨rfl, hb⟩
  replace LL := stL LL hb
  clear hb q2_0 q2_1 q2_2 q2_3 hz
  go_wp2_with fail
  refine (HF.out _).mono ?_
  rintro e wk ⟨g5, A5, n5, c5, B5, m5, d5, rfl, hr5, hb⟩
  replace LL := stL LL hb
  clear hb
  have HR5 := Lib.hid hr5
  clear hr5
  replace LL := Lib.hid (LL.out.loose 2 rfl rfl)
  simp only [List.eraseIdx, List.size_toArray, List.length_cons, List.length_nil, Nat.zero_add, Nat.reduceAdd] at LL
  have HRB := LL.out.has 0 rfl
  obtain ⟨ha4_0, hf4_0, ha4_1, hf4_1, ha4_2, hf4_2, ha4_3, hf4_3⟩ := (LL.out.has 0 rfl).sf4
  have LF := Lib.hid (LL.out.write [.int .i64 0, .bool g5, .slice A5 n5 c5, .slice B5 m5 d5] rfl (by omega) (by simp <;> omega) (by simp <;> omega))
  obtain ⟨hk4_0, hk4_1, hk4_2, hk4_3⟩ := (LF.out.blk 2 rfl).c4
  simp [sets] at hk4_0 hk4_1 hk4_2 hk4_3
  clear LL
  go_wp2
  refine bodyPost_ret (v := .agg #[.int .i64 0, .bool g5, .slice A5 n5 c5, .slice B5 m5 d5]) (by simp [results, Tryz.results150, go_sem, hk4_0, hk4_1, hk4_2, hk4_3]) rfl ?_
  exact ⟨g5, A5, n5, c5, B5, m5, d5, rfl, HRB.rat HR5.out [.int .i64 0, .bool g5, .slice A5 n5 c5, .slice B5 m5 d5], LF.out.b⟩
set_option maxRecDepth 8000 in
theorem p6_fara (g1 : Bool) (A1 : Option Addr) (n1 c1 : Nat) (B1 : Option Addr) (m1 d1 : Nat) (g2 : Bool) (A2 : Option Addr) (n2 c2 : Nat) (B2 : Option Addr) (m2 d2 : Nat) (s2 a1 a2 : Int) (w : World) (hS1 : ∀ W, Below w.heap.size w W → Calls Tryz.prog 152 #[.agg #[.int .i64 a1, .bool g1, .slice A1 n1 c1, .slice B1 m1 d1]] W fun e w' => e = .returned (.int .i64 a1) ∧ Below W.heap.size W w') (hS2 : ∀ W, Below w.heap.size w W → Calls Tryz.prog 152 #[.agg #[.int .i64 s2, .bool g2, .slice A2 n2 c2, .slice B2 m2 d2]] W fun e w' => e = .returned (.int .i64 a2) ∧ Below W.heap.size W w') (h1 : a1 = 1 ∨ a1 = -1) (h2 : a2 = 1 ∨ a2 = -1) :
    Calls Tryz.prog 150 #[.agg #[.int .i64 a1, .bool g1, .slice A1 n1 c1, .slice B1 m1 d1], .agg #[.int .i64 s2, .bool g2, .slice A2 n2 c2, .slice B2 m2 d2]] w (NewEnd w 1 (a1 * a2) 0) := by
  have HI := Lib.hid (show ∀ W, Calls Tryz.prog 51 #[.int .i64 0] W (NewRatS W 1 0) from fun W => (int_nat 0 W (by omega)).mono fun _ _ h => h.s)
  have wr1 : IntKind.i64.wrap 1 = 1 := by decide
  have wr2 : IntKind.i64.wrap (-1) = -1 := by decide
  have HS1 := Lib.hid hS1
  have HS2 := Lib.hid hS2
  clear hS1 hS2
  have LL := li3 w #[.int .i64 a1, .bool g1, .slice A1 n1 c1, .slice B1 m1 d1] 87 #[.int .i64 s2, .bool g2, .slice A2 n2 c2, .slice B2 m2 d2] 87 #[.int .i64 0, .bool false, .slice none 0 0, .slice none 0 0] 87
  rcases (show (a1 = 1 ∧ a2 = 1 ∨ a1 = -1 ∧ a2 = -1) ∨ (a1 = 1 ∧ a2 = -1 ∨ a1 = -1 ∧ a2 = 1) by omega) with h | h <;> clear h1 h2
  · rcases h with ⟨rfl, rfl⟩ | ⟨rfl, rfl⟩
    all_goals
      go_enter Tryz.func150, Tryz.ntmps150
      obtain ⟨q1_0, q1_1, q1_2, q1_3⟩ := (LL.out.blk 0 rfl).c4
      go_wp2_with fail
      refine (HS1.out _ LL.out.b).mono ?_
      rintro e wk ⟨rfl, hb⟩
      replace LL := stL LL hb
      clear hb q1_0 q1_1 q1_2 q1_3
      obtain ⟨q2_0, q2_1, q2_2, q2_3⟩ := (LL.out.blk 0 rfl).c4
      obtain ⟨q3_0, q3_1, q3_2, q3_3⟩ := (LL.out.blk 1 rfl).c4
      go_wp2_with fail
      refine (HS2.out _ LL.out.b).mono ?_
      rintro e wk ⟨rfl, hb⟩
      replace LL := stL LL hb
      clear hb q2_0 q2_1 q2_2 q2_3 q3_0 q3_1 q3_2 q3_3
      obtain ⟨q4_0, q4_1, q4_2, q4_3⟩ := (LL.out.blk 0 rfl).c4
      obtain ⟨q5_0, q5_1, q5_2, q5_3⟩ := (LL.out.blk 1 rfl).c4
      go_wp2_with fail
      clear q4_0 q4_1 q4_2 q4_3 q5_0 q5_1 q5_2 q5_3
      replace LL := Lib.hid (LL.out.loose 2 rfl rfl)
      simp only [List.eraseIdx, List.size_toArray, List.length_cons, List.length_nil, Nat.zero_add, Nat.reduceAdd] at LL
      refine regL LL (fun hHeld => ?_)
      clear LL
      generalize World.drew _ = wk at hHeld  ⊢
      refine tk 0 ?_ (hv := by intro W2 hSw; obtain ⟨q0, q1, q2, q3⟩ := (hSw.blk 0 rfl).c4; go_simp; (try with_reducible rfl))
      try simp only [Act.put, lay]
      refine tk 2 ?_ (hv := by intro W2 hSw; obtain ⟨q0, q1, q2, q3⟩ := (hSw.blk 1 rfl).c4; go_simp; (try with_reducible rfl))
      try simp only [Act.put, lay]
      refine rdy 1 (fun KK hKK => ?_)
      go_simp
      refine (HS1.out _ hHeld.b).mono ?_
      rintro e wk ⟨rfl, hb1⟩
      go_wp2_with fail
      refine hKK.out _ _ (hHeld.keep hb1) (fun _ => ?_)
      clear hKK KK hHeld
      rename_i hHeld
      try simp only [Act.put, lay]
      (try replace HR5 := Lib.hid (HR5.out.below hb1))
      clear hb1
      refine rdy 3 (fun KK hKK => ?_)
      go_simp
      refine (HS2.out _ hHeld.b).mono ?_
      rintro e wk ⟨rfl, hb2⟩
      go_wp2_with fail
      refine hKK.out _ _ (hHeld.keep hb2) (fun _ => ?_)
      clear hKK KK hHeld
      rename_i hHeld
      try simp only [Act.put, lay]
      (try replace HR5 := Lib.hid (HR5.out.below hb2))
      clear hb2
      refine tk 4 ?_
      try simp only [Act.put, lay]
      refine rdy 5 (fun KK hKK => ?_)
      go_simp
      refine (HI.out _).mono ?_
      rintro e wk ⟨g5, A5, n5, c5, B5, m5, d5, rfl, hr5, hb3⟩
      go_wp2_with fail
      refine hKK.out _ _ (hHeld.keep hb3) (fun _ => ?_)
      clear hKK KK hHeld
      rename_i hHeld
      try simp only [Act.put, lay]
      have HR5 := Lib.hid hr5
      clear hr5
      clear hb3
      refine tk 6 ?_
      try simp only [Act.put, lay]
      refine rdy 7 (fun KK hKK => ?_)
      obtain ⟨ha0, hf0, ha1, hf1, ha2, hf2, ha3, hf3⟩ := (hHeld.has 0 rfl).sf4
      obtain ⟨csx, hbx, -, hcx⟩ := hHeld.has 0 rfl
      replace HR5 := Lib.hid (HR5.out.sets hbx hcx 0 [.int .i64 1, .bool g5, .slice A5 n5 c5, .slice B5 m5 d5])
      clear hbx hcx
      go_simp
      have HS_0 := (hHeld.has 0 rfl).laid [.int .i64 1, .bool g5, .slice A5 n5 c5, .slice B5 m5 d5] rfl
      refine hKK.out _ _ (hHeld.over 0 rfl [.int .i64 1, .bool g5, .slice A5 n5 c5, .slice B5 m5 d5] rfl rfl (by first | omega | exact hHeld.le_of 0 rfl) (by simp <;> omega) (by simp <;> omega)) (fun _ => ?_)
      clear hKK KK hHeld
      rename_i hHeld
      try simp only [Act.put, lay]
      refine wpAnyH_done (by kernel_rfl) ?_ _
      have LB := Lib.hid hHeld.b
      clear hHeld
      obtain ⟨hk4_0, hk4_1, hk4_2, hk4_3⟩ := HS_0.c4
      clear HS_0
      simp [sets] at hk4_0 hk4_1 hk4_2 hk4_3
      go_wp2
      refine bodyPost_ret (v := .agg #[.int .i64 1, .bool g5, .slice A5 n5 c5, .slice B5 m5 d5]) (by simp [results, Tryz.results150, go_sem, hk4_0, hk4_1, hk4_2, hk4_3]) rfl ?_
      exact ⟨g5, A5, n5, c5, B5, m5, d5, rfl, HR5.out, LB.out⟩
  · rcases h with ⟨rfl, rfl⟩ | ⟨rfl, rfl⟩
    all_goals
      go_enter Tryz.func150, Tryz.ntmps150
      obtain ⟨q1_0, q1_1, q1_2, q1_3⟩ := (LL.out.blk 0 rfl).c4
      go_wp2_with fail
      refine (HS1.out _ LL.out.b).mono ?_
      rintro e wk ⟨rfl, hb⟩
      replace LL := stL LL hb
      clear hb q1_0 q1_1 q1_2 q1_3
      obtain ⟨q2_0, q2_1, q2_2, q2_3⟩ := (LL.out.blk 0 rfl).c4
      obtain ⟨q3_0, q3_1, q3_2, q3_3⟩ := (LL.out.blk 1 rfl).c4
      go_wp2_with fail
      refine (HS2.out _ LL.out.b).mono ?_
      rintro e wk ⟨rfl, hb⟩
      replace LL := stL LL hb
      clear hb q2_0 q2_1 q2_2 q2_3 q3_0 q3_1 q3_2 q3_3
      obtain ⟨q4_0, q4_1, q4_2, q4_3⟩ := (LL.out.blk 0 rfl).c4
      obtain ⟨q5_0, q5_1, q5_2, q5_3⟩ := (LL.out.blk 1 rfl).c4
      go_wp2_with fail
      clear q4_0 q4_1 q4_2 q4_3 q5_0 q5_1 q5_2 q5_3
      replace LL := Lib.hid (LL.out.loose 2 rfl rfl)
      simp only [List.eraseIdx, List.size_toArray, List.length_cons, List.length_nil, Nat.zero_add, Nat.reduceAdd] at LL
      refine regL LL (fun hHeld => ?_)
      clear LL
      generalize World.drew _ = wk at hHeld  ⊢
      refine tk 0 ?_ (hv := by intro W2 hSw; obtain ⟨q0, q1, q2, q3⟩ := (hSw.blk 0 rfl).c4; go_simp; (try with_reducible rfl))
      try simp only [Act.put, lay]
      refine tk 2 ?_ (hv := by intro W2 hSw; obtain ⟨q0, q1, q2, q3⟩ := (hSw.blk 1 rfl).c4; go_simp; (try with_reducible rfl))
      try simp only [Act.put, lay]
      refine rdy 1 (fun KK hKK => ?_)
      go_simp
      refine (HS1.out _ hHeld.b).mono ?_
      rintro e wk ⟨rfl, hb1⟩
      go_wp2_with fail
      refine hKK.out _ _ (hHeld.keep hb1) (fun _ => ?_)
      clear hKK KK hHeld
      rename_i hHeld
      try simp only [Act.put, lay]
      (try replace HR5 := Lib.hid (HR5.out.below hb1))
      clear hb1
      refine rdy 3 (fun KK hKK => ?_)
      go_simp
      refine (HS2.out _ hHeld.b).mono ?_
      rintro e wk ⟨rfl, hb2⟩
      go_wp2_with fail
      refine hKK.out _ _ (hHeld.keep hb2) (fun _ => ?_)
      clear hKK KK hHeld
      rename_i hHeld
      try simp only [Act.put, lay]
      (try replace HR5 := Lib.hid (HR5.out.below hb2))
      clear hb2
      refine tk 4 ?_
      try simp only [Act.put, lay]
      refine rdy 5 (fun KK hKK => ?_)
      go_simp
      refine (HI.out _).mono ?_
      rintro e wk ⟨g5, A5, n5, c5, B5, m5, d5, rfl, hr5, hb3⟩
      go_wp2_with fail
      refine hKK.out _ _ (hHeld.keep hb3) (fun _ => ?_)
      clear hKK KK hHeld
      rename_i hHeld
      try simp only [Act.put, lay]
      have HR5 := Lib.hid hr5
      clear hr5
      clear hb3
      refine tk 6 ?_
      try simp only [Act.put, lay]
      refine rdy 7 (fun KK hKK => ?_)
      obtain ⟨ha0, hf0, ha1, hf1, ha2, hf2, ha3, hf3⟩ := (hHeld.has 0 rfl).sf4
      obtain ⟨csx, hbx, -, hcx⟩ := hHeld.has 0 rfl
      replace HR5 := Lib.hid (HR5.out.sets hbx hcx 0 [.int .i64 (-1), .bool g5, .slice A5 n5 c5, .slice B5 m5 d5])
      clear hbx hcx
      go_simp
      have HS_0 := (hHeld.has 0 rfl).laid [.int .i64 (-1), .bool g5, .slice A5 n5 c5, .slice B5 m5 d5] rfl
      refine hKK.out _ _ (hHeld.over 0 rfl [.int .i64 (-1), .bool g5, .slice A5 n5 c5, .slice B5 m5 d5] rfl rfl (by first | omega | exact hHeld.le_of 0 rfl) (by simp <;> omega) (by simp <;> omega)) (fun _ => ?_)
      clear hKK KK hHeld
      rename_i hHeld
      try simp only [Act.put, lay]
      refine wpAnyH_done (by kernel_rfl) ?_ _
      have LB := Lib.hid hHeld.b
      clear hHeld
      obtain ⟨hk4_0, hk4_1, hk4_2, hk4_3⟩ := HS_0.c4
      clear HS_0
      simp [sets] at hk4_0 hk4_1 hk4_2 hk4_3
      go_wp2
      refine bodyPost_ret (v := .agg #[.int .i64 (-1), .bool g5, .slice A5 n5 c5, .slice B5 m5 d5]) (by simp [results, Tryz.results150, go_sem, hk4_0, hk4_1, hk4_2, hk4_3]) rfl ?_
      exact ⟨g5, A5, n5, c5, B5, m5, d5, rfl, HR5.out, LB.out⟩
set_option maxRecDepth 8000 in
theorem p6_farb (g1 : Bool) (A1 : Option Addr) (n1 c1 : Nat) (B1 : Option Addr) (m1 d1 : Nat) (g2 : Bool) (A2 : Option Addr) (n2 c2 : Nat) (B2 : Option Addr) (m2 d2 : Nat) (a1 a2 : Int) (w : World) (hS1 : ∀ W, Below w.heap.size w W → Calls Tryz.prog 152 #[.agg #[.int .i64 0, .bool g1, .slice A1 n1 c1, .slice B1 m1 d1]] W fun e w' => e = .returned (.int .i64 a1) ∧ Below W.heap.size W w') (hS2 : ∀ W, Below w.heap.size w W → Calls Tryz.prog 152 #[.agg #[.int .i64 a2, .bool g2, .slice A2 n2 c2, .slice B2 m2 d2]] W fun e w' => e = .returned (.int .i64 a2) ∧ Below W.heap.size W w') (h1 : a1 = 1 ∨ a1 = -1) (h2 : a2 = 1 ∨ a2 = -1) :
    Calls Tryz.prog 150 #[.agg #[.int .i64 0, .bool g1, .slice A1 n1 c1, .slice B1 m1 d1], .agg #[.int .i64 a2, .bool g2, .slice A2 n2 c2, .slice B2 m2 d2]] w (NewEnd w 1 (a1 * a2) 0) := by
  have HI := Lib.hid (show ∀ W, Calls Tryz.prog 51 #[.int .i64 0] W (NewRatS W 1 0) from fun W => (int_nat 0 W (by omega)).mono fun _ _ h => h.s)
  have wr1 : IntKind.i64.wrap 1 = 1 := by decide
  have wr2 : IntKind.i64.wrap (-1) = -1 := by decide
  have HS1 := Lib.hid hS1
  have HS2 := Lib.hid hS2
  clear hS1 hS2
  have LL := li3 w #[.int .i64 0, .bool g1, .slice A1 n1 c1, .slice B1 m1 d1] 87 #[.int .i64 a2, .bool g2, .slice A2 n2 c2, .slice B2 m2 d2] 87 #[.int .i64 0, .bool false, .slice none 0 0, .slice none 0 0] 87
  rcases (show (a1 = 1 ∧ a2 = 1 ∨ a1 = -1 ∧ a2 = -1) ∨ (a1 = 1 ∧ a2 = -1 ∨ a1 = -1 ∧ a2 = 1) by omega) with h | h <;> clear h1 h2
  · rcases h with ⟨rfl, rfl⟩ | ⟨rfl, rfl⟩
    all_goals
      go_enter Tryz.func150, Tryz.ntmps150
      obtain ⟨q1_0, q1_1, q1_2, q1_3⟩ := (LL.out.blk 0 rfl).c4
      go_wp2_with fail
      refine (HS1.out _ LL.out.b).mono ?_
      rintro e wk ⟨rfl, hb⟩
      replace LL := stL LL hb
      clear hb q1_0 q1_1 q1_2 q1_3
      obtain ⟨q2_0, q2_1, q2_2, q2_3⟩ := (LL.out.blk 0 rfl).c4
      obtain ⟨q3_0, q3_1, q3_2, q3_3⟩ := (LL.out.blk 1 rfl).c4
      go_wp2_with fail
      refine (HS2.out _ LL.out.b).mono ?_
      rintro e wk ⟨rfl, hb⟩
      replace LL := stL LL hb
      clear hb q2_0 q2_1 q2_2 q2_3 q3_0 q3_1 q3_2 q3_3
      obtain ⟨q4_0, q4_1, q4_2, q4_3⟩ := (LL.out.blk 0 rfl).c4
      obtain ⟨q5_0, q5_1, q5_2, q5_3⟩ := (LL.out.blk 1 rfl).c4
      go_wp2_with fail
      clear q4_0 q4_1 q4_2 q4_3 q5_0 q5_1 q5_2 q5_3
      replace LL := Lib.hid (LL.out.loose 2 rfl rfl)
      simp only [List.eraseIdx, List.size_toArray, List.length_cons, List.length_nil, Nat.zero_add, Nat.reduceAdd] at LL
      refine regL LL (fun hHeld => ?_)
      clear LL
      generalize World.drew _ = wk at hHeld  ⊢
      refine tk 0 ?_ (hv := by intro W2 hSw; obtain ⟨q0, q1, q2, q3⟩ := (hSw.blk 0 rfl).c4; go_simp; (try with_reducible rfl))
      try simp only [Act.put, lay]
      refine tk 2 ?_ (hv := by intro W2 hSw; obtain ⟨q0, q1, q2, q3⟩ := (hSw.blk 1 rfl).c4; go_simp; (try with_reducible rfl))
      try simp only [Act.put, lay]
      refine rdy 1 (fun KK hKK => ?_)
      go_simp
      refine (HS1.out _ hHeld.b).mono ?_
      rintro e wk ⟨rfl, hb1⟩
      go_wp2_with fail
      refine hKK.out _ _ (hHeld.keep hb1) (fun _ => ?_)
      clear hKK KK hHeld
      rename_i hHeld
      try simp only [Act.put, lay]
      (try replace HR5 := Lib.hid (HR5.out.below hb1))
      clear hb1
      refine rdy 3 (fun KK hKK => ?_)
      go_simp
      refine (HS2.out _ hHeld.b).mono ?_
      rintro e wk ⟨rfl, hb2⟩
      go_wp2_with fail
      refine hKK.out _ _ (hHeld.keep hb2) (fun _ => ?_)
      clear hKK KK hHeld
      rename_i hHeld
      try simp only [Act.put, lay]
      (try replace HR5 := Lib.hid (HR5.out.below hb2))
      clear hb2
      refine tk 4 ?_
      try simp only [Act.put, lay]
      refine rdy 5 (fun KK hKK => ?_)
      go_simp
      refine (HI.out _).mono ?_
      rintro e wk ⟨g5, A5, n5, c5, B5, m5, d5, rfl, hr5, hb3⟩
      go_wp2_with fail
      refine hKK.out _ _ (hHeld.keep hb3) (fun _ => ?_)
      clear hKK KK hHeld
      rename_i hHeld
      try simp only [Act.put, lay]
      have HR5 := Lib.hid hr5
      clear hr5
      clear hb3
      refine tk 6 ?_
      try simp only [Act.put, lay]
      refine rdy 7 (fun KK hKK => ?_)
      obtain ⟨ha0, hf0, ha1, hf1, ha2, hf2, ha3, hf3⟩ := (hHeld.has 0 rfl).sf4
      obtain ⟨csx, hbx, -, hcx⟩ := hHeld.has 0 rfl
      replace HR5 := Lib.hid (HR5.out.sets hbx hcx 0 [.int .i64 1, .bool g5, .slice A5 n5 c5, .slice B5 m5 d5])
      clear hbx hcx
      go_simp
      have HS_0 := (hHeld.has 0 rfl).laid [.int .i64 1, .bool g5, .slice A5 n5 c5, .slice B5 m5 d5] rfl
      refine hKK.out _ _ (hHeld.over 0 rfl [.int .i64 1, .bool g5, .slice A5 n5 c5, .slice B5 m5 d5] rfl rfl (by first | omega | exact hHeld.le_of 0 rfl) (by simp <;> omega) (by simp <;> omega)) (fun _ => ?_)
      clear hKK KK hHeld
      rename_i hHeld
      try simp only [Act.put, lay]
      refine wpAnyH_done (by kernel_rfl) ?_ _
      have LB := Lib.hid hHeld.b
      clear hHeld
      obtain ⟨hk4_0, hk4_1, hk4_2, hk4_3⟩ := HS_0.c4
      clear HS_0
      simp [sets] at hk4_0 hk4_1 hk4_2 hk4_3
      go_wp2
      refine bodyPost_ret (v := .agg #[.int .i64 1, .bool g5, .slice A5 n5 c5, .slice B5 m5 d5]) (by simp [results, Tryz.results150, go_sem, hk4_0, hk4_1, hk4_2, hk4_3]) rfl ?_
      exact ⟨g5, A5, n5, c5, B5, m5, d5, rfl, HR5.out, LB.out⟩
  · rcases h with ⟨rfl, rfl⟩ | ⟨rfl, rfl⟩
    all_goals
      go_enter Tryz.func150, Tryz.ntmps150
      obtain ⟨q1_0, q1_1, q1_2, q1_3⟩ := (LL.out.blk 0 rfl).c4
      go_wp2_with fail
      refine (HS1.out _ LL.out.b).mono ?_
      rintro e wk ⟨rfl, hb⟩
      replace LL := stL LL hb
      clear hb q1_0 q1_1 q1_2 q1_3
      obtain ⟨q2_0, q2_1, q2_2, q2_3⟩ := (LL.out.blk 0 rfl).c4
      obtain ⟨q3_0, q3_1, q3_2, q3_3⟩ := (LL.out.blk 1 rfl).c4
      go_wp2_with fail
      refine (HS2.out _ LL.out.b).mono ?_
      rintro e wk ⟨rfl, hb⟩
      replace LL := stL LL hb
      clear hb q2_0 q2_1 q2_2 q2_3 q3_0 q3_1 q3_2 q3_3
      obtain ⟨q4_0, q4_1, q4_2, q4_3⟩ := (LL.out.blk 0 rfl).c4
      obtain ⟨q5_0, q5_1, q5_2, q5_3⟩ := (LL.out.blk 1 rfl).c4
      go_wp2_with fail
      clear q4_0 q4_1 q4_2 q4_3 q5_0 q5_1 q5_2 q5_3
      replace LL := Lib.hid (LL.out.loose 2 rfl rfl)
      simp only [List.eraseIdx, List.size_toArray, List.length_cons, List.length_nil, Nat.zero_add, Nat.reduceAdd] at LL
      refine regL LL (fun hHeld => ?_)
      clear LL
      generalize World.drew _ = wk at hHeld  ⊢
      refine tk 0 ?_ (hv := by intro W2 hSw; obtain ⟨q0, q1, q2, q3⟩ := (hSw.blk 0 rfl).c4; go_simp; (try with_reducible rfl))
      try simp only [Act.put, lay]
      refine tk 2 ?_ (hv := by intro W2 hSw; obtain ⟨q0, q1, q2, q3⟩ := (hSw.blk 1 rfl).c4; go_simp; (try with_reducible rfl))
      try simp only [Act.put, lay]
      refine rdy 1 (fun KK hKK => ?_)
      go_simp
      refine (HS1.out _ hHeld.b).mono ?_
      rintro e wk ⟨rfl, hb1⟩
      go_wp2_with fail
      refine hKK.out _ _ (hHeld.keep hb1) (fun _ => ?_)
      clear hKK KK hHeld
      rename_i hHeld
      try simp only [Act.put, lay]
      (try replace HR5 := Lib.hid (HR5.out.below hb1))
      clear hb1
      refine rdy 3 (fun KK hKK => ?_)
      go_simp
      refine (HS2.out _ hHeld.b).mono ?_
      rintro e wk ⟨rfl, hb2⟩
      go_wp2_with fail
      refine hKK.out _ _ (hHeld.keep hb2) (fun _ => ?_)
      clear hKK KK hHeld
      rename_i hHeld
      try simp only [Act.put, lay]
      (try replace HR5 := Lib.hid (HR5.out.below hb2))
      clear hb2
      refine tk 4 ?_
      try simp only [Act.put, lay]
      refine rdy 5 (fun KK hKK => ?_)
      go_simp
      refine (HI.out _).mono ?_
      rintro e wk ⟨g5, A5, n5, c5, B5, m5, d5, rfl, hr5, hb3⟩
      go_wp2_with fail
      refine hKK.out _ _ (hHeld.keep hb3) (fun _ => ?_)
      clear hKK KK hHeld
      rename_i hHeld
      try simp only [Act.put, lay]
      have HR5 := Lib.hid hr5
      clear hr5
      clear hb3
      refine tk 6 ?_
      try simp only [Act.put, lay]
      refine rdy 7 (fun KK hKK => ?_)
      obtain ⟨ha0, hf0, ha1, hf1, ha2, hf2, ha3, hf3⟩ := (hHeld.has 0 rfl).sf4
      obtain ⟨csx, hbx, -, hcx⟩ := hHeld.has 0 rfl
      replace HR5 := Lib.hid (HR5.out.sets hbx hcx 0 [.int .i64 (-1), .bool g5, .slice A5 n5 c5, .slice B5 m5 d5])
      clear hbx hcx
      go_simp
      have HS_0 := (hHeld.has 0 rfl).laid [.int .i64 (-1), .bool g5, .slice A5 n5 c5, .slice B5 m5 d5] rfl
      refine hKK.out _ _ (hHeld.over 0 rfl [.int .i64 (-1), .bool g5, .slice A5 n5 c5, .slice B5 m5 d5] rfl rfl (by first | omega | exact hHeld.le_of 0 rfl) (by simp <;> omega) (by simp <;> omega)) (fun _ => ?_)
      clear hKK KK hHeld
      rename_i hHeld
      try simp only [Act.put, lay]
      refine wpAnyH_done (by kernel_rfl) ?_ _
      have LB := Lib.hid hHeld.b
      clear hHeld
      obtain ⟨hk4_0, hk4_1, hk4_2, hk4_3⟩ := HS_0.c4
      clear HS_0
      simp [sets] at hk4_0 hk4_1 hk4_2 hk4_3
      go_wp2
      refine bodyPost_ret (v := .agg #[.int .i64 (-1), .bool g5, .slice A5 n5 c5, .slice B5 m5 d5]) (by simp [results, Tryz.results150, go_sem, hk4_0, hk4_1, hk4_2, hk4_3]) rfl ?_
      exact ⟨g5, A5, n5, c5, B5, m5, d5, rfl, HR5.out, LB.out⟩
set_option maxRecDepth 8000 in
theorem p6_fin (g1 : Bool) (A1 : Option Addr) (n1 c1 : Nat) (B1 : Option Addr) (m1 d1 : Nat) (g2 : Bool) (A2 : Option Addr) (n2 c2 : Nat) (B2 : Option Addr) (m2 d2 : Nat) (a1 a2 : Int) (K : Nat) (x : Rat) (w : World) (hS1 : ∀ W, Below w.heap.size w W → Calls Tryz.prog 152 #[.agg #[.int .i64 0, .bool g1, .slice A1 n1 c1, .slice B1 m1 d1]] W fun e w' => e = .returned (.int .i64 a1) ∧ Below W.heap.size W w') (hz : (a1 == 0) = false) (hS2 : ∀ W, Below w.heap.size w W → Calls Tryz.prog 152 #[.agg #[.int .i64 0, .bool g2, .slice A2 n2 c2, .slice B2 m2 d2]] W fun e w' => e = .returned (.int .i64 a2) ∧ Below W.heap.size W w') (hz2 : (a2 == 0) = false) (hM : ∀ W, Below w.heap.size w W → Calls Tryz.prog 36 #[.agg #[.bool g1, .slice A1 n1 c1, .slice B1 m1 d1], .agg #[.bool g2, .slice A2 n2 c2, .slice B2 m2 d2]] W (NewRatS W K x)) :
    Calls Tryz.prog 150 #[.agg #[.int .i64 0, .bool g1, .slice A1 n1 c1, .slice B1 m1 d1], .agg #[.int .i64 0, .bool g2, .slice A2 n2 c2, .slice B2 m2 d2]] w (NewEnd w K 0 x) := by
  have HS1 := Lib.hid hS1
  have HS2 := Lib.hid hS2
  have HM := Lib.hid hM
  clear hS1 hS2 hM
  have LL := li3 w #[.int .i64 0, .bool g1, .slice A1 n1 c1, .slice B1 m1 d1] 87 #[.int .i64 0, .bool g2, .slice A2 n2 c2, .slice B2 m2 d2] 87 #[.int .i64 0, .bool false, .slice none 0 0, .slice none 0 0] 87
  go_enter Tryz.func150, Tryz.ntmps150
  obtain ⟨q1_0, q1_1, q1_2, q1_3⟩ := (LL.out.blk 0 rfl).c4
  go_wp2_with fail
  refine (HS1.out _ LL.out.b).mono ?_
  rintro e wk ⟨rfl, hb⟩
  replace LL := stL LL hb
  clear hb q1_0 q1_1 q1_2 q1_3
  obtain ⟨q2_0, q2_1, q2_2, q2_3⟩ := (LL.out.blk 0 rfl).c4
  obtain ⟨q3_0, q3_1, q3_2, q3_3⟩ := (LL.out.blk 1 rfl).c4
  go_wp2_with fail
  refine (HS2.out _ LL.out.b).mono ?_
  rintro e wk ⟨rfl, hb⟩
  replace LL := stL LL hb
  clear hb q2_0 q2_1 q2_2 q2_3 q3_0 q3_1 q3_2 q3_3 hz
  obtain ⟨q4_0, q4_1, q4_2, q4_3⟩ := (LL.out.blk 0 rfl).c4
  obtain ⟨q5_0, q5_1, q5_2, q5_3⟩ := (LL.out.blk 1 rfl).c4
  go_wp2_with fail
  refine (HM.out _ LL.out.b).mono ?_
  rintro e wk ⟨g5, A5, n5, c5, B5, m5, d5, rfl, hr5, hb⟩
  replace LL := stL LL hb
  clear hb q4_0 q4_1 q4_2 q4_3 q5_0 q5_1 q5_2 q5_3 hz2
  have HR5 := Lib.hid hr5
  clear hr5
  replace LL := Lib.hid (LL.out.loose 2 rfl rfl)
  simp only [List.eraseIdx, List.size_toArray, List.length_cons, List.length_nil, Nat.zero_add, Nat.reduceAdd] at LL
  have HRB := LL.out.has 0 rfl
  obtain ⟨ha4_0, hf4_0, ha4_1, hf4_1, ha4_2, hf4_2, ha4_3, hf4_3⟩ := (LL.out.has 0 rfl).sf4
  have LF := Lib.hid (LL.out.write [.int .i64 0, .bool g5, .slice A5 n5 c5, .slice B5 m5 d5] rfl (by omega) (by simp <;> omega) (by simp <;> omega))
  obtain ⟨hk4_0, hk4_1, hk4_2, hk4_3⟩ := (LF.out.blk 2 rfl).c4
  simp [sets] at hk4_0 hk4_1 hk4_2 hk4_3
  clear LL
  go_wp2
  refine bodyPost_ret (v := .agg #[.int .i64 0, .bool g5, .slice A5 n5 c5, .slice B5 m5 d5]) (by simp [results, Tryz.results150, go_sem, hk4_0, hk4_1, hk4_2, hk4_3]) rfl ?_
  exact ⟨g5, A5, n5, c5, B5, m5, d5, rfl, HRB.rat HR5.out [.int .i64 0, .bool g5, .slice A5 n5 c5, .slice B5 m5 d5], LF.out.b⟩
end Go.Proofs.YthlmlmfebpjgdaaGreatDoor

namespace Go.Proofs.YthlmlmfebpjgdaaGreatDoor
open Go.RowKit
def pq (a b : Int) : Int × Rat := if a = 0 ∨ b = 0 then (0, 0) else if es a ≠ 0 ∨ es b ≠ 0 then ((if 0 < a then 1 else -1) * (if 0 < b then 1 else -1), 0) else (0, fl a * fl b)
def eL (a b : Int × Rat) : Int × Rat := if ec b.1 b.2 a.1 a.2 < 0 then b else a
def eG (a b : Int × Rat) : Int × Rat := if 0 < ec b.1 b.2 a.1 a.2 then b else a
theorem NewEnd.up2 {w w' : World} {K K' : Nat} {s : Int} {x : Rat} {e : Ending} (h : NewEnd w K s x e w') (hk : K ≤ K') : NewEnd w K' s x e w' := by
  obtain ⟨g, A, n, c, B, m, d, rfl, h1, hb⟩ := h
  exact ⟨g, A, n, c, B, m, d, rfl, h1.mono hk, hb⟩
theorem esx_sgn {i : Int} (h : -(M : Int) ≤ i ∧ i ≤ M) : esx (es i) (ex i) = if 0 < i then 1 else if i < 0 then -1 else 0 := by
  have k := esx_idx h
  have r : -1 ≤ esx (es i) (ex i) ∧ esx (es i) (ex i) ≤ 1 := by
    unfold esx es rsg
    split <;> (repeat' split) <;> omega
  split
  · omega
  · split <;> omega
theorem esx_inf {i : Int} (h : es i ≠ 0) : esx (es i) (ex i) = es i := if_pos h
theorem p6_any (a b : Int) (g1 : Bool) (A1 : Option Addr) (n1 c1 : Nat) (B1 : Option Addr) (m1 d1 : Nat) (g2 : Bool) (A2 : Option Addr) (n2 c2 : Nat) (B2 : Option Addr) (m2 d2 : Nat) (w : World) (h1 : RatV w 34 g1 (.slice A1 n1 c1) (.slice B1 m1 d1) (ex a)) (h2 : RatV w 34 g2 (.slice A2 n2 c2) (.slice B2 m2 d2) (ex b)) (ha : -(M : Int) ≤ a ∧ a ≤ M) (hb : -(M : Int) ≤ b ∧ b ≤ M) :
    Calls Tryz.prog 150 #[.agg #[.int .i64 (es a), .bool g1, .slice A1 n1 c1, .slice B1 m1 d1], .agg #[.int .i64 (es b), .bool g2, .slice A2 n2 c2, .slice B2 m2 d2]] w (NewEnd w 68 (pq a b).1 (pq a b).2) := by
  have S1 := fun W (hW : Below w.heap.size w W) => sign6_any 34 (es a) g1 A1 n1 c1 B1 m1 d1 (ex a) W (h1.below hW) (by omega)
  have S2 := fun W (hW : Below w.heap.size w W) => sign6_any 34 (es b) g2 A2 n2 c2 B2 m2 d2 (ex b) W (h2.below hW) (by omega)
  have v1 := esx_sgn ha
  have v2 := esx_sgn hb
  by_cases z1 : a = 0
  · have e : pq a b = (0, 0) := if_pos (.inl z1)
    rw [if_neg (by omega), if_neg (by omega)] at v1
    rw [v1] at S1
    rw [e]
    exact (p6_zeroa _ _ _ _ _ _ _ _ _ _ _ _ _ _ _ _ w S1).mono fun _ _ h => h.up2 (by omega)
  · have w1 : esx (es a) (ex a) = if 0 < a then 1 else -1 := by
      rw [v1]
      by_cases p : 0 < a
      · rw [if_pos p, if_pos p]
      · rw [if_neg p, if_neg p, if_pos (by omega)]
    have o1 : esx (es a) (ex a) = 1 ∨ esx (es a) (ex a) = -1 := by rw [w1]; split <;> omega
    have hz : (esx (es a) (ex a) == 0) = false := by rcases o1 with o | o <;> rw [o] <;> rfl
    by_cases z2 : b = 0
    · have e : pq a b = (0, 0) := if_pos (.inr z2)
      rw [if_neg (by omega), if_neg (by omega)] at v2
      rw [v2] at S2
      rw [e]
      exact (p6_zerob _ _ _ _ _ _ _ _ _ _ _ _ _ _ _ _ _ w S1 hz S2).mono fun _ _ h => h.up2 (by omega)
    · have w2 : esx (es b) (ex b) = if 0 < b then 1 else -1 := by
        rw [v2]
        by_cases p : 0 < b
        · rw [if_pos p, if_pos p]
        · rw [if_neg p, if_neg p, if_pos (by omega)]
      have o2 : esx (es b) (ex b) = 1 ∨ esx (es b) (ex b) = -1 := by rw [w2]; split <;> omega
      have hz2 : (esx (es b) (ex b) == 0) = false := by rcases o2 with o | o <;> rw [o] <;> rfl
      by_cases k : es a ≠ 0 ∨ es b ≠ 0
      · have e : pq a b = (esx (es a) (ex a) * esx (es b) (ex b), 0) := by
          unfold pq
          rw [if_neg (by omega), if_pos k, w1, w2]
        rw [e]
        by_cases k1 : es a = 0
        · have k2 : es b ≠ 0 := by rcases k with k | k; exact absurd k1 k; exact k
          rw [k1] at S1
          rw [k1] at o1 w1 ⊢
          rw [esx_inf k2] at S2 o2 ⊢
          exact (p6_farb _ _ _ _ _ _ _ _ _ _ _ _ _ _ _ _ w S1 S2 o1 o2).mono fun _ _ h => h.up2 (by omega)
        · rw [esx_inf k1] at S1 o1 ⊢
          exact (p6_fara _ _ _ _ _ _ _ _ _ _ _ _ _ _ _ _ _ w S1 S2 o1 o2).mono fun _ _ h => h.up2 (by omega)
      · have k1 : es a = 0 := by omega
        have k2 : es b = 0 := by omega
        have e : pq a b = (0, fl a * fl b) := by
          unfold pq
          rw [if_neg (by omega), if_neg k]
        have HM := fun W (hW : Below w.heap.size w W) => (rmul_v 34 g1 (.slice A1 n1 c1) (.slice B1 m1 d1) (ex a) g2 (.slice A2 n2 c2) (.slice B2 m2 d2) (ex b) W (h1.below hW) (h2.below hW) (by omega) (by omega)).mono fun _ _ h => h.s
        rw [k1] at S1 hz
        rw [k2] at S2 hz2
        rw [ex_zero k1, ex_zero k2] at HM
        rw [k1, k2, e]
        exact p6_fin _ _ _ _ _ _ _ _ _ _ _ _ _ _ _ _ 68 _ w S1 hz S2 hz2 HM
theorem lesser_e (K : Nat) (e f : Int × Rat) (g1 : Bool) (A1 : Option Addr) (n1 c1 : Nat) (B1 : Option Addr) (m1 d1 : Nat) (g2 : Bool) (A2 : Option Addr) (n2 c2 : Nat) (B2 : Option Addr) (m2 d2 : Nat) (w : World) (h1 : RatV w K g1 (.slice A1 n1 c1) (.slice B1 m1 d1) e.2) (h2 : RatV w K g2 (.slice A2 n2 c2) (.slice B2 m2 d2) f.2) (hK : K ≤ 1073741824) :
    Calls Tryz.prog 151 #[.agg #[.int .i64 e.1, .bool g1, .slice A1 n1 c1, .slice B1 m1 d1], .agg #[.int .i64 f.1, .bool g2, .slice A2 n2 c2, .slice B2 m2 d2]] w (NewEnd w K (eL e f).1 (eL e f).2) := by
  have h := lesser_any K e.1 g1 A1 n1 c1 B1 m1 d1 e.2 f.1 g2 A2 n2 c2 B2 m2 d2 f.2 w h1 h2 hK
  unfold eL
  by_cases k : ec f.1 f.2 e.1 e.2 < 0
  · rw [if_pos k, if_pos k] at h; rw [if_pos k]; exact h
  · rw [if_neg k, if_neg k] at h; rw [if_neg k]; exact h
theorem greater_e (K : Nat) (e f : Int × Rat) (g1 : Bool) (A1 : Option Addr) (n1 c1 : Nat) (B1 : Option Addr) (m1 d1 : Nat) (g2 : Bool) (A2 : Option Addr) (n2 c2 : Nat) (B2 : Option Addr) (m2 d2 : Nat) (w : World) (h1 : RatV w K g1 (.slice A1 n1 c1) (.slice B1 m1 d1) e.2) (h2 : RatV w K g2 (.slice A2 n2 c2) (.slice B2 m2 d2) f.2) (hK : K ≤ 1073741824) :
    Calls Tryz.prog 154 #[.agg #[.int .i64 e.1, .bool g1, .slice A1 n1 c1, .slice B1 m1 d1], .agg #[.int .i64 f.1, .bool g2, .slice A2 n2 c2, .slice B2 m2 d2]] w (NewEnd w K (eG e f).1 (eG e f).2) := by
  have h := greater_any K e.1 g1 A1 n1 c1 B1 m1 d1 e.2 f.1 g2 A2 n2 c2 B2 m2 d2 f.2 w h1 h2 hK
  unfold eG
  by_cases k : 0 < ec f.1 f.2 e.1 e.2
  · rw [if_pos k, if_pos k] at h; rw [if_pos k]; exact h
  · rw [if_neg k, if_neg k] at h; rw [if_neg k]; exact h
end Go.Proofs.YthlmlmfebpjgdaaGreatDoor

namespace Go.Proofs.YthlmlmfebpjgdaaGreatDoor
open Go.RowKit
theorem none6 (w : World) : Calls Tryz.prog 155 #[] w (NewSet w 1 true 0 0 0 0) := by
  have HF := Lib.hid fun W => finite_nat 0 W (by omega)
  obtain ⟨LB0, LR⟩ := bx1 w #[.bool false, .int .i64 0, .bool false, .slice none 0 0, .slice none 0 0, .int .i64 0, .bool false, .slice none 0 0, .slice none 0 0] 89
  have LR0 := Lib.hid (HasBlk.of (n := 9) LR.out rfl rfl)
  clear LR
  go_enter Tryz.func155, Tryz.ntmps155
  go_wp2_with fail
  refine (HF.out _).mono ?_
  rintro e w1 ⟨g3, A3, n3, c3, B3, m3, d3, rfl, h3, hb3⟩
  have LB1 := stB LB0 hb3 LB0.out.size
  have LR1 := stR LR0 hb3
  clear LB0 LR0
  go_wp2_with fail
  refine (HF.out _).mono ?_
  rintro e w2 ⟨g4, A4, n4, c4, B4, m4, d4, rfl, h4, hb4⟩
  have LB2 := stB LB1 hb4 LB1.out.size
  have LR2 := stR LR1 hb4
  clear LB1 LR1
  have FR1 := Lib.hid (LR2.out.rat (h3.below hb4) [.bool true, .int .i64 0, .bool g3, .slice A3 n3 c3, .slice B3 m3 d3, .int .i64 0, .bool g4, .slice A4 n4 c4, .slice B4 m4 d4])
  have FR2 := Lib.hid (LR2.out.rat h4 [.bool true, .int .i64 0, .bool g3, .slice A3 n3 c3, .slice B3 m3 d3, .int .i64 0, .bool g4, .slice A4 n4 c4, .slice B4 m4 d4])
  clear h3 h4 hb3 hb4 HF
  obtain ⟨ha0, hf0, ha1, hf1, ha2, hf2, ha3, hf3, ha4, hf4, ha5, hf5, ha6, hf6, ha7, hf7, ha8, hf8⟩ := LR2.out.sf9
  obtain ⟨hk0, hk1, hk2, hk3, hk4, hk5, hk6, hk7, hk8⟩ := LR2.out.sc9 (.bool true) (.int .i64 0) (.bool g3) (.slice A3 n3 c3) (.slice B3 m3 d3) (.int .i64 0) (.bool g4) (.slice A4 n4 c4) (.slice B4 m4 d4)
  have F := Lib.hid (below_sets (w0 := w) (r := w.heap.size) (by omega) [.bool true, .int .i64 0, .bool g3, .slice A3 n3 c3, .slice B3 m3 d3, .int .i64 0, .bool g4, .slice A4 n4 c4, .slice B4 m4 d4] 0 _ LB2.out)
  simp [sets] at hk0 hk1 hk2 hk3 hk4 hk5 hk6 hk7 hk8
  go_wp2
  refine bodyPost_ret (v := .agg #[.bool true, .int .i64 0, .bool g3, .slice A3 n3 c3, .slice B3 m3 d3, .int .i64 0, .bool g4, .slice A4 n4 c4, .slice B4 m4 d4]) (by simp [results, Tryz.results155, go_sem, hk0, hk1, hk2, hk3, hk4, hk5, hk6, hk7, hk8]) rfl ?_
  exact ⟨_, _, _, _, _, _, _, _, _, _, _, _, _, _, rfl, FR1.out, FR2.out, F.out⟩
end Go.Proofs.YthlmlmfebpjgdaaGreatDoor
