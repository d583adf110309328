/-
Walks: package vergeref2, Minus.
Arrays of words of 32 bits that a call has made and writes in place: a block that is known whole.
Ratios of naturals, as rational numbers; ratios in memory.
Walks: package vergeref2, Len, Bit.
Walks: package vergeref2, Zeros.
Walks: package vergeref2, Left.
Walks: package vergeref2, Right.
Walks: package vergeref2, Times.
-/
import Derived.Test.YtmjkmoahkanblaaGreatM02
import Derived.Test.YtmjkmoahkanblaaGreatM01
import Derived.Deep.Draws
set_option linter.unusedSimpArgs false
set_option linter.unusedVariables false

namespace Go.Proofs.YtmjkmoahkanblaaGreat
open Go.RowKit

set_option maxHeartbeats 1600000 in
theorem nminus_any (A B : Option Addr) (n c m d : Nat) (xs ys : List Nat) (w : World) (hx : U32s w A n c xs) (hy : U32s w B m d ys) (hs1 : n ≤ 34359738360) (hle : num ys ≤ num xs) :
    Calls Tryz.prog 198 #[.slice A n c, .slice B m d] w (NewU32 w (digs (num xs - num ys))) := by
  have HX := Lib.hid hx
  have HY := Lib.hid hy
  have HLE := Lib.hid hle
  clear hx hy hle
  go_enter Tryz.func198, Tryz.ntmps198
  go_wp2
  go_loopw [5, 6, 7] (fun v cv iv wr => ∃ (i k : Nat) (ls : List Nat), iv = .int .i64 i ∧ cv = .int .u64 k ∧ i ≤ n ∧ MinusInv xs ys ls i k ∧ Own wr w.heap.size v ls ∧ Below w.heap.size w wr) (fun _ _ iv _ => n - (intOf iv).toNat)
  case atStart => exact ⟨0, 0, [], rfl, rfl, Nat.zero_le _, MinusInv.start _ _, Own.nil _ _, Below.refl _ _⟩
  case round =>
    obtain ⟨i, k, ls, rfl, rfl, hi, hinv, hown, hb⟩ := hrel
    have hk1 := hinv.carry
    have hlen := hinv.len
    have HI := Lib.hid hinv
    have HO := Lib.hid hown
    clear hinv hown
    have hbs := hb.size
    have HL := Lib.hid hlen
    clear hlen
    by_cases ha : i < n
    · obtain ⟨ad, e, hc⟩ := (HX.out.below hb).cell (j := i) ha
      cases e
      have hx1 := HX.out.lt i
      have hst := fun d c' => HI.out.step (d := d) (c' := c')
      obtain ⟨x, hxx⟩ : ∃ r, xs[i]?.getD 0 = r := ⟨_, rfl⟩
      rw [hxx] at hc hx1
      simp only [hxx] at hst
      clear hxx
      by_cases hbb : i < m
      · obtain ⟨ad', e, hc'⟩ := (HY.out.below hb).cell (j := i) hbb
        cases e
        have hy1 := HY.out.lt i
        obtain ⟨y, hyy⟩ : ∃ r, ys[i]?.getD 0 = r := ⟨_, rfl⟩
        rw [hyy] at hc' hy1
        simp only [hyy] at hst
        clear hyy
        by_cases hxy : x < k + y
        · obtain ⟨D, hD⟩ : ∃ D : Nat, D + (k + y) = x + 4294967296 := ⟨x + 4294967296 - (k + y), by omega⟩
          have hlt : (x : Int) < (k : Int) + (y : Int) := by omega
          have e1 : (x : Int) + 4294967296 - ((k : Int) + (y : Int)) = (D : Int) := by omega
          have hD1 : D < 4294967296 := by omega
          have HS := Lib.hid (hst D 1 hD1 (by omega) (by omega))
          clear hst hD hxy
          go_wp2_with (at_builtin; refine wpList_append_u32 _ rfl _ _ rfl w.heap.size _ ls rfl (HO.out.alloc _) ⟨_, 0, none⟩ 1 D rfl ?c1al ?c2al ?c3al ?_)
          try case c1al => simp
          case c2al => rw [HL.out]; omega
          case c3al => first | omega | (simp; omega)
          intro v' w' hown' hgrow
          have HO' := Lib.hid hown'
          have hb' : Below w.heap.size w w' := (hb.alloc hbs _).grown hgrow (by simp; omega) (fun g hg => (HO.out.lt g hg).1)
          clear hown' hb hgrow hc hc' hbs hlt e1
          go_wp2
          go_roundw
          case rel => exact ⟨i + 1, 1, _, by go_num, by go_num, by omega, HS.out, HO'.out, hb'⟩
          case measure => simp [intOf]; omega
        · obtain ⟨D, hD⟩ : ∃ D : Nat, D + (k + y) = x := ⟨x - (k + y), by omega⟩
          have hlt : ¬ (x : Int) < (k : Int) + (y : Int) := by omega
          have e1 : (x : Int) - ((k : Int) + (y : Int)) = (D : Int) := by omega
          have hD1 : D < 4294967296 := by omega
          have HS := Lib.hid (hst D 0 hD1 (by omega) (by omega))
          clear hst hD hxy
          go_wp2_with (at_builtin; refine wpList_append_u32 _ rfl _ _ rfl w.heap.size _ ls rfl (HO.out.alloc _) ⟨_, 0, none⟩ 1 D rfl ?c1ag ?c2ag ?c3ag ?_)
          try case c1ag => simp
          case c2ag => rw [HL.out]; omega
          case c3ag => first | omega | (simp; omega)
          intro v' w' hown' hgrow
          have HO' := Lib.hid hown'
          have hb' : Below w.heap.size w w' := (hb.alloc hbs _).grown hgrow (by simp; omega) (fun g hg => (HO.out.lt g hg).1)
          clear hown' hb hgrow hc hc' hbs hlt e1
          go_wp2
          go_roundw
          case rel => exact ⟨i + 1, 0, _, by go_num, by go_num, by omega, HS.out, HO'.out, hb'⟩
          case measure => simp [intOf]; omega
      · have hz : ys[i]?.getD 0 = 0 := by rw [List.getElem?_eq_none (by rw [HY.out.len]; omega)]; rfl
        simp only [hz] at hst
        clear hz
        by_cases hxy : x < k
        · obtain ⟨D, hD⟩ : ∃ D : Nat, D + (k) = x + 4294967296 := ⟨x + 4294967296 - (k), by omega⟩
          have hlt : (x : Int) < (k : Int) := by omega
          have e1 : (x : Int) + 4294967296 - ((k : Int)) = (D : Int) := by omega
          have hD1 : D < 4294967296 := by omega
          have HS := Lib.hid (hst D 1 hD1 (by omega) (by omega))
          clear hst hD hxy
          go_wp2_with (at_builtin; refine wpList_append_u32 _ rfl _ _ rfl w.heap.size _ ls rfl (HO.out.alloc _) ⟨_, 0, none⟩ 1 D rfl ?c1bl ?c2bl ?c3bl ?_)
          try case c1bl => simp
          case c2bl => rw [HL.out]; omega
          case c3bl => first | omega | (simp; omega)
          intro v' w' hown' hgrow
          have HO' := Lib.hid hown'
          have hb' : Below w.heap.size w w' := (hb.alloc hbs _).grown hgrow (by simp; omega) (fun g hg => (HO.out.lt g hg).1)
          clear hown' hb hgrow hc hbs hlt e1
          go_wp2
          go_roundw
          case rel => exact ⟨i + 1, 1, _, by go_num, by go_num, by omega, HS.out, HO'.out, hb'⟩
          case measure => simp [intOf]; omega
        · obtain ⟨D, hD⟩ : ∃ D : Nat, D + (k) = x := ⟨x - (k), by omega⟩
          have hlt : ¬ (x : Int) < (k : Int) := by omega
          have e1 : (x : Int) - ((k : Int)) = (D : Int) := by omega
          have hD1 : D < 4294967296 := by omega
          have HS := Lib.hid (hst D 0 hD1 (by omega) (by omega))
          clear hst hD hxy
          go_wp2_with (at_builtin; refine wpList_append_u32 _ rfl _ _ rfl w.heap.size _ ls rfl (HO.out.alloc _) ⟨_, 0, none⟩ 1 D rfl ?c1bg ?c2bg ?c3bg ?_)
          try case c1bg => simp
          case c2bg => rw [HL.out]; omega
          case c3bg => first | omega | (simp; omega)
          intro v' w' hown' hgrow
          have HO' := Lib.hid hown'
          have hb' : Below w.heap.size w w' := (hb.alloc hbs _).grown hgrow (by simp; omega) (fun g hg => (HO.out.lt g hg).1)
          clear hown' hb hgrow hc hbs hlt e1
          go_wp2
          go_roundw
          case rel => exact ⟨i + 1, 0, _, by go_num, by go_num, by omega, HS.out, HO'.out, hb'⟩
          case measure => simp [intOf]; omega
    · have hW := HI.out.1
      have hD := HI.out.done (by rw [HX.out.len]; omega) HX.out.w32 HY.out.w32 HLE.out
      obtain ⟨A', c', rfl⟩ := HO.out.form
      have hu := HO.out.u32s rfl hW (by rw [HL.out]; omega)
      have hnorm := norm_any _ _ _ _ _ hu (by rw [HL.out]; omega)
      rw [trim_eq_digs hW, hD] at hnorm
      have HN := Lib.hid hnorm
      have HB := Lib.hid hb
      clear hnorm hu hW hD hb hbs HI HO
      go_wp2_with fail
      refine HN.out.mono ?_
      rintro e w'' ⟨A2, n2, c2, rfl, hu2, hb2⟩
      have H2 := Lib.hid (show NewU32 w (digs (num xs - num ys)) (.returned (.slice A2 n2 c2)) w'' from NewU32.trans ⟨A2, n2, c2, rfl, hu2, hb2⟩ HB.out)
      clear hu2 hb2 HB
      go_wp2
      go_ret
      exact H2.out

end Go.Proofs.YtmjkmoahkanblaaGreat

namespace Go.Proofs.YtmjkmoahkanblaaGreat
open Go.RowKit

/-- Block g holds just the words xs. -/
def Arr (w : World) (g : Nat) (xs : List Nat) : Prop := w.heap[g]? = some (.cells (xs.map wd).toArray 124 (0, 0))

theorem Arr.lt {w : World} {g : Nat} {xs : List Nat} (h : Arr w g xs) : g < w.heap.size := (Array.getElem?_eq_some_iff.1 h).1
theorem Arr.cell {w : World} {g : Nat} {xs : List Nat} (h : Arr w g xs) {j : Nat} (hj : j < xs.length) : w.cell? ⟨g, j, none⟩ = some (wd (xs[j]?.getD 0)) := by
  rw [cell_of_row w g j _ _ (0, 0) h]
  simp [hj]
theorem Arr.frozen {w : World} {g : Nat} {xs : List Nat} (h : Arr w g xs) (j : Nat) : w.frozen? ⟨g, j, none⟩ = false := frozen_of_row w g j _ _ h
theorem Arr.set {w : World} {g : Nat} {xs : List Nat} (h : Arr w g xs) (j x : Nat) : Arr (w.setCell ⟨g, j, none⟩ (wd x)) g (xs.set j x) := by
  unfold Arr at *
  rw [heap_setCell_same w g j _ _ _ h]
  simp [List.map_set]
theorem Arr.drewN {w : World} {g : Nat} {xs : List Nat} (h : Arr w g xs) (n : Nat) : Arr (w.drewN n) g xs := h
theorem Arr.drew {w : World} {g : Nat} {xs : List Nat} (h : Arr w g xs) : Arr w.drew g xs := h
theorem Arr.of_block {w w' : World} {g : Nat} {xs : List Nat} (h : Arr w g xs) (hb : w'.heap[g]? = w.heap[g]?) : Arr w' g xs := hb.trans h
theorem Arr.below {w w' : World} {g B : Nat} {xs : List Nat} (h : Arr w g xs) (hb : Below B w w') (hg : g < B) : Arr w' g xs := h.of_block (hb.block g hg)
theorem Arr.alloc {w : World} {g : Nat} {xs : List Nat} (h : Arr w g xs) (o : Obj) : Arr (w.alloc o) g xs := h.of_block (Below.heap_alloc w o g h.lt)
theorem Arr.far {w : World} {g : Nat} {xs : List Nat} (h : Arr w g xs) {p : Addr} (hp : g ≠ p.block) (u : Value) : Arr (w.setCell p u) g xs := h.of_block (Below.heap_setCell w p u g hp)
theorem Arr.new (w : World) (xs : List Nat) : Arr (w.alloc (.cells (xs.map wd).toArray 124)) w.heap.size xs := heap_alloc_new w _
theorem Arr.zeros (w : World) (n : Nat) : Arr (w.alloc (.cells (Array.replicate n (wd 0)) 124)) w.heap.size (List.replicate n 0) := by
  have h := Arr.new w (List.replicate n 0)
  simpa using h
theorem Arr.u32s {w : World} {g : Nat} {xs : List Nat} (h : Arr w g xs) (hw : W32 xs) (hs : xs.length ≤ 34359738368) (c : Nat) (hc : xs.length ≤ c) : U32s w (some ⟨g, 0, none⟩) xs.length c xs :=
  ⟨rfl, hc, hs, hw, fun _ => ⟨_, rfl, h.lt, fun j hj => by
    rw [show (⟨g, 0, none⟩ : Addr).add j = ⟨g, j, none⟩ from by unfold Addr.add; split <;> simp_all]
    exact h.cell hj⟩⟩
theorem Arr.u32s' {w : World} {g n : Nat} {xs : List Nat} (h : Arr w g xs) (hw : W32 xs) (hl : xs.length = n) (hs : n ≤ 34359738368) : U32s w (some ⟨g, 0, none⟩) n n xs := by
  subst hl; exact h.u32s hw hs _ (Nat.le_refl _)

theorem below_drewN {B : Nat} {a w : World} (h : Below B a w) (n : Nat) : Below B a (w.drewN n) := ⟨h.os, h.tape, h.output, h.size, h.block⟩

/-- make([]uint32, n). -/
theorem make_u32 {N : Int} {n : Nat} (hN : N = n) (h : n ≤ 34359738368) (w : World) :
    (Instr.makeSlice 58 (.int .i64 N) (.int .i64 N)).run Tryz.prog w = .ok (.slice (some ⟨w.heap.size, 0, none⟩) n n) (w.alloc (.cells (Array.replicate n (wd 0)) 124)) := by
  obtain ⟨i0, hi, hz0, hz1, hz2⟩ := info_parts info_u32
  subst hN
  have hr := run_make (P := Tryz.prog) w 58 124 i0 (.int .u32 0) Tryz.underlying58 hi hz0 .i64 .i64 (n : Int) (n : Int) (by omega) (by omega) (by rw [hz2]; omega) (by omega)
  simp only [Int.toNat_natCast] at hr
  have e : madeCells (Value.int .u32 0).cells n = Array.replicate n (wd 0) := by
    have := toList_madeCells_one (.int .u32 0) n
    rw [show (Value.int .u32 0).cells = #[.int .u32 0] from rfl]
    rw [← Array.toArray_toList (xs := madeCells #[Value.int .u32 0] n), this]
    simp
  rw [hr, hz1, Nat.mul_one, e]

end Go.Proofs.YtmjkmoahkanblaaGreat

namespace Go.Proofs.YtmjkmoahkanblaaGreat
open Go.RowKit

/-! ### Plain -/

/-- The rational number of a sign and two naturals. -/
def rv (neg : Bool) (p q : Nat) : Rat := (if neg then -(p : Rat) else (p : Rat)) / (q : Rat)

theorem cast_pos {q : Nat} (h : 0 < q) : (0 : Rat) < (q : Rat) := Rat.natCast_pos.2 h
theorem cast_ne {q : Nat} (h : 0 < q) : (q : Rat) ≠ 0 := by have := cast_pos h; grind
theorem two_pow_pos_rat (k : Nat) : (0 : Rat) < (2 : Rat)^k := by
  have := cast_pos (Nat.two_pow_pos k)
  rw [Rat.natCast_pow] at this; exact this
theorem two_ne : (2 : Rat) ≠ 0 := by decide
theorem zpow_pos (e : Int) : (0 : Rat) < (2 : Rat)^e := Rat.zpow_pos (by decide)
theorem zpow_ne (e : Int) : (2 : Rat)^e ≠ 0 := by have := zpow_pos e; grind
theorem zpow_add (a b : Int) : (2 : Rat)^(a + b) = 2^a * 2^b := Rat.zpow_add two_ne a b
theorem zpow_nat (k : Nat) : (2 : Rat)^(k : Int) = ((2^k : Nat) : Rat) := by rw [Rat.zpow_natCast, Rat.natCast_pow]; rfl
theorem zpow_split (e : Int) : (2 : Rat)^e * ((2^(-e).toNat : Nat) : Rat) = ((2^e.toNat : Nat) : Rat) := by
  rw [← zpow_nat, ← zpow_nat, ← zpow_add]
  congr 1; omega

theorem eq_div {a b c : Rat} (hc : c ≠ 0) (h : a * c = b) : a = b / c := by rw [← h, Rat.mul_div_cancel hc]
theorem div_eq {a b c : Rat} (hc : c ≠ 0) (h : a = b * c) : a / c = b := by rw [h, Rat.mul_div_cancel hc]

/-- Two fractions are one, if their cross products are. -/
theorem rv_eq {neg : Bool} {p q p' q' : Nat} (hq : 0 < q) (hq' : 0 < q') (h : p * q' = p' * q) : rv neg p q = rv neg p' q' := by
  have h1 : (p : Rat) * (q' : Rat) = (p' : Rat) * (q : Rat) := by rw [← Rat.natCast_mul, h, Rat.natCast_mul]
  unfold rv
  refine eq_div (cast_ne hq') ?_
  rw [Rat.div_def]
  have := Rat.mul_inv_cancel _ (cast_ne hq)
  cases neg <;> simp <;> grind
theorem rv_zero (neg : Bool) (q : Nat) : rv neg 0 q = 0 := by unfold rv; cases neg <;> simp [Rat.div_def]
theorem rv_scale (neg : Bool) {p q : Nat} (hq : 0 < q) (e : Int) : rv neg (p * 2^e.toNat) (q * 2^(-e).toNat) = rv neg p q * 2^e := by
  have h0 := cast_ne hq
  have h1 := cast_ne (Nat.two_pow_pos (-e).toNat)
  have h2 := zpow_split e
  have h3 := cast_ne (Nat.mul_pos hq (Nat.two_pow_pos (-e).toNat))
  unfold rv
  refine div_eq h3 ?_
  rw [Rat.natCast_mul, Rat.natCast_mul, Rat.div_def, ← h2]
  have := Rat.mul_inv_cancel _ h0
  cases neg <;> simp <;> grind

/-- The number of trailing noughts is the one. -/
theorem odd_part {a k : Nat} (h : a % 2^k = 0) : a / 2^k * 2^k = a := by
  have := Nat.div_add_mod a (2^k)
  rw [Nat.mul_comm]; omega

/-! ### In memory -/

/-- The cells neg, vn, vd are a ratio in its form: x; its naturals have at most K words. -/
def RatV (w : World) (K : Nat) (neg : Bool) (vn vd : Value) (x : Rat) : Prop :=
  ∃ (p q : Nat) (A : Option Addr) (n c : Nat) (B : Option Addr) (m d : Nat), vn = .slice A n c ∧ vd = .slice B m d ∧ U32s w A n c (digs p) ∧ U32s w B m d (digs q) ∧
    0 < q ∧ (p = 0 → neg = false) ∧ p < 2^(32 * K) ∧ q < 2^(32 * K) ∧ x = rv neg p q

theorem RatV.below {w w' : World} {K : Nat} {neg : Bool} {vn vd : Value} {x : Rat} (h : RatV w K neg vn vd x) (hb : Below w.heap.size w w') : RatV w' K neg vn vd x := by
  obtain ⟨p, q, A, n, c, B, m, d, h1, h2, h3, h4, h5⟩ := h
  exact ⟨p, q, A, n, c, B, m, d, h1, h2, h3.below hb, h4.below hb, h5⟩
theorem RatV.shape {w : World} {K : Nat} {neg : Bool} {vn vd : Value} {x : Rat} (h : RatV w K neg vn vd x) : ∃ (A : Option Addr) (n c : Nat) (B : Option Addr) (m d : Nat), vn = .slice A n c ∧ vd = .slice B m d := by
  obtain ⟨p, q, A, n, c, B, m, d, h1, h2, -⟩ := h
  exact ⟨A, n, c, B, m, d, h1, h2⟩
theorem RatV.mono {w : World} {K K' : Nat} {neg : Bool} {vn vd : Value} {x : Rat} (h : RatV w K neg vn vd x) (hk : K ≤ K') : RatV w K' neg vn vd x := by
  obtain ⟨p, q, A, n, c, B, m, d, h1, h2, h3, h4, h5, h6, h7, h8, h9⟩ := h
  have := Nat.pow_le_pow_right (n := 2) (by omega) (show 32 * K ≤ 32 * K' by omega)
  exact ⟨p, q, A, n, c, B, m, d, h1, h2, h3, h4, h5, h6, by omega, by omega, h9⟩

/-- A ratio that a call answers. -/
def NewRat (w : World) (K : Nat) (x : Rat) (e : Ending) (w' : World) : Prop :=
  ∃ neg vn vd, e = .returned (.agg #[.bool neg, vn, vd]) ∧ RatV w' K neg vn vd x ∧ Below w.heap.size w w'
theorem NewRat.trans {w w1 w' : World} {K : Nat} {x : Rat} {e : Ending} (h : NewRat w1 K x e w') (hb : Below w.heap.size w w1) : NewRat w K x e w' := by
  obtain ⟨neg, vn, vd, rfl, h1, h2⟩ := h
  exact ⟨neg, vn, vd, rfl, h1, hb.trans (h2.mono hb.size)⟩

/-! ### A block of a call's own -/

/-- Block g holds just these cells. -/
def Blk (w : World) (g : Nat) (t : TypeId) (cs : Array Value) : Prop := w.heap[g]? = some (.cells cs t (0, 0))
theorem Blk.lt {w : World} {g : Nat} {t : TypeId} {cs : Array Value} (h : Blk w g t cs) : g < w.heap.size := (Array.getElem?_eq_some_iff.1 h).1
theorem Blk.cell {w : World} {g : Nat} {t : TypeId} {cs : Array Value} (h : Blk w g t cs) (i : Nat) : w.cell? ⟨g, i, none⟩ = cs[i]? := cell_of_row w g i cs t (0, 0) h
theorem Blk.frozen {w : World} {g : Nat} {t : TypeId} {cs : Array Value} (h : Blk w g t cs) (i : Nat) : w.frozen? ⟨g, i, none⟩ = false := frozen_of_row w g i cs t h
theorem Blk.new (w : World) (t : TypeId) (cs : Array Value) : Blk (w.alloc (.cells cs t)) w.heap.size t cs := heap_alloc_new w _
theorem Blk.below {w w' : World} {g B : Nat} {t : TypeId} {cs : Array Value} (h : Blk w g t cs) (hb : Below B w w') (hg : g < B) : Blk w' g t cs := (hb.block g hg).trans h
theorem Blk.drewN {w : World} {g : Nat} {t : TypeId} {cs : Array Value} (h : Blk w g t cs) (n : Nat) : Blk (w.drewN n) g t cs := h
theorem Blk.alloc {w : World} {g : Nat} {t : TypeId} {cs : Array Value} (h : Blk w g t cs) (o : Obj) : Blk (w.alloc o) g t cs := (Below.heap_alloc w o g h.lt).trans h
theorem Blk.keep {w w' : World} {g : Nat} {t : TypeId} {cs : Array Value} (h : Blk w g t cs) (hb : Below w.heap.size w w') : Blk w' g t cs := h.below hb h.lt

theorem U32s.set3 {w : World} {A : Option Addr} {n c g : Nat} {xs : List Nat} (h : U32s w A n c xs) (hg : ∀ ad, A = some ad → ad.block ≠ g) (a b d : Value) :
    U32s (((w.setCell ⟨g, 0, none⟩ a).setCell ⟨g, 1, none⟩ b).setCell ⟨g, 2, none⟩ d) A n c xs :=
  ((h.far (p := ⟨g, 0, none⟩) hg a).far (p := ⟨g, 1, none⟩) hg b).far (p := ⟨g, 2, none⟩) hg d
theorem below_set3 {w w0 : World} {B g : Nat} (h : Below B w0 w) (hg : B ≤ g) (a b d : Value) :
    Below B w0 (((w.setCell ⟨g, 0, none⟩ a).setCell ⟨g, 1, none⟩ b).setCell ⟨g, 2, none⟩ d) :=
  ((h.setCell (p := ⟨g, 0, none⟩) hg a).setCell (p := ⟨g, 1, none⟩) hg b).setCell (p := ⟨g, 2, none⟩) hg d
/-- A block of which no cell is a word holds no words. -/
def NoWd (cs : Array Value) : Prop := ∀ i x : Nat, cs[i]? ≠ some (wd x)
theorem NoWd.zero : NoWd #[.bool false, .slice none 0 0, .slice none 0 0] := by
  intro i x
  match i with
  | 0 => simp
  | 1 => simp
  | 2 => simp
  | i + 3 => simp
theorem Blk.apart {w : World} {g : Nat} {t : TypeId} {cs : Array Value} {A : Option Addr} {n c : Nat} {xs : List Nat} (hb : Blk w g t cs) (hc : NoWd cs) (h : U32s w A n c xs) : ∀ ad, A = some ad → 0 < n → ad.block ≠ g := by
  intro ad e hn hg
  obtain ⟨ad', e', _, hj⟩ := h.at_ hn
  rw [e] at e'; cases e'
  have h0 := hj 0 hn
  have : (ad.add 0) = ad := by unfold Addr.add; rfl
  rw [this] at h0
  unfold World.cell? at h0
  rw [hg, hb] at h0
  simp only at h0
  split at h0
  · exact absurd h0 (by simp)
  · exact hc _ _ h0
theorem U32s.set3' {w : World} {A : Option Addr} {n c g : Nat} {xs : List Nat} (h : U32s w A n c xs) (hg : ∀ ad, A = some ad → 0 < n → ad.block ≠ g) (a b d : Value) :
    U32s (((w.setCell ⟨g, 0, none⟩ a).setCell ⟨g, 1, none⟩ b).setCell ⟨g, 2, none⟩ d) A n c xs :=
  h.keep (by simp [World.setCell]) fun ad e hn => by
    have h1 := hg ad e hn
    rw [Below.heap_setCell _ ⟨g, 2, none⟩ d _ h1, Below.heap_setCell _ ⟨g, 1, none⟩ b _ h1, Below.heap_setCell _ ⟨g, 0, none⟩ a _ h1]
/-- A ratio that is laid into the result's block and answered. -/
theorem RatV.ret {w w5 : World} {K g : Nat} {t : TypeId} {cs : Array Value} {neg : Bool} {vn vd : Value} {x : Rat} (h : RatV w5 K neg vn vd x) (hb : Below w.heap.size w w5) (hk : Blk w5 g t cs) (hc : NoWd cs) (hg : w.heap.size ≤ g) :
    NewRat w K x (.returned (.agg #[.bool neg, vn, vd])) (((w5.setCell ⟨g, 0, none⟩ (.bool neg)).setCell ⟨g, 1, none⟩ vn).setCell ⟨g, 2, none⟩ vd) := by
  obtain ⟨p, q, A, n, c, B, m, d, rfl, rfl, h3, h4, h5⟩ := h
  exact ⟨neg, _, _, rfl, ⟨p, q, A, n, c, B, m, d, rfl, rfl, h3.set3' (hk.apart hc h3) _ _ _, h4.set3' (hk.apart hc h4) _ _ _, h5⟩, below_set3 hb hg _ _ _⟩

end Go.Proofs.YtmjkmoahkanblaaGreat

namespace Go.Proofs.YtmjkmoahkanblaaGreat
open Go.RowKit

set_option maxHeartbeats 800000 in
theorem len_zero (A : Option Addr) (n c : Nat) (xs : List Nat) (w : World) (hx : U32s w A n c xs) (h0 : wlen xs = 0) :
    Calls Tryz.prog 203 #[.slice A n c] w fun e w' => e = .returned (.int .i64 0) ∧ w = w' := by
  have HX := Lib.hid hx
  clear hx
  have hw := words_any A n c xs w HX.out
  rw [h0] at hw
  have HW := Lib.hid hw
  clear hw
  go_enter Tryz.func203, Tryz.ntmps203
  go_wp2_with fail
  refine HW.out.mono ?_
  rintro e w' ⟨rfl, rfl⟩
  go_wp2
  go_ret
  exact ⟨rfl, rfl⟩

set_option maxHeartbeats 800000 in
theorem len_pos (A : Option Addr) (n c l t : Nat) (xs : List Nat) (w : World) (hx : U32s w A n c xs) (hl : wlen xs = l + 1) (ht : xs[l]?.getD 0 = t) :
    Calls Tryz.prog 203 #[.slice A n c] w fun e w' => e = .returned (.int .i64 ((32 * l + blen t : Nat) : Int)) ∧ w = w' := by
  have HX := Lib.hid hx
  have n1 := hx.small
  have l1 := wlen_le xs
  rw [hx.len, hl] at l1
  have hlt := hx.lt l
  clear hx
  have hw := words_any A n c xs w HX.out
  rw [hl] at hw
  obtain ⟨ad, rfl, hc⟩ := HX.out.cell (j := l) (by omega)
  rw [ht] at hlt hc
  clear ht hl
  have HW := Lib.hid hw
  clear hw
  have b0 : blen t ≤ 32 := blen_le_iff.2 (by omega)
  go_enter Tryz.func203, Tryz.ntmps203
  go_wp2_with fail
  refine HW.out.mono ?_
  rintro e w' ⟨rfl, rfl⟩
  rw [show ((l + 1 : Nat) : Int) = (l : Int) + 1 from by omega]
  have hb0 : ((l : Int) + 1 == 0) = false := by simp; omega
  go_wp2
  go_loop [4, 5] (fun v y => ∃ k x : Nat, v = .int .i64 k ∧ y = wd x ∧ x < 4294967296 ∧ k + blen x = 32 * l + blen t) (fun _ y => (intOf y).toNat)
  case atStart => exact ⟨32 * l, t, by go_num, rfl, hlt, rfl⟩
  case round =>
    obtain ⟨k, x, rfl, rfl, hx, hk⟩ := hrel
    have Hk := Lib.hid hk
    have hk2 : k ≤ 32 * l + 32 := by omega
    clear hk
    rcases Nat.eq_zero_or_pos x with h0 | h0
    · subst h0
      go_wp2
      go_ret
      have := Hk.out
      rw [blen_zero, Nat.add_zero] at this
      exact ⟨ret_int (by omega), rfl⟩
    · go_wp2
      go_round
      case rel => exact ⟨k + 1, x / 2, by go_num, by go_num, by omega, by have := Hk.out; rw [blen_half h0] at this; omega⟩
      case measure => simp [intOf]; omega

theorem len_any (A : Option Addr) (n c : Nat) (xs : List Nat) (w : World) (hx : U32s w A n c xs) :
    Calls Tryz.prog 203 #[.slice A n c] w fun e w' => e = .returned (.int .i64 (blen (num xs))) ∧ w = w' := by
  rcases Nat.eq_zero_or_pos (wlen xs) with h0 | h0
  · have := len_zero A n c xs w hx h0
    rw [show blen (num xs) = 0 from by rw [wlen_eq_zero.1 h0]; rfl]
    exact this
  · have := len_pos A n c (wlen xs - 1) (xs[wlen xs - 1]?.getD 0) xs w hx (by omega) rfl
    rw [blen_num hx.w32 h0]
    exact this

set_option maxHeartbeats 800000 in
theorem bit_any (A : Option Addr) (n c i : Nat) (xs : List Nat) (w : World) (hx : U32s w A n c xs) (hi : i ≤ 4611686018427387904) :
    Calls Tryz.prog 217 #[.slice A n c, .int .i64 (i : Int)] w fun e w' => e = .returned (.int .u32 ((num xs / 2^i % 2 : Nat) : Int)) ∧ w = w' := by
  have HX := Lib.hid hx
  have n1 := hx.small
  have E := Lib.hid (num_bit hx.w32 i)
  clear hx
  by_cases hi2 : i / 32 < n
  · obtain ⟨ad, rfl, hc⟩ := HX.out.cell (j := i / 32) hi2
    have hlt := HX.out.lt (i / 32)
    rw [E.out]
    generalize hx : xs[i / 32]?.getD 0 = x at *
    clear hx
    go_enter Tryz.func217, Tryz.ntmps217
    go_wp2
    go_ret
    exact ⟨ret_int (by have := and1_u32 (x := x / 2^(i % 32)) (Nat.lt_of_le_of_lt (Nat.div_le_self _ _) hlt); rw [← this]; simp), rfl⟩
  · have h0 : num xs / 2^i % 2 = 0 := by
      rw [E.out, List.getElem?_eq_none (by rw [HX.out.len]; omega)]
      simp
    rw [h0]
    go_enter Tryz.func217, Tryz.ntmps217
    go_wp2
    go_ret
    exact ⟨rfl, rfl⟩

end Go.Proofs.YtmjkmoahkanblaaGreat

namespace Go.Proofs.YtmjkmoahkanblaaGreat
open Go.RowKit

set_option maxHeartbeats 800000 in
theorem zeros_any (A : Option Addr) (n c : Nat) (xs : List Nat) (w : World) (hx : U32s w A n c xs) (h0 : num xs ≠ 0) :
    Calls Tryz.prog 199 #[.slice A n c] w fun e w' => (∃ k : Nat, e = .returned (.int .i64 (k : Int)) ∧ k ≤ 32 * n ∧ num xs % 2^k = 0 ∧ num xs / 2^k % 2 = 1) ∧ w = w' := by
  have HX := Lib.hid hx
  have n1 := hx.small
  have l1 := wlen_le xs
  rw [hx.len] at l1
  clear hx
  have hl : 0 < wlen xs := by have := @wlen_eq_zero xs; omega
  go_enter Tryz.func199, Tryz.ntmps199
  go_wp2_with fail
  refine (words_any A n c xs w HX.out).mono ?_
  rintro e w' ⟨rfl, rfl⟩
  have hl' : ((wlen xs : Int) == 0) = false := by simp; omega
  go_wp2
  go_loop [3] (fun v => ∃ q : Nat, v = .int .i64 ((32 * q : Nat) : Int) ∧ q < wlen xs ∧ num xs % 2^(32 * q) = 0) (fun v => 32 * n - (intOf v).toNat)
  case atStart => exact ⟨0, rfl, hl, Nat.mod_one _⟩
  case round =>
    obtain ⟨q, rfl, hq, hz⟩ := hrel
    have HZ := Lib.hid hz
    clear hz
    obtain ⟨ad, e, hc⟩ := HX.out.cell (j := q) (by omega)
    cases e
    have e0 : num xs % 2^(32 * (q + 1)) = num xs % 2^(32 * q) + 2^(32 * q) * (xs[q]?.getD 0) := by
      rw [← num_word HX.out.w32, Nat.mul_add, Nat.pow_add, Nat.mod_mul]
    have E0 := Lib.hid e0
    clear e0
    rw [show ((32 * q : Nat) : Int) = 32 * (q : Int) from by omega]
    have d0 : 32 * (q : Int) / 32 = (q : Int) := by omega
    by_cases hx0 : xs[q]?.getD 0 = 0
    · rw [hx0] at hc
      have hq' : q + 1 < wlen xs := by
        have h2 := (wlen_spec xs).2
        rcases Nat.lt_or_ge (q + 1) (wlen xs) with h3 | h3
        · exact h3
        · obtain h4 : wlen xs - 1 = q := by omega
          rw [h4] at h2; omega
      have HX0 := Lib.hid hx0
      clear hx0
      go_wp2
      go_round
      case rel => exact ⟨q + 1, by go_num, hq', by rw [E0.out, HZ.out, HX0.out]; omega⟩
      case measure => simp [intOf]; omega
    · have hx1 : (((xs[q]?.getD 0 : Nat) : Int) == 0) = false := by simp; omega
      have HX0 := Lib.hid hx0
      clear hx0
      have e1 : num xs % 2^(32 * (q + 1)) ≠ 0 := by
        rw [E0.out, HZ.out, Nat.zero_add]
        exact Nat.mul_ne_zero (by have := Nat.two_pow_pos (32 * q); omega) HX0.out
      obtain ⟨Z, hZ⟩ : ∃ Z : Nat, 32 * (q + 1) = Z := ⟨_, rfl⟩
      rw [hZ] at e1
      have E1 := Lib.hid e1
      have HZZ := Lib.hid hZ
      clear e1 hZ E0
      go_wp2
      go_loop [3] (fun v => ∃ k : Nat, v = .int .i64 (k : Int) ∧ 32 * q ≤ k ∧ k < 32 * (q + 1) ∧ num xs % 2^k = 0) (fun v => 32 * (q + 1) - (intOf v).toNat)
      case atStart => exact ⟨32 * q, by go_num, by omega, by omega, HZ.out⟩
      case round =>
        obtain ⟨k, rfl, hk1, hk2, hkz⟩ := hrel
        clear hx1 hc d0
        have HK := Lib.hid hkz
        clear hkz
        have hbit := bit_any _ n c k xs w HX.out (by omega)
        obtain ⟨b, hb⟩ : ∃ b, num xs / 2^k % 2 = b := ⟨_, rfl⟩
        rw [hb] at hbit
        have HBIT := Lib.hid hbit
        have HB := Lib.hid hb
        clear hbit hb
        go_wp2_with fail
        refine HBIT.out.mono ?_
        rintro e w' ⟨rfl, rfl⟩
        go_wp2
        · have hb1 : (b : Int) = 0 := by simpa using ‹((b : Int) == 0) = true›
          have hb : b = 0 := by omega
          have hz1 : num xs % 2^(k + 1) = 0 := by
            rw [Nat.pow_succ, Nat.mod_mul, HK.out]
            rw [HB.out, hb]; omega
          have hk3 : k + 1 < 32 * (q + 1) := by
            rcases Nat.lt_or_ge (k + 1) (32 * (q + 1)) with h3 | h3
            · exact h3
            · obtain h4 : k + 1 = 32 * (q + 1) := by omega
              rw [h4] at hz1
              rw [HZZ.out] at hz1
              exact absurd hz1 E1.out
          go_round
          case rel => exact ⟨k + 1, by go_num, by omega, hk3, hz1⟩
          case measure => simp [intOf]; omega
        · have hb1 : (b : Int) ≠ 0 := by simpa using ‹((b : Int) == 0) = false›
          have hb := HB.out
          go_ret
          exact ⟨⟨k, rfl, by omega, HK.out, by omega⟩, rfl⟩

end Go.Proofs.YtmjkmoahkanblaaGreat

namespace Go.Proofs.YtmjkmoahkanblaaGreat
open Go.RowKit

theorem NewU32.nil (w : World) : NewU32 w [] (.returned (.slice none 0 0)) w := ⟨none, 0, 0, rfl, U32s.nil _ _ _, Below.refl _ _⟩

set_option maxHeartbeats 1600000 in
theorem left_any (A : Option Addr) (n c k : Nat) (xs : List Nat) (w : World) (hx : U32s w A n c xs) (hs1 : n ≤ 8589934592) (hk : k ≤ 137438953472) :
    Calls Tryz.prog 201 #[.slice A n c, .int .i64 (k : Int)] w (NewU32 w (digs (num xs * 2^k))) := by
  have HX := Lib.hid hx
  have l1 := wlen_le xs
  rw [hx.len] at l1
  have w1 := words_any A n c xs w hx
  clear hx
  obtain ⟨m, hm⟩ : ∃ m, wlen xs = m := ⟨_, rfl⟩
  rw [hm] at w1 l1
  have W1 := Lib.hid w1
  clear w1
  obtain ⟨s, hs⟩ : ∃ s, k % 32 = s := ⟨_, rfl⟩
  obtain ⟨q, hq⟩ : ∃ q, k / 32 = q := ⟨_, rfl⟩
  have hs2 : s < 32 := by omega
  have hkq : 32 * q + s = k := by omega
  have hq2 : q ≤ 4294967296 := by omega
  have d1 : (k : Int) / 32 = (q : Int) := by omega
  have d2 : (k : Int) % 32 = (s : Int) := by omega
  clear hs hq
  have HM := Lib.hid hm
  have HK := Lib.hid hkq
  clear hm hkq
  by_cases h0 : m = 0
  · subst h0
    rw [wlen_eq_zero.1 HM.out, Nat.zero_mul, digs_zero]
    go_enter Tryz.func201, Tryz.ntmps201
    go_wp2_with fail
    refine W1.out.mono ?_
    rintro e w' ⟨rfl, rfl⟩
    clear W1
    go_wp2
    go_ret
    exact NewU32.nil w
  have h0' : ((m : Int) == 0) = false := by simp; omega
  have hmk := fun W => make_u32 (N := (q : Int) + (m : Int) + 1) (n := q + m + 1) (by omega) (by omega) W
  go_enter Tryz.func201, Tryz.ntmps201
  go_wp2_with fail
  refine W1.out.mono ?_
  rintro e w' ⟨rfl, rfl⟩
  clear W1
  go_wp2
  go_loopw [8] (fun iv wr => ∃ (i : Nat) (ls : List Nat), iv = .int .i64 i ∧ i ≤ m ∧ LeftInv xs ls m q s i ∧ Arr wr w.heap.size ls ∧ Below w.heap.size w wr) (fun iv _ => m - (intOf iv).toNat)
  case atStart => exact ⟨0, _, rfl, Nat.zero_le _, LeftInv.start _ _ _ _, Arr.zeros _ _, below_alloc _ _⟩
  case round =>
    obtain ⟨i, ls, rfl, hi, hinv, harr, hb⟩ := hrel
    have HI := Lib.hid hinv
    have HA := Lib.hid harr
    clear hinv harr hmk
    by_cases hlt : i < m
    · obtain ⟨ad, e, hc⟩ := (HX.out.below hb).cell (j := i) (by omega)
      cases e
      have hx1 := HX.out.lt i
      have hst := HI.out.step (v := xs[i]?.getD 0 * 2^s) hlt hs2 HX.out.w32 rfl
      have hl1 : ls[q + i]?.getD 0 < 4294967296 := HI.out.1.get _
      have hl2 : ls[q + i]?.getD 0 < 2^s := HI.out.2.2.2.1
      have hc2 := HA.out.cell (j := q + i) (by rw [HI.out.2.1]; omega)
      have hf2 := HA.out.frozen (q + i)
      have hf3 := HA.out.frozen (q + i + 1)
      obtain ⟨x, hx⟩ : ∃ x, xs[i]?.getD 0 = x := ⟨_, rfl⟩
      obtain ⟨l, hl⟩ : ∃ l, ls[q + i]?.getD 0 = l := ⟨_, rfl⟩
      rw [hx] at hc hx1 hst
      rw [hl] at hc2 hl1 hst hl2
      have hv1 : x * 2^s < 18446744073709551616 := by
        have : 2^s ≤ 2^31 := Nat.pow_le_pow_right (by omega) (by omega)
        have : x * 2^s ≤ 4294967295 * 2^31 := Nat.mul_le_mul (by omega) this
        omega
      have hz1 : ls[q + i + 1]?.getD 0 = 0 := HI.out.2.2.1 _ (by omega)
      have hc3 := HA.out.cell (j := q + i + 1) (by rw [HI.out.2.1]; omega)
      rw [hz1] at hc3
      obtain ⟨v, hv⟩ : ∃ v, x * 2^s = v := ⟨_, rfl⟩
      have hvm : v % 4294967296 % 2^s = 0 := by
        have : 2^s ∣ 4294967296 := ⟨2^(32 - s), by rw [← Nat.pow_add, show s + (32 - s) = 32 from by omega]⟩
        rw [Nat.mod_mod_of_dvd _ this, ← hv, Nat.mul_mod_left]
      have ho := or_low_u32 hl2 hvm hl1 (by omega)
      have e1 : IntKind.u64.wrap ((x : Int) * 2^s) = (v : Int) := by
        rw [← hv]
        have := IntWalk.u64_in ((x * 2^s : Nat) : Int) (by omega)
        simpa using this
      rw [hv] at hst hv1
      have HST := Lib.hid hst
      rw [show ((v % 4294967296 : Nat) : Int) = (v : Int) % 4294967296 from by omega] at ho
      have hm := mask32_i (a := (v : Int)) (by omega) (by omega)
      have hj : ((l + v % 4294967296 : Nat) : Int) = (l : Int) + (v : Int) % 4294967296 := by omega
      rw [hj] at ho
      have hb1 : (l : Int) + (v : Int) % 4294967296 < 4294967296 := by have := hst.2.1; omega
      have hd1 : (v : Int) / 4294967296 < 4294967296 := by have := hst.2.2; omega
      clear hst hv hvm hx hl hl2 hz1 hj
      go_wp2
      go_roundw
      case rel =>
        refine ⟨i + 1, _, by go_num, by omega, HST.out.1, ?_, (hb.setCell (Nat.le_refl _) _).setCell (Nat.le_refl _) _⟩
        rw [show (l : Int) + (v : Int) % 4294967296 = ((l + v % 4294967296 : Nat) : Int) from by omega, show (v : Int) / 4294967296 = ((v / 4294967296 : Nat) : Int) from by omega]
        exact (HA.out.set _ _).set _ _
      case measure => simp [intOf]; omega
    · obtain rfl : i = m := by omega
      have hnum := HI.out.done (by rw [HM.out]; omega)
      have hu := HA.out.u32s' HI.out.1 HI.out.2.1 (by omega)
      have hnorm := norm_any _ _ _ _ wr hu (by omega)
      rw [trim_eq_digs HI.out.1, hnum, HK.out] at hnorm
      have HN := Lib.hid hnorm
      clear hnorm hu hnum
      go_wp2_with fail
      refine HN.out.mono ?_
      rintro e w'' ⟨A2, n2, c2, rfl, hu2, hb2⟩
      have H2 := Lib.hid (show NewU32 w (digs (num xs * 2^k)) (.returned (.slice A2 n2 c2)) w'' from NewU32.trans ⟨A2, n2, c2, rfl, hu2, hb2⟩ hb)
      clear hu2 hb2 hb
      go_wp2
      go_ret
      exact H2.out

end Go.Proofs.YtmjkmoahkanblaaGreat

namespace Go.Proofs.YtmjkmoahkanblaaGreat
open Go.RowKit

/-- A slice of words and a bool. -/
def NewU32B (w : World) (xs : List Nat) (b : Bool) (e : Ending) (w' : World) : Prop :=
  ∃ A n c, e = .returned (.tuple #[.slice A n c, .bool b]) ∧ U32s w' A n c xs ∧ Below w.heap.size w w'

theorem right_lost {xs : List Nat} (hx : W32 xs) (q s : Nat) (hs : s < 32) : num xs % 2^(32 * q + s) = num (xs.take q) + 2^(32 * q) * (xs[q]?.getD 0 % 2^s) := by
  rw [Nat.pow_add, Nat.mod_mul, ← num_take_mod hx, ← num_word hx]
  congr 2
  rw [show (2:Nat)^32 = 2^s * 2^(32 - s) from by rw [← Nat.pow_add, show s + (32 - s) = 32 from by omega], Nat.mod_mul_right_mod]

set_option maxRecDepth 100000 in
set_option maxHeartbeats 1600000 in
theorem right_any (A : Option Addr) (n c k : Nat) (xs : List Nat) (w : World) (hx : U32s w A n c xs) (hs1 : n ≤ 8589934592) (hk : k ≤ 137438953472) :
    Calls Tryz.prog 200 #[.slice A n c, .int .i64 (k : Int)] w (NewU32B w (digs (num xs / 2^k)) (decide (num xs % 2^k ≠ 0))) := by
  have HX := Lib.hid hx
  have l1 := wlen_le xs
  rw [hx.len] at l1
  have w1 := words_any A n c xs w hx
  clear hx
  obtain ⟨m, hm⟩ : ∃ m, wlen xs = m := ⟨_, rfl⟩
  rw [hm] at w1 l1
  have W1 := Lib.hid w1
  clear w1
  obtain ⟨s, hs⟩ : ∃ s, k % 32 = s := ⟨_, rfl⟩
  obtain ⟨q, hq⟩ : ∃ q, k / 32 = q := ⟨_, rfl⟩
  have hs2 : s < 32 := by omega
  have hkq : 32 * q + s = k := by omega
  have hq2 : q ≤ 4294967296 := by omega
  have d1 : (k : Int) / 32 = (q : Int) := by omega
  have d2 : (k : Int) % 32 = (s : Int) := by omega
  clear hs hq
  have HM := Lib.hid hm
  have HK := Lib.hid hkq
  clear hm hkq
  by_cases h0 : m = 0
  · subst h0
    rw [wlen_eq_zero.1 HM.out, Nat.zero_div, Nat.zero_mod, digs_zero]
    go_enter Tryz.func200, Tryz.ntmps200
    go_wp2_with fail
    refine W1.out.mono ?_
    rintro e w' ⟨rfl, rfl⟩
    clear W1
    go_wp2
    go_ret2
    exact ⟨none, 0, 0, rfl, U32s.nil _ _ _, Below.refl _ _⟩
  have h0' : ((m : Int) == 0) = false := by simp; omega
  by_cases hqm : m ≤ q
  · have hlt : num xs < 2^k := by
      refine Nat.lt_of_lt_of_le (num_lt_wlen HX.out.w32) (Nat.pow_le_pow_right (by omega) ?_)
      rw [HM.out, ← HK.out]; omega
    have hne : num xs ≠ 0 := by
      have := @wlen_eq_zero xs
      rw [HM.out] at this; omega
    rw [Nat.div_eq_of_lt hlt, Nat.mod_eq_of_lt hlt, digs_zero, decide_eq_true hne]
    clear hlt hne
    go_enter Tryz.func200, Tryz.ntmps200
    go_wp2_with fail
    refine W1.out.mono ?_
    rintro e w' ⟨rfl, rfl⟩
    clear W1
    go_wp2
    go_ret2
    exact ⟨none, 0, 0, rfl, U32s.nil _ _ _, Below.refl _ _⟩
  obtain ⟨ad, rfl, hc⟩ := HX.out.cell (j := q) (by omega)
  have hx1 := HX.out.lt q
  obtain ⟨x, hx⟩ : ∃ x, xs[q]?.getD 0 = x := ⟨_, rfl⟩
  rw [hx] at hc hx1
  have HXX := Lib.hid hx
  clear hx
  obtain ⟨s', hs'⟩ : ∃ s', s + s' = 31 := ⟨31 - s, by omega⟩
  have d3 : (31 : Int) - (s : Int) = (s' : Int) := by omega
  obtain ⟨z, hz⟩ : ∃ z, x * 2^s' % 4294967296 * 2 % 4294967296 = z := ⟨_, rfl⟩
  have hz0 : z = 0 ↔ x % 2^s = 0 := by
    have e1 : z = 2^(s' + 1) * (x % 2^s) := by
      rw [← hz, Nat.pow_succ, show x * 2^s' % 4294967296 * 2 % 4294967296 = x * (2^s' * 2) % 4294967296 from by rw [← Nat.mul_assoc]; omega]
      rw [← Nat.pow_succ, Nat.mul_comm x, show (4294967296 : Nat) = 2^(s' + 1) * 2^s from by rw [← Nat.pow_add, show s' + 1 + s = 32 from by omega], Nat.mul_mod_mul_left]
    rw [e1]
    have := Nat.two_pow_pos (s' + 1)
    constructor
    · intro h
      rcases Nat.mul_eq_zero.1 h with h | h
      · omega
      · exact h
    · intro h; rw [h]; rfl
  have d4 : (x : Int) * 2^s' % 4294967296 * 2 % 4294967296 = (z : Int) := by
    rw [← hz, show (x : Int) * 2^s' = ((x * 2^s' : Nat) : Int) from by simp]; omega
  have HZ := Lib.hid hz0
  clear hz0 hz hs'
  have hinit : ∀ lost : Bool, lost = decide (x % 2^s ≠ 0) → lost = decide (xs[q]?.getD 0 % 2^s ≠ 0 ∨ num (xs.take 0) ≠ 0) := by
    intro lost h
    rw [h, HXX.out]; simp [num]
  have HIN := Lib.hid hinit
  clear hinit
  by_cases hzz : z = 0
  case' pos =>
    have hl := HIN.out false (by rw [decide_eq_false (by rw [HZ.out.1 hzz]; omega)])
    have HL := Lib.hid hl
    clear hl HZ HIN
    have g1 : ((z : Int) == 0) = true := by simp; exact hzz
    have g2 : ((z : Int) != 0) = false := by simp; exact hzz
    go_enter Tryz.func200, Tryz.ntmps200
    go_wp2_with fail
    refine W1.out.mono ?_
    rintro e w' ⟨rfl, rfl⟩
    clear W1
    go_wp2
    clear g1 g2 hzz d4 hc
  case' neg =>
    have hx0 : x % 2^s ≠ 0 := fun h => hzz (HZ.out.2 h)
    have hl := HIN.out true (by rw [decide_eq_true hx0])
    have HL := Lib.hid hl
    have hs0 : 0 < s := by
      rcases Nat.eq_zero_or_pos s with h | h
      · subst h; simp [Nat.mod_one] at hx0
      · exact h
    clear hl HZ HIN hx0
    have g1 : ((z : Int) == 0) = false := by simp; exact hzz
    have g2 : ((z : Int) != 0) = true := by simp; exact hzz
    have g3 : (0 : Int) < (s : Int) := by omega
    go_enter Tryz.func200, Tryz.ntmps200
    go_wp2_with fail
    refine W1.out.mono ?_
    rintro e w' ⟨rfl, rfl⟩
    clear W1
    go_wp2
    clear g1 g2 hzz d4 hc g3 hs0
  all_goals
    go_loop [8, 9] (fun bv iv => ∃ (i : Nat) (b : Bool), iv = .int .i64 i ∧ bv = .bool b ∧ i ≤ q ∧ b = decide (xs[q]?.getD 0 % 2^s ≠ 0 ∨ num (xs.take i) ≠ 0)) (fun _ iv => q - (intOf iv).toNat)
    case atStart => exact ⟨0, _, rfl, rfl, Nat.zero_le _, HL.out⟩
    case round =>
      clear HL
      obtain ⟨i, b, rfl, rfl, hi, hbv⟩ := hrel
      have HB := Lib.hid hbv
      clear hbv
      by_cases hlt : i < q
      · obtain ⟨ad', e, hc'⟩ := HX.out.cell (j := i) (by omega)
        cases e
        have hy1 := HX.out.lt i
        have hstep : ∀ b' : Bool, b' = (b || decide (xs[i]?.getD 0 ≠ 0)) → b' = decide (xs[q]?.getD 0 % 2^s ≠ 0 ∨ num (xs.take (i + 1)) ≠ 0) := by
          intro b' h
          rw [h, HB.out, num_take_next]
          have hp := Nat.two_pow_pos (32 * i)
          rw [Bool.eq_iff_iff]
          simp only [Bool.or_eq_true, decide_eq_true_eq]
          have : (num (xs.take i) + 2^(32 * i) * xs[i]?.getD 0 ≠ 0) ↔ (num (xs.take i) ≠ 0 ∨ xs[i]?.getD 0 ≠ 0) := by
            constructor
            · intro h1
              by_cases h2 : xs[i]?.getD 0 = 0
              · left; rw [h2] at h1; simpa using h1
              · exact .inr h2
            · intro h1
              rcases h1 with h1 | h1
              · omega
              · have := Nat.mul_pos hp (Nat.pos_of_ne_zero h1); omega
          rw [this, or_assoc]
        have HS := Lib.hid hstep
        clear hstep
        obtain ⟨y, hy⟩ : ∃ y, xs[i]?.getD 0 = y := ⟨_, rfl⟩
        rw [hy] at hc' hy1
        have HYY := Lib.hid hy
        clear hy
        cases b
        · go_wp2
          go_round
          case rel => exact ⟨i + 1, _, by go_num, rfl, by omega, HS.out _ (by rw [HYY.out]; simp [bne]; rw [Bool.eq_iff_iff]; simp)⟩
          case measure => simp [intOf]; omega
        · go_wp2
          go_round
          case rel => exact ⟨i + 1, _, by go_num, rfl, by omega, HS.out _ (by simp)⟩
          case measure => simp [intOf]; omega
      · obtain rfl : i = q := by omega
        go_wp2
        go_loopw [10, 11] (fun v iv wr => ∃ (t : Nat) (ls : List Nat), iv = .int .i64 ((i + t : Nat) : Int) ∧ i + t ≤ m ∧ RightInv xs ls i s t ∧ Own wr w.heap.size v ls ∧ Below w.heap.size w wr) (fun _ iv _ => m - (intOf iv).toNat)
        case atStart => exact ⟨0, [], by go_num, by omega, RightInv.start _ _ _, Own.nil _ _, Below.refl _ _⟩
        case round =>
          obtain ⟨t, ls, rfl, ht, hinv, hown, hb⟩ := hrel
          have HI := Lib.hid hinv
          have HO := Lib.hid hown
          clear hinv hown
          have hbs := hb.size
          by_cases hlt3 : i + t < m
          · obtain ⟨ad', e, hc⟩ := (HX.out.below hb).cell (j := i + t) (by omega)
            cases e
            have hy1 := HX.out.lt (i + t)
            have hy2 := HX.out.lt (i + t + 1)
            obtain ⟨x1, hx1'⟩ : ∃ x1, xs[i + t + 1]?.getD 0 = x1 := ⟨_, rfl⟩
            obtain ⟨x0, hx0'⟩ : ∃ x0, xs[i + t]?.getD 0 = x0 := ⟨_, rfl⟩
            rw [hx0'] at hc hy1
            rw [hx1'] at hy2
            obtain ⟨v, hv⟩ : ∃ v, x0 + 4294967296 * x1 = v := ⟨_, rfl⟩
            have hv1 : v < 18446744073709551616 := by omega
            obtain ⟨u, hu⟩ : ∃ u, v / 2^s = u := ⟨_, rfl⟩
            have hu1 : u < 18446744073709551616 := by rw [← hu]; exact Nat.lt_of_le_of_lt (Nat.div_le_self _ _) hv1
            have hd : (v : Int) / 2^s = (u : Int) := by rw [← hu]; simp
            have hm := mask32_i (a := (u : Int)) (by omega) (by omega)
            have hst := HI.out.step (v := v) HX.out.w32 hs2 (by rw [hx0', hx1']; exact hv.symm)
            rw [hu] at hst
            have HST := Lib.hid hst
            clear hst hu
            have hor := or_join' (i := 32) (x := x1) (y := x0) (by omega) (by omega) (by omega)
            rw [show x0 + x1 * 2^32 = v from by rw [← hv]; omega, show ((x1 * 2^32 : Nat) : Int) = (x1 : Int) * 4294967296 from by omega] at hor
            have hcell : i + t + 1 < m → wr.cell? (ad.add (i + t + 1)) = some (wd x1) := by
              intro h
              have hc2 := (HX.out.below hb).cellAt (j := i + t + 1) (by omega)
              rw [hx1'] at hc2; exact hc2
            have hnot : ¬ i + t + 1 < m → x0 = v := by
              intro h
              have h1 := (wlen_spec xs).1 (i + t + 1) (by rw [HM.out]; omega)
              rw [hx1'] at h1; omega
            have HC := Lib.hid hcell
            have HN := Lib.hid hnot
            clear hcell hnot hx1' hx0' hv
            rw [show ((i + t : Nat) : Int) = (i : Int) + (t : Int) from by omega]
            have j1 : ((i : Int) + (t : Int)).toNat = i + t := by omega
            have j2 : ((i : Int) + (t : Int) + 1).toNat = i + t + 1 := by omega
            by_cases h4 : i + t + 1 < m
            · have hc2 := HC.out h4
              rw [show ad.add (i + t + 1) = ⟨ad.block, ad.off + (i + t + 1), none⟩ from by simp [Addr.add]] at hc2
              clear HC HN
              go_wp2_with (at_builtin; refine wpList_append_u32 _ rfl _ _ rfl w.heap.size _ ls rfl (HO.out.alloc _) ⟨_, 0, none⟩ 1 (u % 4294967296) rfl ?c1 ?c2 ?c3 ?_)
              case c1 => simp
              case c2 => rw [HI.out.2.1]; omega
              case c3 => simp; omega
              intro v' w' hown' hgrow
              have HO' := Lib.hid hown'
              have hb' : Below w.heap.size w w' := (hb.alloc hbs _).grown hgrow (by simp; omega) (fun g hg => (HO.out.lt g hg).1)
              clear hown' hb hgrow hc hbs hm
              go_wp2
              go_roundw
              case rel => exact ⟨t + 1, _, by go_num, by omega, HST.out, HO'.out, hb'⟩
              case measure => simp [intOf]; omega
            · obtain rfl := HN.out h4
              clear HC HN hor
              go_wp2_with (at_builtin; refine wpList_append_u32 _ rfl _ _ rfl w.heap.size _ ls rfl (HO.out.alloc _) ⟨_, 0, none⟩ 1 (u % 4294967296) rfl ?c1 ?c2 ?c3 ?_)
              case c1 => simp
              case c2 => rw [HI.out.2.1]; omega
              case c3 => simp; omega
              intro v' w' hown' hgrow
              have HO' := Lib.hid hown'
              have hb' : Below w.heap.size w w' := (hb.alloc hbs _).grown hgrow (by simp; omega) (fun g hg => (HO.out.lt g hg).1)
              clear hown' hb hgrow hc hbs hm
              go_wp2
              go_roundw
              case rel => exact ⟨t + 1, _, by go_num, by omega, HST.out, HO'.out, hb'⟩
              case measure => simp [intOf]; omega
          · have hnum := HI.out.done HX.out.w32 (by rw [HM.out]; omega)
            rw [HK.out] at hnum
            have hlost := right_lost HX.out.w32 i s hs2
            rw [HK.out] at hlost
            have hbb : b = decide (num xs % 2^k ≠ 0) := by
              rw [HB.out, hlost, Bool.eq_iff_iff]
              simp only [decide_eq_true_eq]
              have hp := Nat.two_pow_pos (32 * i)
              constructor
              · intro h
                rcases h with h | h
                · have := Nat.mul_pos hp (Nat.pos_of_ne_zero h); omega
                · omega
              · intro h
                by_cases h2 : xs[i]?.getD 0 % 2^s = 0
                · right; rw [h2] at h; simpa using h
                · exact .inl h2
            obtain ⟨A', c', rfl⟩ := HO.out.form
            have hu := HO.out.u32s rfl HI.out.1 (by rw [HI.out.2.1]; omega)
            have hnorm := norm_any _ _ _ _ wr hu (by rw [HI.out.2.1]; omega)
            rw [trim_eq_digs HI.out.1, hnum] at hnorm
            have HN := Lib.hid hnorm
            have HBB := Lib.hid hbb
            clear hnorm hu hnum hlost hbb
            go_wp2_with fail
            refine HN.out.mono ?_
            rintro e w'' ⟨A2, n2, c2, rfl, hu2, hb2⟩
            have H2 := Lib.hid (show NewU32B w (digs (num xs / 2^k)) (decide (num xs % 2^k ≠ 0)) (.returned (.tuple #[.slice A2 n2 c2, .bool b])) w'' from ⟨A2, n2, c2, by rw [HBB.out], hu2, hb.trans (hb2.mono hbs)⟩)
            clear hu2 hb2 hb
            go_wp2
            go_ret2
            exact H2.out

end Go.Proofs.YtmjkmoahkanblaaGreat

namespace Go.Proofs.YtmjkmoahkanblaaGreat
open Go.RowKit

set_option maxHeartbeats 1600000 in
theorem times_any (A B : Option Addr) (n c m d : Nat) (xs ys : List Nat) (w : World) (hx : U32s w A n c xs) (hy : U32s w B m d ys) (hs1 : n ≤ 8589934592) (hs2 : m ≤ 8589934592) :
    Calls Tryz.prog 143 #[.slice A n c, .slice B m d] w (NewU32 w (digs (num xs * num ys))) := by
  have HX := Lib.hid hx
  have HY := Lib.hid hy
  have l1 := wlen_le xs
  have l2 := wlen_le ys
  rw [hx.len] at l1
  rw [hy.len] at l2
  have w1 := words_any A n c xs w hx
  have w2 := words_any B m d ys w hy
  clear hx hy
  obtain ⟨p, hp⟩ : ∃ p, wlen xs = p := ⟨_, rfl⟩
  obtain ⟨q, hq⟩ : ∃ q, wlen ys = q := ⟨_, rfl⟩
  rw [hp] at w1 l1
  rw [hq] at w2 l2
  have W1 := Lib.hid w1
  have W2 := Lib.hid w2
  have HP := Lib.hid hp
  have HQ := Lib.hid hq
  clear w1 w2 hp hq
  have hmk := fun W => make_u32 (N := (p : Int) + (q : Int)) (n := p + q) (by omega) (by omega) W
  go_enter Tryz.func143, Tryz.ntmps143
  go_wp2_with fail
  refine W1.out.mono ?_
  rintro e w' ⟨rfl, rfl⟩
  go_wp2_with fail
  refine W2.out.mono ?_
  rintro e w' ⟨rfl, rfl⟩
  go_wp2
  go_loopw [8] (fun jv wr => ∃ (j : Nat) (ls : List Nat), jv = .int .i64 j ∧ j ≤ q ∧ TimesOut xs ys ls p q j ∧ Arr wr w.heap.size ls ∧ Below w.heap.size w wr) (fun jv _ => q - (intOf jv).toNat)
  case atStart => exact ⟨0, _, rfl, Nat.zero_le _, TimesOut.start _ _ _ _, Arr.zeros _ _, below_alloc _ _⟩
  case round =>
    obtain ⟨j, ls, rfl, hj, hinv, harr, hb⟩ := hrel
    have HI := Lib.hid hinv
    have HA := Lib.hid harr
    clear hinv harr hmk W1 W2
    have hbs := hb.size
    by_cases hlt : j < q
    · obtain ⟨ad', e, hc'⟩ := (HY.out.below hb).cell (j := j) (by omega)
      cases e
      have hy1 := HY.out.lt j
      by_cases hy0 : ys[j]?.getD 0 = 0
      · rw [hy0] at hc'
        have HZ := Lib.hid hy0
        clear hy0
        go_wp2
        go_roundw
        case rel => exact ⟨j + 1, ls, by go_num, hlt, HI.out.skip HZ.out, HA.out, hb⟩
        case measure => simp [intOf]; omega
      · obtain ⟨y, hy⟩ : ∃ y, ys[j]?.getD 0 = y := ⟨_, rfl⟩
        rw [hy] at hc' hy1 hy0
        have HYY := Lib.hid hy
        have hy2 : ((y : Int) == 0) = false := by simp; omega
        clear hy hy0
        obtain ⟨wo, rfl⟩ : ∃ wo : World, wo = wr := ⟨_, rfl⟩
        go_wp2
        go_loopw [10, 11] (fun cv iv wr => ∃ (i k : Nat) (ls' : List Nat), iv = .int .i64 i ∧ cv = .int .u64 k ∧ i ≤ p ∧ TimesIn xs ls' ls p q j i y k ∧ Arr wr w.heap.size ls' ∧ Below w.heap.size w wr) (fun _ iv _ => p - (intOf iv).toNat)
        case atStart => exact ⟨0, 0, ls, rfl, rfl, Nat.zero_le _, TimesIn.start y HI.out, HA.out, hb⟩
        case round =>
          clear hb hbs HA hc'
          obtain ⟨i, k, ls', rfl, rfl, hi, hin, harr, hb⟩ := hrel
          have hk := hin.2.2.2.1
          have HIN := Lib.hid hin
          have HA := Lib.hid harr
          clear hin harr
          by_cases hlt2 : i < p
          · obtain ⟨ad, e, hc⟩ := (HX.out.below hb).cell (j := i) (by omega)
            cases e
            have hx1 := HX.out.lt i
            have hc2 := HA.out.cell (j := i + j) (by rw [HIN.out.2.1]; omega)
            have hf2 := HA.out.frozen (i + j)
            have hl1 : ls'[i + j]?.getD 0 < 4294967296 := HIN.out.1.get (i + j)
            obtain ⟨x, hx⟩ : ∃ x, xs[i]?.getD 0 = x := ⟨_, rfl⟩
            obtain ⟨l, hl⟩ : ∃ l, ls'[i + j]?.getD 0 = l := ⟨_, rfl⟩
            rw [hx] at hc hx1
            rw [hl] at hc2 hl1
            have HXX := Lib.hid hx
            have HLL := Lib.hid hl
            clear hx hl
            have hz1 : x * y ≤ 4294967295 * 4294967295 := Nat.mul_le_mul (by omega) (by omega)
            obtain ⟨z, hz⟩ : ∃ z, x * y = z := ⟨_, rfl⟩
            rw [hz] at hz1
            have e1 : (x : Int) * (y : Int) = (z : Int) := by rw [← hz]; simp
            have HZ := Lib.hid hz
            clear hz
            have hij : ((i : Int) + (j : Int)) < ((p + q : Nat) : Int) := by omega
            have b1 : ((i : Int) + (j : Int)).toNat = i + j := by omega
            have hm := mask32_i (a := (k : Int) + (l : Int) + (z : Int)) (by omega) (by omega)
            go_wp2_with fail
            go_quiet (fail)
            go_wp2
            go_roundw
            case rel =>
              refine ⟨i + 1, (k + l + z) / 4294967296, ls'.set (i + j) ((k + l + z) % 4294967296), by go_num, by go_num, by omega, ?_, ?_, (below_drewN hb _).setCell (Nat.le_refl _) _⟩
              · exact HIN.out.step hlt2 hlt HX.out.w32 hy1 (by rw [HXX.out, HLL.out, HZ.out])
              · have := (HA.out.drewN nq).set (i + j) ((k + l + z) % 4294967296)
                rw [show ((k : Int) + (l : Int) + (z : Int)) % 4294967296 = (((k + l + z) % 4294967296 : Nat) : Int) from by omega]
                exact this
            case measure => simp [intOf]; omega
          · obtain rfl : i = p := by omega
            have hc2 := HA.out.cell (j := j + i) (by rw [HIN.out.2.1]; omega)
            have hf2 := HA.out.frozen (j + i)
            have hij : ((j : Int) + (i : Int)) < ((i + q : Nat) : Int) := by omega
            have b1 : ((j : Int) + (i : Int)).toNat = j + i := by omega
            have hk2 : (k : Int) % 4294967296 = (k : Int) := by omega
            obtain ⟨l, hl⟩ : ∃ l, ls'[j + i]?.getD 0 = l := ⟨_, rfl⟩
            rw [hl] at hc2
            clear hl
            go_wp2
            go_roundw
            case rel =>
              exact ⟨j + 1, ls'.set (j + i) k, by go_num, hlt, HIN.out.done HI.out hlt (by rw [HP.out]; omega) HYY.out, HA.out.set _ _, hb.setCell (Nat.le_refl _) _⟩
            case measure => simp [intOf]; omega
    · obtain rfl : j = q := by omega
      have hnum := HI.out.done (by rw [HQ.out]; omega)
      have hu := HA.out.u32s' HI.out.1 HI.out.2.1 (by omega)
      have hnorm := norm_any _ _ _ _ wr hu (by omega)
      rw [trim_eq_digs HI.out.1, hnum] at hnorm
      have HN := Lib.hid hnorm
      clear hnorm hu hnum
      go_wp2_with fail
      refine HN.out.mono ?_
      rintro e w'' ⟨A2, n2, c2, rfl, hu2, hb2⟩
      have H2 := Lib.hid (show NewU32 w (digs (num xs * num ys)) (.returned (.slice A2 n2 c2)) w'' from NewU32.trans ⟨A2, n2, c2, rfl, hu2, hb2⟩ hb)
      clear hu2 hb2 hb
      go_wp2
      go_ret
      exact H2.out

end Go.Proofs.YtmjkmoahkanblaaGreat
