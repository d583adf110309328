/-
Walks: package vergeref2, Plus.
-/
import Derived.Test.YtmjkmoahkanblaaGreatM01
set_option linter.unusedSimpArgs false
set_option linter.unusedVariables false

namespace Go.Proofs.YtmjkmoahkanblaaGreat
open Go.RowKit

set_option maxHeartbeats 1600000 in
theorem plus_any (A B : Option Addr) (n c m d : Nat) (xs ys : List Nat) (w : World) (hx : U32s w A n c xs) (hy : U32s w B m d ys) (hs1 : n ≤ 34359738360) (hs2 : m ≤ 34359738360) :
    Calls Tryz.prog 197 #[.slice A n c, .slice B m d] w (NewU32 w (digs (num xs + num ys))) := by
  have HX := Lib.hid hx
  have HY := Lib.hid hy
  clear hx hy
  go_enter Tryz.func197, Tryz.ntmps197
  go_wp2
  go_loopw [5, 6, 7] (fun v cv iv wr => ∃ (i k : Nat) (ls : List Nat), iv = .int .i64 i ∧ cv = .int .u64 k ∧ i ≤ max n m ∧ PlusInv xs ys ls i k ∧ Own wr w.heap.size v ls ∧ Below w.heap.size w wr) (fun _ _ iv _ => max n m - (intOf iv).toNat)
  case atStart => exact ⟨0, 0, [], rfl, rfl, Nat.zero_le _, PlusInv.start _ _, Own.nil _ _, Below.refl _ _⟩
  case round =>
    obtain ⟨i, k, ls, rfl, rfl, hi, hinv, hown, hb⟩ := hrel
    have hk1 := hinv.carry
    have hlen := hinv.len
    have HI := Lib.hid hinv
    have HO := Lib.hid hown
    clear hinv hown
    have hbs := hb.size
    have HL := Lib.hid hlen
    clear hlen
    by_cases ha : i < n
    · obtain ⟨ad, e, hc⟩ := (HX.out.below hb).cell (j := i) ha
      cases e
      have hx1 := HX.out.lt i
      by_cases hbb : i < m
      · obtain ⟨ad', e, hc'⟩ := (HY.out.below hb).cell (j := i) hbb
        cases e
        have hy1 := HY.out.lt i
        have hm := mask32_i (a := (k : Int) + ((xs[i]?.getD 0 : Nat) : Int) + ((ys[i]?.getD 0 : Nat) : Int)) (by omega) (by omega)
        go_wp2_with (at_builtin; refine wpList_append_u32 _ rfl _ _ rfl w.heap.size _ ls rfl (HO.out.alloc _) ⟨_, 0, none⟩ 1 ((k + xs[i]?.getD 0 + ys[i]?.getD 0) % 4294967296) rfl ?c1 ?c2 ?c3 ?_)
        case c1 => simp
        case c2 => rw [HL.out]; omega
        case c3 => simp; omega
        intro v' w' hown' hgrow
        have HO' := Lib.hid hown'
        have hb' : Below w.heap.size w w' := (hb.alloc hbs _).grown hgrow (by simp; omega) (fun g hg => (HO.out.lt g hg).1)
        clear hown' hb hgrow hc hc' hbs hm
        go_wp2
        go_roundw
        case rel => exact ⟨i + 1, (k + xs[i]?.getD 0 + ys[i]?.getD 0) / 4294967296, _, by go_num, by go_num, by omega, HI.out.step HX.out.w32 HY.out.w32 (by rfl), HO'.out, hb'⟩
        case measure => simp [intOf]; omega
      · have HZ := Lib.hid (show ys[i]?.getD 0 = 0 by rw [List.getElem?_eq_none (by rw [HY.out.len]; omega)]; rfl)
        have hm := mask32_i (a := (k : Int) + ((xs[i]?.getD 0 : Nat) : Int)) (by omega) (by omega)
        go_wp2_with (at_builtin; refine wpList_append_u32 _ rfl _ _ rfl w.heap.size _ ls rfl (HO.out.alloc _) ⟨_, 0, none⟩ 1 ((k + xs[i]?.getD 0) % 4294967296) rfl ?c1 ?c2 ?c3 ?_)
        case c1 => simp
        case c2 => rw [HL.out]; omega
        case c3 => simp; omega
        intro v' w' hown' hgrow
        have HO' := Lib.hid hown'
        have hb' : Below w.heap.size w w' := (hb.alloc hbs _).grown hgrow (by simp; omega) (fun g hg => (HO.out.lt g hg).1)
        clear hown' hb hgrow hc hbs hm
        go_wp2
        go_roundw
        case rel => exact ⟨i + 1, (k + xs[i]?.getD 0) / 4294967296, _, by go_num, by go_num, by omega, HI.out.step HX.out.w32 HY.out.w32 (by rw [HZ.out]; rfl), HO'.out, hb'⟩
        case measure => simp [intOf]; omega
    · have HZ := Lib.hid (show xs[i]?.getD 0 = 0 by rw [List.getElem?_eq_none (by rw [HX.out.len]; omega)]; rfl)
      by_cases hbb : i < m
      · obtain ⟨ad', e, hc'⟩ := (HY.out.below hb).cell (j := i) hbb
        cases e
        have hy1 := HY.out.lt i
        have hm := mask32_i (a := (k : Int) + ((ys[i]?.getD 0 : Nat) : Int)) (by omega) (by omega)
        go_wp2_with (at_builtin; refine wpList_append_u32 _ rfl _ _ rfl w.heap.size _ ls rfl (HO.out.alloc _) ⟨_, 0, none⟩ 1 ((k + ys[i]?.getD 0) % 4294967296) rfl ?c1 ?c2 ?c3 ?_)
        case c1 => simp
        case c2 => rw [HL.out]; omega
        case c3 => simp; omega
        intro v' w' hown' hgrow
        have HO' := Lib.hid hown'
        have hb' : Below w.heap.size w w' := (hb.alloc hbs _).grown hgrow (by simp; omega) (fun g hg => (HO.out.lt g hg).1)
        clear hown' hb hgrow hc' hbs hm
        go_wp2
        go_roundw
        case rel => exact ⟨i + 1, (k + ys[i]?.getD 0) / 4294967296, _, by go_num, by go_num, by omega, HI.out.step HX.out.w32 HY.out.w32 (by rw [HZ.out]; rfl), HO'.out, hb'⟩
        case measure => simp [intOf]; omega
      · have hd := HI.out.done (by rw [HX.out.len]; omega) (by rw [HY.out.len]; omega)
        have HD := Lib.hid hd
        clear hd
        go_wp2_with (at_builtin; refine wpList_append_u32 _ rfl _ _ rfl w.heap.size _ ls rfl (HO.out.alloc _) ⟨_, 0, none⟩ 1 k rfl ?c1 ?c2 ?c3 ?_)
        case c1 => simp
        case c2 => rw [HL.out]; omega
        case c3 => simp; omega
        intro v' w' hown' hgrow
        have HO' := Lib.hid hown'
        have hb' : Below w.heap.size w w' := (hb.alloc hbs _).grown hgrow (by simp; omega) (fun g hg => (HO.out.lt g hg).1)
        clear hown' hb hgrow hbs
        obtain ⟨A', c', rfl⟩ := HO'.out.form_snoc
        have hu := HO'.out.u32s (by simp) HD.out.2 (by simp; rw [HL.out]; omega)
        have hnorm := norm_any _ _ _ _ w' hu (by rw [HL.out]; omega)
        rw [HD.out.1] at hnorm
        have HN := Lib.hid hnorm
        clear hnorm hu
        go_wp2_with fail
        refine HN.out.mono ?_
        rintro e w'' ⟨A2, n2, c2, rfl, hu2, hb2⟩
        have H2 := Lib.hid (show NewU32 w (digs (num xs + num ys)) (.returned (.slice A2 n2 c2)) w'' from NewU32.trans ⟨A2, n2, c2, rfl, hu2, hb2⟩ hb')
        clear hu2 hb2 hb'
        go_wp2
        go_ret
        exact H2.out

end Go.Proofs.YtmjkmoahkanblaaGreat
