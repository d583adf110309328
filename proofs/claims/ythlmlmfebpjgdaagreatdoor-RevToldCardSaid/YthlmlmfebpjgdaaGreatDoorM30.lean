/-
Lemmas for the statement: RchT InvT Dek.
-/
import Derived.Test.YthlmlmfebpjgdaaGreatDoorM29
import Derived.Test.YthlmlmfebpjgdaaGreatDoorM02
import Derived.Test.YthlmlmfebpjgdaaGreatDoorM14
import Derived.Deep.DeepCutAuto
import Derived.Test.YthlmlmfebpjgdaaGreatDoorPCut2T
import Derived.Test.YthlmlmfebpjgdaaGreatDoorM08
set_option linter.unusedSimpArgs false
set_option linter.unusedVariables false
set_option maxHeartbeats 12800000
namespace Go.Proofs.YthlmlmfebpjgdaaGreatDoor
section
open Go.RowKit
def rch(j:Int)(n k:Nat):Bool:=decide (k=0\/((k:Int)<M/\j<=rndI (-1) (1 / fl (k:Int) ^ n)))
def CapR(w W':World)(Bn By n:Nat)(j:Int):Prop:=W'.cell? ⟨Bn,0,none⟩=some (.int .i64 (n:Int))/\W'.cell? ⟨By,0,none⟩=some (.float .f64 (pat j))/\Tab W'/\(Bn<W'.heap.size/\By<W'.heap.size)/\Below w.heap.size w W'
theorem CapR.after{w W':World}{Bn By n:Nat}{j:Int}(h:CapR w w Bn By n j)(hb0:Below w.heap.size w W'):CapR w W' Bn By n j:=by
 have hHeld:=h
 exact⟨(hb0.cell (p:=⟨Bn,0,none⟩) hHeld.2.2.2.1.1).trans hHeld.1,(hb0.cell (p:=⟨By,0,none⟩) hHeld.2.2.2.1.2).trans hHeld.2.1,hHeld.2.2.1.below hb0,⟨Nat.lt_of_lt_of_le hHeld.2.2.2.1.1 hb0.size,Nat.lt_of_lt_of_le hHeld.2.2.2.1.2 hb0.size⟩,hb0⟩
theorem CapR.drewS{w W':World}{Bn By n:Nat}{j:Int}(h:CapR w W' Bn By n j):W'.drew.cell? ⟨Bn,0,none⟩=some (.int .i64 (n:Int))/\W'.drew.cell? ⟨By,0,none⟩=some (.float .f64 (pat j))/\Tab W'.drew/\(Bn<W'.drew.heap.size/\By<W'.drew.heap.size)/\Below w.heap.size w W'.drew:=by
 obtain⟨h1,h2,h3,⟨h4,h5⟩,h6⟩:=h
 exact⟨by simpa using h1,by simpa using h2,h3.drew,⟨by simpa using h4,by simpa using h5⟩,h6.drew⟩
set_option maxRecDepth 8000 in
theorem reaches_walk(n k Bn By r:Nat)(j:Int)(o:Ordering)(i b:Bool)(w:World)(hk:(k:Int)<9223372036854775807)(hn2:n<=1024)
  (hA:∀ W,Rt 247 #[.int .i64 (k:Int)] (.tuple #[.float .f64 k,.bool true]) W)
  (hI:∀ W,Rt 161 #[.float .f64 k,.int .i64 1] (.bool i) W)
  (hP:k≠0->i=false->∀ W,Tab W->Rt 248 #[.int .i64 (-1),.float .f64 k,.int .i64 (-(n:Int))] (.float .f64 r) W)
  (ho:FloatKind.f64.format.order r (pat j)=some o)(hb:b=decide (k=0\/(i=false/\o≠.lt)))
  (hc:CapR w w Bn By n j):
  Rt 246 #[.int .i64 (k:Int),.pointer (some ⟨Bn,0,none⟩),.pointer (some ⟨By,0,none⟩)] (.bool b) w:=by
 have HA:=Hd hA;have HI:=Hd hI;have HC:=Hd hc
 have hw:IntKind.i64.wrap (-(n:Int))=-(n:Int):=by rw [IntKind.wrap_i64];omega
 have hw2:wrap64 (-(n:Int))=-(n:Int):=by unfold wrap64;omega
 clear hA hI hc
 rcases Nat.eq_zero_or_pos k with h0 | h0
 ·subst h0
  have hb1:b=true:=by rw [hb];simp
  subst hb1;clear hb hP ho
  go_enter Tryz.func246,Tryz.ntmps246
  go_wp2_with fail;refine cx (HA.out _) fun w1 hb0=>?_;have HS:=Hd (CapR.after HC.out hb0);clear hb0 HC HA;go_wp2_with fail;refine wp_region_held_drew (S:=fun W'=>W'.cell? ⟨Bn,0,none⟩=some (.int .i64 (n:Int))/\W'.cell? ⟨By,0,none⟩=some (.float .f64 (pat j))/\Tab W'/\(Bn<W'.heap.size/\By<W'.heap.size)/\Below w.heap.size w W') (by kernel_rfl) (by exact HS.out.drewS) (fun hHeld=>?_);refine wpAnyH_take (i:=0) (v:=?_) rfl (by kernel_rfl) (by kernel_rfl) (by kernel_rfl) (fun _ _ _ h=>h) (Or.inl ⟨by rfl,?_⟩) (by assumption) ?_
  rotate_left
  ·(intro W2 hSw;go_simp;(try with_reducible rfl))
  (try simp only [Act.put,lay]);refine wpAnyH_take (i:=1) (v:=?_) rfl (by kernel_rfl) (by kernel_rfl) (by kernel_rfl) (fun _ _ _ h=>h) (Or.inl ⟨by rfl,?_⟩) (by assumption) ?_
  rotate_left
  ·(intro W2 hSw;go_simp;(try with_reducible rfl))
  (try simp only [Act.put,lay]);refine wpAnyH_take (i:=2) (v:=?_) rfl (by kernel_rfl) (by kernel_rfl) (by kernel_rfl) (fun _ _ _ h=>h) (Or.inl ⟨by rfl,?_⟩) (by assumption) ?_
  rotate_left
  ·(intro W2 hSw;go_simp;(try with_reducible rfl))
  (try simp only [Act.put,lay]);refine wpAnyH_take (i:=3) (v:=undef) rfl (by kernel_rfl) (by kernel_rfl) (by kernel_rfl) (fun _ _ _ h=>h) (Or.inr ⟨by rfl,rfl⟩) (by assumption) ?_;(try simp only [Act.put,lay]);refine wpAnyH_take (i:=4) (v:=undef) rfl (by kernel_rfl) (by kernel_rfl) (by kernel_rfl) (fun _ _ _ h=>h) (Or.inr ⟨by rfl,rfl⟩) (by assumption) ?_;(try simp only [Act.put,lay]);refine wpAnyH_take (i:=5) (v:=undef) rfl (by kernel_rfl) (by kernel_rfl) (by kernel_rfl) (fun _ _ _ h=>h) (Or.inr ⟨by rfl,rfl⟩) (by assumption) ?_;(try simp only [Act.put,lay]);refine wpAnyH_take (i:=6) (v:=undef) rfl (by kernel_rfl) (by kernel_rfl) (by kernel_rfl) (fun _ _ _ h=>h) (Or.inr ⟨by rfl,rfl⟩) (by assumption) ?_;(try simp only [Act.put,lay]);refine wpAnyH_take (i:=7) (v:=undef) rfl (by kernel_rfl) (by kernel_rfl) (by kernel_rfl) (fun _ _ _ h=>h) (Or.inr ⟨by rfl,rfl⟩) (by assumption) ?_;(try simp only [Act.put,lay]);refine wpAnyH_take (i:=8) (v:=undef) rfl (by kernel_rfl) (by kernel_rfl) (by kernel_rfl) (fun _ _ _ h=>h) (Or.inr ⟨by rfl,rfl⟩) (by assumption) ?_;(try simp only [Act.put,lay]);refine wpAnyH_take (i:=9) (v:=undef) rfl (by kernel_rfl) (by kernel_rfl) (by kernel_rfl) (fun _ _ _ h=>h) (Or.inr ⟨by rfl,rfl⟩) (by assumption) ?_;(try simp only [Act.put,lay]);refine wpAnyH_take (i:=10) (v:=undef) rfl (by kernel_rfl) (by kernel_rfl) (by kernel_rfl) (fun _ _ _ h=>h) (Or.inr ⟨by rfl,rfl⟩) (by assumption) ?_;(try simp only [Act.put,lay]);refine wpAnyH_take (i:=11) (v:=undef) rfl (by kernel_rfl) (by kernel_rfl) (by kernel_rfl) (fun _ _ _ h=>h) (Or.inr ⟨by rfl,rfl⟩) (by assumption) ?_
  (try simp only [Act.put,lay]);refine wpAnyH_take (i:=12) (v:=undef) rfl (by kernel_rfl) (by kernel_rfl) (by kernel_rfl) (fun _ _ _ h=>h) (Or.inr ⟨by rfl,rfl⟩) (by assumption) ?_;(try simp only [Act.put,lay]);refine wpAnyH_take (i:=13) (v:=undef) rfl (by kernel_rfl) (by kernel_rfl) (by kernel_rfl) (fun _ _ _ h=>h) (Or.inr ⟨by rfl,rfl⟩) (by assumption) ?_;(try simp only [Act.put,lay]);refine wpAnyH_take (i:=14) (v:=?_) rfl (by kernel_rfl) (by kernel_rfl) (by kernel_rfl) (fun _ _ _ h=>h) (Or.inl ⟨by rfl,?_⟩) (by assumption) ?_
  rotate_left
  ·(intro W2 hSw;go_simp;(try with_reducible rfl))
  (try simp only [Act.put,lay]);refine wpAnyH_take (i:=15) (v:=?_) rfl (by kernel_rfl) (by kernel_rfl) (by kernel_rfl) (fun _ _ _ h=>h) (Or.inl ⟨by rfl,?_⟩) (by assumption) ?_
  rotate_left
  ·(intro W2 hSw;go_simp;(try with_reducible rfl))
  (try simp only [Act.put,lay]);refine wpAnyH_done (by kernel_rfl) ?_ _;have HB:=Hd hHeld.2.2.2.2;clear hHeld;go_wp2
  go_ret
  exact⟨rfl,HB.out⟩
 ·have hz:((k:Int) == 0)=false:=by simp;omega
  cases i
  ·have HP:=Hd (hP (by omega) rfl)
   have hbo:b=decide (o≠.lt):=by rw [hb];simp;omega
   clear hP hb
   cases o
   all_goals
    simp at hbo
    subst hbo
    go_enter Tryz.func246,Tryz.ntmps246
    go_wp2_with fail;refine cx (HA.out _) fun w1 hb0=>?_;have HS:=Hd (CapR.after HC.out hb0);clear hb0 HC HA;go_wp2_with fail;refine wp_region_held_drew (S:=fun W'=>W'.cell? ⟨Bn,0,none⟩=some (.int .i64 (n:Int))/\W'.cell? ⟨By,0,none⟩=some (.float .f64 (pat j))/\Tab W'/\(Bn<W'.heap.size/\By<W'.heap.size)/\Below w.heap.size w W') (by kernel_rfl) (by exact HS.out.drewS) (fun hHeld=>?_);refine wpAnyH_take (i:=0) (v:=?_) rfl (by kernel_rfl) (by kernel_rfl) (by kernel_rfl) (fun _ _ _ h=>h) (Or.inl ⟨by rfl,?_⟩) (by assumption) ?_
    rotate_left
    ·(intro W2 hSw;go_simp;(try with_reducible rfl))
    (try simp only [Act.put,lay]);refine wpAnyH_take (i:=1) (v:=?_) rfl (by kernel_rfl) (by kernel_rfl) (by kernel_rfl) (fun _ _ _ h=>h) (Or.inl ⟨by rfl,?_⟩) (by assumption) ?_
    rotate_left
    ·(intro W2 hSw;go_simp;(try with_reducible rfl))
    (try simp only [Act.put,lay]);refine wpAnyH_take (i:=2) (v:=?_) rfl (by kernel_rfl) (by kernel_rfl) (by kernel_rfl) (fun _ _ _ h=>h) (Or.inl ⟨by rfl,?_⟩) (by assumption) ?_
    rotate_left
    ·(intro W2 hSw;go_simp;(try with_reducible rfl))
    (try simp only [Act.put,lay]);refine wpAnyH_take (i:=3) (v:=?_) rfl (by kernel_rfl) (by kernel_rfl) (by kernel_rfl) (fun _ _ _ h=>h) (Or.inl ⟨by rfl,?_⟩) (by assumption) ?_
    rotate_left
    ·(intro W2 hSw;go_simp;(try with_reducible rfl))
    (try simp only [Act.put,lay]);refine wpAnyH_ready (rs:=[4]) (by kernel_rfl) (by simp) ?_;refine AllReadyH.cons rfl (fun KK hKK=>?_) AllReadyH.nil;go_simp;refine cx (HI.out _) fun wi hbi=>?_;go_wp2_with fail;refine hKK.out _ _ (⟨(hbi.cell (p:=⟨Bn,0,none⟩) hHeld.2.2.2.1.1).trans hHeld.1,(hbi.cell (p:=⟨By,0,none⟩) hHeld.2.2.2.1.2).trans hHeld.2.1,hHeld.2.2.1.below hbi,⟨Nat.lt_of_lt_of_le hHeld.2.2.2.1.1 hbi.size,Nat.lt_of_lt_of_le hHeld.2.2.2.1.2 hbi.size⟩,hHeld.2.2.2.2.trans (hbi.mono hHeld.2.2.2.2.size)⟩) (fun _=>?_);clear hKK KK hHeld;rename_i hHeld;(try simp only [Act.put,lay]);refine wpAnyH_take (i:=5) (v:=?_) rfl (by kernel_rfl) (by kernel_rfl) (by kernel_rfl) (fun _ _ _ h=>h) (Or.inl ⟨by rfl,?_⟩) (by assumption) ?_
    rotate_left
    ·(intro W2 hSw;go_simp;(try with_reducible rfl))
    (try simp only [Act.put,lay]);refine wpAnyH_take (i:=6) (v:=?_) rfl (by kernel_rfl) (by kernel_rfl) (by kernel_rfl) (fun _ _ _ h=>h) (Or.inl ⟨by rfl,?_⟩) (by assumption) ?_
    rotate_left
    ·(intro W2 hSw;go_simp;(try with_reducible rfl))
    (try simp only [Act.put,lay]);refine wpAnyH_take (i:=7) (v:=?_) rfl (by kernel_rfl) (by kernel_rfl) (by kernel_rfl) (fun _ _ _ h=>h) (Or.inl ⟨by rfl,?_⟩) (by assumption) ?_
    rotate_left
    ·(intro W2 hSw;go_simp;(try with_reducible rfl))
    (try simp only [Act.put,lay]);refine wpAnyH_take (i:=8) (v:=?_) rfl (by kernel_rfl) (by kernel_rfl) (by kernel_rfl) (fun _ _ _ h=>h) (Or.inl ⟨by rfl,?_⟩) (by assumption) ?_
    rotate_left
    ·(intro W2 hSw;(try dsimp only at hSw);have q:=hSw.1;go_simp;(try with_reducible rfl))
    (try simp only [Act.put,lay]);refine wpAnyH_take (i:=9) (v:=?_) rfl (by kernel_rfl) (by kernel_rfl) (by kernel_rfl) (fun _ _ _ h=>h) (Or.inl ⟨by rfl,?_⟩) (by assumption) ?_
    rotate_left
    ·(intro W2 hSw;go_simp;(try with_reducible rfl))
    (try simp only [Act.put,lay]);refine wpAnyH_take (i:=11) (v:=?_) rfl (by kernel_rfl) (by kernel_rfl) (by kernel_rfl) (fun _ _ _ h=>h) (Or.inl ⟨by rfl,?_⟩) (by assumption) ?_
    rotate_left
    ·(intro W2 hSw;(try dsimp only at hSw);have q:=hSw.2.1;go_simp;(try with_reducible rfl))
    (try simp only [Act.put,lay]);refine wpAnyH_ready (rs:=[10]) (by kernel_rfl) (by simp) ?_;refine AllReadyH.cons rfl (fun KK hKK=>?_) AllReadyH.nil;go_simp;refine cx (HP.out _ hHeld.2.2.1) fun wp hbp=>?_;go_wp2_with fail;refine hKK.out _ _ (⟨(hbp.cell (p:=⟨Bn,0,none⟩) hHeld.2.2.2.1.1).trans hHeld.1,(hbp.cell (p:=⟨By,0,none⟩) hHeld.2.2.2.1.2).trans hHeld.2.1,hHeld.2.2.1.below hbp,⟨Nat.lt_of_lt_of_le hHeld.2.2.2.1.1 hbp.size,Nat.lt_of_lt_of_le hHeld.2.2.2.1.2 hbp.size⟩,hHeld.2.2.2.2.trans (hbp.mono hHeld.2.2.2.2.size)⟩) (fun _=>?_);clear hKK KK hHeld;rename_i hHeld;(try simp only [Act.put,lay]);refine wpAnyH_take (i:=12) (v:=?_) rfl (by kernel_rfl) (by kernel_rfl) (by kernel_rfl) (fun _ _ _ h=>h) (Or.inl ⟨by rfl,?_⟩) (by assumption) ?_
    rotate_left
    ·(intro W2 hSw;go_simp;(try with_reducible rfl))
    (try simp only [Act.put,lay]);refine wpAnyH_take (i:=13) (v:=?_) rfl (by kernel_rfl) (by kernel_rfl) (by kernel_rfl) (fun _ _ _ h=>h) (Or.inl ⟨by rfl,?_⟩) (by assumption) ?_
    rotate_left
    ·(intro W2 hSw;go_simp;(try with_reducible rfl))
    (try simp only [Act.put,lay]);refine wpAnyH_take (i:=14) (v:=?_) rfl (by kernel_rfl) (by kernel_rfl) (by kernel_rfl) (fun _ _ _ h=>h) (Or.inl ⟨by rfl,?_⟩) (by assumption) ?_
    rotate_left
    ·(intro W2 hSw;go_simp;(try with_reducible rfl))
    (try simp only [Act.put,lay]);refine wpAnyH_take (i:=15) (v:=?_) rfl (by kernel_rfl) (by kernel_rfl) (by kernel_rfl) (fun _ _ _ h=>h) (Or.inl ⟨by rfl,?_⟩) (by assumption) ?_
    rotate_left
    ·(intro W2 hSw;go_simp;(try with_reducible rfl))
    (try simp only [Act.put,lay]);refine wpAnyH_done (by kernel_rfl) ?_ _;have HB:=Hd hHeld.2.2.2.2;clear hHeld;go_wp2
    go_ret
    exact⟨rfl,HB.out⟩
  ·have hbo:b=false:=by rw [hb];simp;omega
   subst hbo;clear hP hb ho
   go_enter Tryz.func246,Tryz.ntmps246
   go_wp2_with fail;refine cx (HA.out _) fun w1 hb0=>?_;have HS:=Hd (CapR.after HC.out hb0);clear hb0 HC HA;go_wp2_with fail;refine wp_region_held_drew (S:=fun W'=>W'.cell? ⟨Bn,0,none⟩=some (.int .i64 (n:Int))/\W'.cell? ⟨By,0,none⟩=some (.float .f64 (pat j))/\Tab W'/\(Bn<W'.heap.size/\By<W'.heap.size)/\Below w.heap.size w W') (by kernel_rfl) (by exact HS.out.drewS) (fun hHeld=>?_);refine wpAnyH_take (i:=0) (v:=?_) rfl (by kernel_rfl) (by kernel_rfl) (by kernel_rfl) (fun _ _ _ h=>h) (Or.inl ⟨by rfl,?_⟩) (by assumption) ?_
   rotate_left
   ·(intro W2 hSw;go_simp;(try with_reducible rfl))
   (try simp only [Act.put,lay]);refine wpAnyH_take (i:=1) (v:=?_) rfl (by kernel_rfl) (by kernel_rfl) (by kernel_rfl) (fun _ _ _ h=>h) (Or.inl ⟨by rfl,?_⟩) (by assumption) ?_
   rotate_left
   ·(intro W2 hSw;go_simp;(try with_reducible rfl))
   (try simp only [Act.put,lay]);refine wpAnyH_take (i:=2) (v:=?_) rfl (by kernel_rfl) (by kernel_rfl) (by kernel_rfl) (fun _ _ _ h=>h) (Or.inl ⟨by rfl,?_⟩) (by assumption) ?_
   rotate_left
   ·(intro W2 hSw;go_simp;(try with_reducible rfl))
   (try simp only [Act.put,lay]);refine wpAnyH_take (i:=3) (v:=?_) rfl (by kernel_rfl) (by kernel_rfl) (by kernel_rfl) (fun _ _ _ h=>h) (Or.inl ⟨by rfl,?_⟩) (by assumption) ?_
   rotate_left
   ·(intro W2 hSw;go_simp;(try with_reducible rfl))
   (try simp only [Act.put,lay]);refine wpAnyH_ready (rs:=[4]) (by kernel_rfl) (by simp) ?_;refine AllReadyH.cons rfl (fun KK hKK=>?_) AllReadyH.nil;go_simp;refine cx (HI.out _) fun wi hbi=>?_;go_wp2_with fail;refine hKK.out _ _ (⟨(hbi.cell (p:=⟨Bn,0,none⟩) hHeld.2.2.2.1.1).trans hHeld.1,(hbi.cell (p:=⟨By,0,none⟩) hHeld.2.2.2.1.2).trans hHeld.2.1,hHeld.2.2.1.below hbi,⟨Nat.lt_of_lt_of_le hHeld.2.2.2.1.1 hbi.size,Nat.lt_of_lt_of_le hHeld.2.2.2.1.2 hbi.size⟩,hHeld.2.2.2.2.trans (hbi.mono hHeld.2.2.2.2.size)⟩) (fun _=>?_);clear hKK KK hHeld;rename_i hHeld;(try simp only [Act.put,lay]);refine wpAnyH_take (i:=5) (v:=?_) rfl (by kernel_rfl) (by kernel_rfl) (by kernel_rfl) (fun _ _ _ h=>h) (Or.inl ⟨by rfl,?_⟩) (by assumption) ?_
   rotate_left
   ·(intro W2 hSw;go_simp;(try with_reducible rfl))
   (try simp only [Act.put,lay]);refine wpAnyH_take (i:=6) (v:=?_) rfl (by kernel_rfl) (by kernel_rfl) (by kernel_rfl) (fun _ _ _ h=>h) (Or.inl ⟨by rfl,?_⟩) (by assumption) ?_
   rotate_left
   ·(intro W2 hSw;go_simp;(try with_reducible rfl))
   (try simp only [Act.put,lay]);refine wpAnyH_take (i:=7) (v:=undef) rfl (by kernel_rfl) (by kernel_rfl) (by kernel_rfl) (fun _ _ _ h=>h) (Or.inr ⟨by rfl,rfl⟩) (by assumption) ?_;(try simp only [Act.put,lay]);refine wpAnyH_take (i:=8) (v:=undef) rfl (by kernel_rfl) (by kernel_rfl) (by kernel_rfl) (fun _ _ _ h=>h) (Or.inr ⟨by rfl,rfl⟩) (by assumption) ?_;(try simp only [Act.put,lay]);refine wpAnyH_take (i:=9) (v:=undef) rfl (by kernel_rfl) (by kernel_rfl) (by kernel_rfl) (fun _ _ _ h=>h) (Or.inr ⟨by rfl,rfl⟩) (by assumption) ?_;(try simp only [Act.put,lay]);refine wpAnyH_take (i:=10) (v:=undef) rfl (by kernel_rfl) (by kernel_rfl) (by kernel_rfl) (fun _ _ _ h=>h) (Or.inr ⟨by rfl,rfl⟩) (by assumption) ?_;(try simp only [Act.put,lay]);refine wpAnyH_take (i:=11) (v:=undef) rfl (by kernel_rfl) (by kernel_rfl) (by kernel_rfl) (fun _ _ _ h=>h) (Or.inr ⟨by rfl,rfl⟩) (by assumption) ?_;(try simp only [Act.put,lay]);refine wpAnyH_take (i:=12) (v:=undef) rfl (by kernel_rfl) (by kernel_rfl) (by kernel_rfl) (fun _ _ _ h=>h) (Or.inr ⟨by rfl,rfl⟩) (by assumption) ?_;(try simp only [Act.put,lay]);refine wpAnyH_take (i:=13) (v:=?_) rfl (by kernel_rfl) (by kernel_rfl) (by kernel_rfl) (fun _ _ _ h=>h) (Or.inl ⟨by rfl,?_⟩) (by assumption) ?_
   rotate_left
   ·(intro W2 hSw;go_simp;(try with_reducible rfl))
   (try simp only [Act.put,lay]);refine wpAnyH_take (i:=14) (v:=?_) rfl (by kernel_rfl) (by kernel_rfl) (by kernel_rfl) (fun _ _ _ h=>h) (Or.inl ⟨by rfl,?_⟩) (by assumption) ?_
   rotate_left
   ·(intro W2 hSw;go_simp;(try with_reducible rfl))
   (try simp only [Act.put,lay]);refine wpAnyH_take (i:=15) (v:=?_) rfl (by kernel_rfl) (by kernel_rfl) (by kernel_rfl) (fun _ _ _ h=>h) (Or.inl ⟨by rfl,?_⟩) (by assumption) ?_
   rotate_left
   ·(intro W2 hSw;go_simp;(try with_reducible rfl))
   (try simp only [Act.put,lay]);refine wpAnyH_done (by kernel_rfl) ?_ _;have HB:=Hd hHeld.2.2.2.2;clear hHeld;go_wp2
   go_ret
   exact⟨rfl,HB.out⟩
end
section
open Go.RowKit
attribute [local go_sem] run_store_float
set_option maxRecDepth 8000 in
theorem inverse_inf(y n:Nat)(w:World)(hI:∀ W,Calls Tryz.prog 161 #[.float .f64 y,.int .i64 1] W fun e w'=>e=.returned (.bool true)/\W=w')(hA:∀ W,Rt 88 #[.float .f64 0] (.agg #[.float .f64 0,.float .f64 0]) W):
  Rt 220 #[.float .f64 y,.int .i64 (n:Int)] (.agg #[.float .f64 0,.float .f64 0]) w:=by
 have HI:=Hd hI;have HA:=Hd hA;clear hI hA;have LL:=li3 w #[.float .f64 y] 26 #[.int .i64 (n:Int)] 3 #[.float .f64 0,.float .f64 0] 78
 go_enter Tryz.func220,Tryz.ntmps220
 have q1_0:=(LL.out.blk 0 rfl).ce 0 rfl;go_wp2_with fail;refine (HI.out _).mono ?_;rintro e w9 ⟨rfl,rfl⟩;go_wp2_with fail;refine cx (HA.out _) fun wk hb=>?_;replace LL:=stL LL hb;clear hb q1_0;replace LL:=Hd (LL.out.loose2 rfl);obtain⟨ha4_0,hf4_0,ha4_1,hf4_1⟩:=(LL.out.has 0 rfl).sf2;have LF:=Hd (LL.out.write [.float .f64 0,.float .f64 0] rfl (by omega) (by simp<;>omega) (by simp<;>omega));obtain⟨hk4_0,hk4_1⟩:=(LF.out.blk 2 rfl).c2
 simp [sets] at hk4_0 hk4_1
 clear LL;go_wp2;refine bodyPost_ret (v:=.agg #[.float .f64 0,.float .f64 0]) (by simp [results,Tryz.results220,go_sem,hk4_0,hk4_1]) rfl ?_
 exact⟨rfl,LF.out.b⟩
set_option maxRecDepth 8000 in
theorem inverse_one(y r1 r2:Nat)(w:World)(hI:∀ W,Calls Tryz.prog 161 #[.float .f64 y,.int .i64 1] W fun e w'=>e=.returned (.bool false)/\W=w')(hD:∀ W,Rt 245 #[.int .i64 (-1),.float .f64 4607182418800017408,.float .f64 y] (.float .f64 r1) W)(hU:∀ W,Rt 245 #[.int .i64 1,.float .f64 4607182418800017408,.float .f64 y] (.float .f64 r2) W):
  Rt 220 #[.float .f64 y,.int .i64 1] (.agg #[.float .f64 r1,.float .f64 r2]) w:=by
 have HI:=Hd hI;have HD:=Hd hD;have HU:=Hd hU;clear hI hD hU;have LL:=li3 w #[.float .f64 y] 26 #[.int .i64 1] 3 #[.float .f64 0,.float .f64 0] 78
 go_enter Tryz.func220,Tryz.ntmps220
 have q1_0:=(LL.out.blk 0 rfl).ce 0 rfl;have q2_0:=(LL.out.blk 1 rfl).ce 0 rfl;go_wp2_with fail;refine (HI.out _).mono ?_;rintro e w9 ⟨rfl,rfl⟩;go_wp2_with fail;clear q1_0 q2_0;replace LL:=Hd (LL.out.loose2 rfl);refine regL LL (fun hHeld=>?_);clear LL;generalize World.drew _=wk at hHeld  ⊢;refine tks 0 ?_ (hv:=by intro W2 hSw;have q0:=(hSw.blk 0 rfl).ce 0 rfl;go_simp;(try with_reducible rfl));refine tks 2 ?_ (hv:=by intro W2 hSw;have q0:=(hSw.blk 0 rfl).ce 0 rfl;go_simp;(try with_reducible rfl));refine rdy 1 (fun KK hKK=>?_);go_simp;refine cs (HD.out _) ?_;clear hKK KK hHeld;intro wk hb1 hHeld;clear hb1;refine rdy 3 (fun KK hKK=>?_);go_simp;refine cs (HU.out _) ?_;clear hKK KK hHeld;intro wk hb2 hHeld;clear hb2;refine tks 4 ?_;refine rdy 5 (fun KK hKK=>?_);obtain⟨ha0,hf0,ha1,hf1⟩:=(hHeld.has 0 rfl).sf2;go_simp;have HS_0:=(hHeld.has 0 rfl).laid [.float .f64 r1,.float .f64 r2] rfl;refine hKK.out _ _ (hHeld.over 0 rfl [.float .f64 r1,.float .f64 r2] rfl rfl (by first | omega | exact hHeld.le_of 0 rfl) (by simp<;>omega) (by simp<;>omega)) (fun _=>?_);clear hKK KK hHeld;rename_i hHeld;(try simp only [Act.put,lay]);refine wpAnyH_done (by kernel_rfl) ?_ _;have LB:=Hd hHeld.b;clear hHeld;obtain⟨hk4_0,hk4_1⟩:=HS_0.c2;clear HS_0
 simp [sets] at hk4_0 hk4_1
 go_wp2;refine bodyPost_ret (v:=.agg #[.float .f64 r1,.float .f64 r2]) (by simp [results,Tryz.results220,go_sem,hk4_0,hk4_1]) rfl ?_
 exact⟨rfl,LB.out⟩
set_option maxRecDepth 8000 in
theorem inverse_search(y n T1 T2:Nat)(f:Nat->Bool)(r1 r2:Nat->Nat)(o1 o2:Nat->Ordering)(w:World)(hn:((n:Int) == 1)=false)(hn2:n<=1024)(hI:∀ W,Calls Tryz.prog 161 #[.float .f64 y,.int .i64 1] W fun e w'=>e=.returned (.bool false)/\W=w')
  (hJ:∀ W,Calls Tryz.prog 19 #[.int .i64 1] W fun e w'=>e=.returned (.float .f64 9218868437227405312)/\W=w')
  (hL:∀ (k:Nat) W,k<=9218868437227405312->Rt 249 #[.float .f64 k] (.tuple #[.int .i64 (k:Int),.bool true]) W)
  (hA:∀ (k:Nat) W,k<=9218868437227405312->Rt 247 #[.int .i64 (k:Int)] (.tuple #[.float .f64 k,.bool true]) W)
  (hB:∀ (b:Nat) W,Rt 88 #[.float .f64 b] (.agg #[.float .f64 b,.float .f64 b]) W)
  (hD:∀ W,Rt 245 #[.int .i64 0,.float .f64 4607182418800017408,.float .f64 y] (.float .f64 T1) W)(hR:∀ W,Rt 174 #[.int .i64 0,.float .f64 T1,.int .i64 (n:Int)] (.float .f64 T2) W)(hT2:T2<=9218868437227405312)
  (hC:∀ (k:Nat) W,k<=9218868437227405312->W.cell? ⟨w.heap.size+1,0,none⟩=some (.int .i64 (n:Int))->W.cell? ⟨w.heap.size,0,none⟩=some (.float .f64 y)->Tab W->w.heap.size+1<W.heap.size->Rt 246 #[.int .i64 (k:Int),.pointer (some ⟨w.heap.size+1,0,none⟩),.pointer (some ⟨w.heap.size,0,none⟩)] (.bool (f k)) W)(hf0:f 0=true)(hfM:f 9218868437227405312=false)(hP1:∀ (k:Nat) W,k<9218868437227405312->Tab W->Rt 248 #[.int .i64 (-1),.float .f64 k,.int .i64 (-(n:Int))] (.float .f64 (r1 k)) W)(hP2:∀ (k:Nat) W,k<9218868437227405312->Tab W->Rt 248 #[.int .i64 1,.float .f64 k,.int .i64 (-(n:Int))] (.float .f64 (r2 k)) W)(ho1:∀ k:Nat,k<9218868437227405312->FloatKind.f64.format.order (r1 k) y=some (o1 k))(ho2:∀ k:Nat,k<9218868437227405312->FloatKind.f64.format.order (r2 k) y=some (o2 k))(hT:Tab w):
  Calls Tryz.prog 220 #[.float .f64 y,.int .i64 (n:Int)] w fun e w'=>∃ k:Nat,k<9218868437227405312/\f k=true/\f (k+1)=false/\e=.returned (.agg #[.float .f64 k,.float .f64 (if o1 k=.eq/\o2 k=.eq then k else k+1)])/\Below w.heap.size w w':=by
 have hw0:IntKind.i64.wrap (-(n:Int))=-(n:Int):=by rw [IntKind.wrap_i64];omega
 have hw1:wrap64 (-(n:Int))=-(n:Int):=by unfold wrap64;omega
 have HI:=Hd hI;have HJ:=Hd hJ;have HL:=Hd hL;have HA:=Hd hA;have HB:=Hd hB;have HD:=Hd hD;have HR:=Hd hR;have HC:=Hd hC;have HP1:=Hd hP1;have HP2:=Hd hP2;have HO1:=Hd ho1;have HO2:=Hd ho2;clear hI hJ hL hA hB hD hR hC hP1 hP2 ho1 ho2;have LL:=li3 w #[.float .f64 y] 26 #[.int .i64 (n:Int)] 3 #[.float .f64 0,.float .f64 0] 78;have HT:=Hd (hT.below LL.out.b);clear hT
 go_enter Tryz.func220,Tryz.ntmps220
 have q1_0:=(LL.out.blk 0 rfl).ce 0 rfl;have q2_0:=(LL.out.blk 1 rfl).ce 0 rfl;go_wp2_with fail;refine (HI.out _).mono ?_;rintro e w9 ⟨rfl,rfl⟩;go_wp2_with fail;refine (HJ.out _).mono ?_;rintro e w9 ⟨rfl,rfl⟩;go_wp2_with fail;refine cx (HL.out 9218868437227405312 _ (by omega)) fun wk hb=>?_;replace LL:=stL LL hb;replace HT:=Hd (HT.out.below hb);clear hb q1_0 q2_0;clear HI HJ
 go_upto_region 8 with fail
 refine regL LL (fun hHeld=>?_);clear LL;replace HT:=Hd (HT.out.below (Below.refl _ _).drew);generalize World.drew _=wk at hHeld HT ⊢;refine tks 0 ?_ (hv:=by intro W2 hSw;have q0:=(hSw.blk 0 rfl).ce 0 rfl;go_simp;(try with_reducible rfl));refine tks 2 ?_ (hv:=by intro W2 hSw;have q0:=(hSw.blk 1 rfl).ce 0 rfl;go_simp;(try with_reducible rfl));refine rdy 1 (fun KK hKK=>?_);go_simp;refine cs (HD.out _) ?_;clear hKK KK hHeld;intro wk hb1 hHeld;replace HT:=Hd (HT.out.below hb1);clear hb1;refine rdy 3 (fun KK hKK=>?_);go_simp;refine cs (HR.out _) ?_;clear hKK KK hHeld;intro wk hb2 hHeld;replace HT:=Hd (HT.out.below hb2);clear hb2;refine rdy 4 (fun KK hKK=>?_);go_simp;refine cs (HL.out T2 _ hT2) ?_;clear hKK KK hHeld;intro wk hb3 hHeld;replace HT:=Hd (HT.out.below hb3);clear hb3;refine tks 5 ?_;refine tks 6 ?_;refine tks 7 ?_;refine tks 8 ?_;refine tks 9 ?_;refine wpAnyH_done (by kernel_rfl) ?_ _;have LL:=Hd hHeld;clear hHeld;clear HD HR HL
 obtain⟨z,hz⟩:∃ z:Int,(T2:Int)=z:=⟨_,rfl⟩
 rw [hz];have HZ:=Hd hz;clear hz
 go_upto_region 9 with fail
 go_cut [62] from 39 to 62 (fun s62 wx=>∃ acc:Bool,s62=.bool acc/\(acc=true->∃ k1 k2:Nat,z - 3=(k1:Int)/\z+3=(k2:Int)/\k2<=9218868437227405312/\f k1=true/\f k2=false)/\Lies w wx [(w.heap.size,26,#[.float .f64 y]),((w.heap.size+1),3,#[.int .i64 (n:Int)]),((w.heap.size+2),78,#[.float .f64 0,.float .f64 0])] []/\Tab wx)
 case first=>
  have hz:=HZ.out
  by_cases c1:3<z
  ·by_cases c2:z<9218868437227405309
   ·skip
    obtain⟨k1,hk1⟩:∃ k:Nat,z - 3=(k:Int):=⟨(z - 3).toNat,by omega⟩
    obtain⟨k2,hk2⟩:∃ k:Nat,z+3=(k:Int):=⟨(z+3).toNat,by omega⟩
    have a1:wrap64 (z - 3)=(k1:Int):=by unfold wrap64;omega
    have a2:wrap64 (z+3)=(k2:Int):=by unfold wrap64;omega
    have a3:IntKind.i64.wrap (z - 3)=(k1:Int):=by rw [IntKind.wrap_i64];omega
    have a4:IntKind.i64.wrap (z+3)=(k2:Int):=by rw [IntKind.wrap_i64];omega
    have HK:=Hd (show k1<k2/\k2<=9218868437227405312/\z - 3=(k1:Int)/\z+3=(k2:Int) from⟨by omega,by omega,hk1,hk2⟩);clear hk1 hk2 hz;have q3_0:=(LL.out.blk 0 rfl).ce 0 rfl;have q4_0:=(LL.out.blk 1 rfl).ce 0 rfl;go_wp2_with fail;refine cx (HC.out k1 _ (by have:=HK.out;omega) q4_0 q3_0 HT.out (by have:=(LL.out.blk 1 rfl).lt;exact this)) fun wk hb=>?_;replace LL:=stL LL hb;replace HT:=Hd (HT.out.below hb);clear hb q3_0 q4_0
    cases g1:f k1
    ·skip;go_wp2_with fail
     go_meet
     case rel=>exact⟨false,rfl,fun h=>absurd h (by decide),LL.out,HT.out⟩
    ·skip;have q5_0:=(LL.out.blk 0 rfl).ce 0 rfl;have q6_0:=(LL.out.blk 1 rfl).ce 0 rfl;go_wp2_with fail;refine cx (HC.out k2 _ (by have:=HK.out;omega) q6_0 q5_0 HT.out (by have:=(LL.out.blk 1 rfl).lt;exact this)) fun wk hb=>?_;replace LL:=stL LL hb;replace HT:=Hd (HT.out.below hb);clear hb q5_0 q6_0
     cases g2:f k2
     ·go_wp2_with fail
      go_meet
      case rel=>exact⟨true,rfl,fun _=>⟨k1,k2,HK.out.2.2.1,HK.out.2.2.2,HK.out.2.1,g1,g2⟩,LL.out,HT.out⟩
     ·go_wp2_with fail
      go_meet
      case rel=>exact⟨false,rfl,fun h=>absurd h (by decide),LL.out,HT.out⟩
   ·skip;go_wp2_with fail
    go_meet
    case rel=>exact⟨false,rfl,fun h=>absurd h (by decide),LL.out,HT.out⟩
  ·skip;go_wp2_with fail
   go_meet
   case rel=>exact⟨false,rfl,fun h=>absurd h (by decide),LL.out,HT.out⟩
 case rest=>
 obtain⟨acc,rfl,hacc,hcl,ht⟩:=hcut;rename World=>wx;clear LL HT hT2 HZ;have LL:=Hd hcl;have HT:=Hd ht;clear hcl ht;have HAC:=Hd hacc;clear hacc
 go_upto_if 62 with fail
 go_cut [6,7] from 63 to 66 (fun s6 s7 wx=>∃ lo hi:Nat,s6=.int .i64 (lo:Int)/\s7=.int .i64 (hi:Int)/\lo<hi/\hi<=9218868437227405312/\f lo=true/\f hi=false/\Lies w wx [(w.heap.size,26,#[.float .f64 y]),((w.heap.size+1),3,#[.int .i64 (n:Int)]),((w.heap.size+2),78,#[.float .f64 0,.float .f64 0])] []/\Tab wx)
 case first=>
  cases acc
  ·clear HAC;go_wp2_with fail
   go_meet
   case rel=>exact⟨0,9218868437227405312,rfl,rfl,by omega,by omega,hf0,hfM,LL.out,HT.out⟩
  ·obtain⟨k1,k2,hk1,hk2,hk3,g1,g2⟩:=HAC.out rfl
   have a1:wrap64 (z - 3)=(k1:Int):=by unfold wrap64;omega
   have a2:wrap64 (z+3)=(k2:Int):=by unfold wrap64;omega
   have a3:IntKind.i64.wrap (z - 3)=(k1:Int):=by rw [IntKind.wrap_i64];omega
   have a4:IntKind.i64.wrap (z+3)=(k2:Int):=by rw [IntKind.wrap_i64];omega
   have HK:=Hd (show k1<k2 by omega);clear hk1 hk2 HAC;go_wp2_with fail
   go_meet
   case rel=>exact⟨k1,k2,rfl,rfl,HK.out,hk3,g1,g2,LL.out,HT.out⟩
 case rest=>
 obtain⟨lo0,hi0,rfl,rfl,hl0,hm0,hfl0,hfh0,hcl,ht⟩:=hcut;rename World=>wx;clear LL HT HAC hf0 hfM;have LL:=Hd hcl;have HT:=Hd ht;clear hcl ht;go_wp2
 go_loopw [6,7,10] (fun a b _ wr=>∃ lo hi:Nat,a=.int .i64 (lo:Int)/\b=.int .i64 (hi:Int)/\lo<hi/\hi<=9218868437227405312/\f lo=true/\f hi=false/\Lies w wr [(w.heap.size,26,#[.float .f64 y]),((w.heap.size+1),3,#[.int .i64 (n:Int)]),((w.heap.size+2),78,#[.float .f64 0,.float .f64 0])] []/\Tab wr) (fun a b _ _=>(intOf b - intOf a).toNat)
 case atStart=>exact⟨lo0,hi0,rfl,rfl,hl0,hm0,hfl0,hfh0,LL.out,HT.out⟩
 case round=>
  obtain⟨lo,hi,rfl,rfl,hl,hm,hfl,hfh,hcl,ht⟩:=hrel;rename World=>wr;clear LL HT hl0 hm0 hfl0 hfh0;have LL:=Hd hcl;have HT:=Hd ht;clear hcl ht
  obtain⟨D,hD0⟩:∃ D:Nat,hi=lo+D:=⟨hi - lo,by omega⟩
  subst hD0
  obtain⟨LO,hLO⟩:∃ z:Int,(lo:Int)=z:=⟨_,rfl⟩
  obtain⟨HI,hHI⟩:∃ z:Int,((lo+D:Nat):Int)=z:=⟨_,rfl⟩
  have b1:wrap64 (HI - LO)=(D:Int):=by unfold wrap64;omega
  have b2:IntKind.i64.wrap (HI - LO)=(D:Int):=by rw [IntKind.wrap_i64];omega
  rw [hLO,hHI]
  by_cases hd:1<D
  ·skip
   obtain⟨m,hm1⟩:∃ m:Nat,LO+(D:Int) / 2=(m:Int):=⟨lo+D / 2,by omega⟩
   have b3:wrap64 (LO+(D:Int) / 2)=(m:Int):=by unfold wrap64;omega
   have b4:IntKind.i64.wrap (LO+(D:Int) / 2)=(m:Int):=by rw [IntKind.wrap_i64];omega
   have b5:(1:Int)<(D:Int):=by omega
   have b6:(D:Int).tdiv 2=(D:Int) / 2:=Int.tdiv_eq_ediv_of_nonneg (by omega);have HM:=Hd (show lo<m/\m<lo+D by omega);have HLO:=Hd hLO;have HHI:=Hd hHI;clear hm1 hLO hHI;have q3_0:=(LL.out.blk 0 rfl).ce 0 rfl;have q4_0:=(LL.out.blk 1 rfl).ce 0 rfl;go_wp2_with fail;refine cx (HC.out m _ (by have:=HM.out;omega) q4_0 q3_0 HT.out (by have:=(LL.out.blk 1 rfl).lt;exact this)) fun wk hb=>?_;replace LL:=stL LL hb;replace HT:=Hd (HT.out.below hb);clear hb q3_0 q4_0
   cases g:f m
   ·go_wp2
    exact⟨⟨lo,m,by rw [HLO.out],rfl,HM.out.1,by have:=HM.out;omega,hfl,g,LL.out,HT.out⟩,by have:=HM.out;have:=HLO.out;have:=HHI.out;simp [intOf];omega⟩
   ·go_wp2
    exact⟨⟨m,lo+D,rfl,by rw [HHI.out],HM.out.2,hm,g,hfh,LL.out,HT.out⟩,by have:=HM.out;have:=HLO.out;have:=HHI.out;simp [intOf];omega⟩
  ·skip
   obtain rfl:D=1:=by omega
   have c1:¬ (1:Int)<((1:Nat):Int):=by omega
   subst hLO;subst hHI;have HO1:=Hd (HO1.out lo (by omega));have HO2:=Hd (HO2.out lo (by omega));have HP1:=Hd fun W=>HP1.out lo W (by omega);have HP2:=Hd fun W=>HP2.out lo W (by omega);have HA1:=Hd fun W=>HA.out lo W (by omega);have HA2:=Hd fun W=>HA.out (lo+1) W (by omega);have HFF:=Hd (show lo<9218868437227405312/\f lo=true/\f (lo+1)=false from⟨by omega,hfl,hfh⟩)
   obtain⟨R1,hR1⟩:∃ z,r1 lo=z:=⟨_,rfl⟩
   obtain⟨R2,hR2⟩:∃ z,r2 lo=z:=⟨_,rfl⟩
   obtain⟨q1,hq1⟩:∃ z,o1 lo=z:=⟨_,rfl⟩
   obtain⟨q2,hq2⟩:∃ z,o2 lo=z:=⟨_,rfl⟩
   rw [hR1] at HP1 HO1;rw [hR2] at HP2 HO2;rw [hq1] at HO1;rw [hq2] at HO2;have HQ:=Hd (show o1 lo=q1/\o2 lo=q2 from⟨hq1,hq2⟩);clear hR1 hR2 hq1 hq2 hfl hfh hl hm HC HA hd;go_wp2_with fail;refine cx (HA1.out _) fun wk hb=>?_;replace LL:=stL LL hb;replace HT:=Hd (HT.out.below hb);clear hb;go_wp2_with fail
   cases q1
   ·skip;have ho1:=HO1.out;refine regL LL (fun hHeld=>?_);clear LL;replace HT:=Hd (HT.out.below (Below.refl _ _).drew);generalize World.drew _=wk at hHeld HT ⊢;refine tks 0 ?_;refine tks 1 ?_ (hv:=by intro W2 hSw;have q0:=(hSw.blk 1 rfl).ce 0 rfl;go_simp;(try with_reducible rfl));refine tks 2 ?_;refine tks 4 ?_ (hv:=by intro W2 hSw;have q0:=(hSw.blk 0 rfl).ce 0 rfl;go_simp;(try with_reducible rfl));refine rdy 3 (fun KK hKK=>?_);go_simp;refine cs (HP1.out _ HT.out) ?_;clear hKK KK hHeld;intro wk hbp1 hHeld;replace HT:=Hd (HT.out.below hbp1);clear hbp1;refine tks 5 ?_;refine tks 6 ?_;refine tkns 7 ?_;refine tkns 8 ?_;refine tkns 9 ?_;refine tkns 10 ?_;refine tkns 11 ?_;refine tkns 12 ?_;refine tks 13 ?_;refine wpAnyH_done (by kernel_rfl) ?_ _;have LL:=Hd hHeld;clear hHeld;clear ho1;go_wp2_with fail;refine cx (HA2.out _) fun wk hb=>?_;replace LL:=stL LL hb;replace HT:=Hd (HT.out.below hb);clear hb;clear HT;replace LL:=Hd (LL.out.loose2 rfl);obtain⟨ha4_0,hf4_0,ha4_1,hf4_1⟩:=(LL.out.has 0 rfl).sf2;have LF:=Hd (LL.out.write [.float .f64 lo,.float .f64 (lo+1)] rfl (by omega) (by simp<;>omega) (by simp<;>omega));obtain⟨hk4_0,hk4_1⟩:=(LF.out.blk 2 rfl).c2
    simp [sets] at hk4_0 hk4_1
    clear LL;go_wp2;refine bodyPost_ret (v:=.agg #[.float .f64 lo,.float .f64 (lo+1)]) (by simp [results,Tryz.results220,go_sem,hk4_0,hk4_1]) rfl ?_
    exact⟨lo,HFF.out.1,HFF.out.2.1,HFF.out.2.2,by rw [HQ.out.1,HQ.out.2,if_neg (by simp)],LF.out.b⟩
   ·cases q2
    ·skip;have ho1:=HO1.out;have ho2:=HO2.out;refine regL LL (fun hHeld=>?_);clear LL;replace HT:=Hd (HT.out.below (Below.refl _ _).drew);generalize World.drew _=wk at hHeld HT ⊢;refine tks 0 ?_;refine tks 1 ?_ (hv:=by intro W2 hSw;have q0:=(hSw.blk 1 rfl).ce 0 rfl;go_simp;(try with_reducible rfl));refine tks 2 ?_;refine tks 4 ?_ (hv:=by intro W2 hSw;have q0:=(hSw.blk 0 rfl).ce 0 rfl;go_simp;(try with_reducible rfl));refine rdy 3 (fun KK hKK=>?_);go_simp;refine cs (HP1.out _ HT.out) ?_;clear hKK KK hHeld;intro wk hbp1 hHeld;replace HT:=Hd (HT.out.below hbp1);clear hbp1;refine tks 5 ?_;refine tks 6 ?_;refine tks 7 ?_;refine tks 8 ?_ (hv:=by intro W2 hSw;have q0:=(hSw.blk 1 rfl).ce 0 rfl;go_simp;(try with_reducible rfl));refine tks 9 ?_;refine tks 11 ?_ (hv:=by intro W2 hSw;have q0:=(hSw.blk 0 rfl).ce 0 rfl;go_simp;(try with_reducible rfl));refine rdy 10 (fun KK hKK=>?_);go_simp;refine cs (HP2.out _ HT.out) ?_;clear hKK KK hHeld;intro wk hbp2 hHeld;replace HT:=Hd (HT.out.below hbp2);clear hbp2;refine tks 12 ?_;refine tks 13 ?_;refine wpAnyH_done (by kernel_rfl) ?_ _;have LL:=Hd hHeld;clear hHeld;clear ho1 ho2;go_wp2_with fail;refine cx (HA2.out _) fun wk hb=>?_;replace LL:=stL LL hb;replace HT:=Hd (HT.out.below hb);clear hb;clear HT;replace LL:=Hd (LL.out.loose2 rfl);obtain⟨ha4_0,hf4_0,ha4_1,hf4_1⟩:=(LL.out.has 0 rfl).sf2;have LF:=Hd (LL.out.write [.float .f64 lo,.float .f64 (lo+1)] rfl (by omega) (by simp<;>omega) (by simp<;>omega));obtain⟨hk4_0,hk4_1⟩:=(LF.out.blk 2 rfl).c2
     simp [sets] at hk4_0 hk4_1
     clear LL;go_wp2;refine bodyPost_ret (v:=.agg #[.float .f64 lo,.float .f64 (lo+1)]) (by simp [results,Tryz.results220,go_sem,hk4_0,hk4_1]) rfl ?_
     exact⟨lo,HFF.out.1,HFF.out.2.1,HFF.out.2.2,by rw [HQ.out.1,HQ.out.2,if_neg (by simp)],LF.out.b⟩
    ·skip;have ho1:=HO1.out;have ho2:=HO2.out;refine regL LL (fun hHeld=>?_);clear LL;replace HT:=Hd (HT.out.below (Below.refl _ _).drew);generalize World.drew _=wk at hHeld HT ⊢;refine tks 0 ?_;refine tks 1 ?_ (hv:=by intro W2 hSw;have q0:=(hSw.blk 1 rfl).ce 0 rfl;go_simp;(try with_reducible rfl));refine tks 2 ?_;refine tks 4 ?_ (hv:=by intro W2 hSw;have q0:=(hSw.blk 0 rfl).ce 0 rfl;go_simp;(try with_reducible rfl));refine rdy 3 (fun KK hKK=>?_);go_simp;refine cs (HP1.out _ HT.out) ?_;clear hKK KK hHeld;intro wk hbp1 hHeld;replace HT:=Hd (HT.out.below hbp1);clear hbp1;refine tks 5 ?_;refine tks 6 ?_;refine tks 7 ?_;refine tks 8 ?_ (hv:=by intro W2 hSw;have q0:=(hSw.blk 1 rfl).ce 0 rfl;go_simp;(try with_reducible rfl));refine tks 9 ?_;refine tks 11 ?_ (hv:=by intro W2 hSw;have q0:=(hSw.blk 0 rfl).ce 0 rfl;go_simp;(try with_reducible rfl));refine rdy 10 (fun KK hKK=>?_);go_simp;refine cs (HP2.out _ HT.out) ?_;clear hKK KK hHeld;intro wk hbp2 hHeld;replace HT:=Hd (HT.out.below hbp2);clear hbp2;refine tks 12 ?_;refine tks 13 ?_;refine wpAnyH_done (by kernel_rfl) ?_ _;have LL:=Hd hHeld;clear hHeld;clear ho1 ho2;go_wp2_with fail;refine cx (HB.out lo _) fun wk hb=>?_;replace LL:=stL LL hb;replace HT:=Hd (HT.out.below hb);clear hb;clear HT;replace LL:=Hd (LL.out.loose2 rfl);obtain⟨ha4_0,hf4_0,ha4_1,hf4_1⟩:=(LL.out.has 0 rfl).sf2;have LF:=Hd (LL.out.write [.float .f64 lo,.float .f64 lo] rfl (by omega) (by simp<;>omega) (by simp<;>omega));obtain⟨hk4_0,hk4_1⟩:=(LF.out.blk 2 rfl).c2
     simp [sets] at hk4_0 hk4_1
     clear LL;go_wp2;refine bodyPost_ret (v:=.agg #[.float .f64 lo,.float .f64 lo]) (by simp [results,Tryz.results220,go_sem,hk4_0,hk4_1]) rfl ?_
     exact⟨lo,HFF.out.1,HFF.out.2.1,HFF.out.2.2,by rw [HQ.out.1,HQ.out.2,if_pos ⟨rfl,rfl⟩],LF.out.b⟩
    ·skip;have ho1:=HO1.out;have ho2:=HO2.out;refine regL LL (fun hHeld=>?_);clear LL;replace HT:=Hd (HT.out.below (Below.refl _ _).drew);generalize World.drew _=wk at hHeld HT ⊢;refine tks 0 ?_;refine tks 1 ?_ (hv:=by intro W2 hSw;have q0:=(hSw.blk 1 rfl).ce 0 rfl;go_simp;(try with_reducible rfl));refine tks 2 ?_;refine tks 4 ?_ (hv:=by intro W2 hSw;have q0:=(hSw.blk 0 rfl).ce 0 rfl;go_simp;(try with_reducible rfl));refine rdy 3 (fun KK hKK=>?_);go_simp;refine cs (HP1.out _ HT.out) ?_;clear hKK KK hHeld;intro wk hbp1 hHeld;replace HT:=Hd (HT.out.below hbp1);clear hbp1;refine tks 5 ?_;refine tks 6 ?_;refine tks 7 ?_;refine tks 8 ?_ (hv:=by intro W2 hSw;have q0:=(hSw.blk 1 rfl).ce 0 rfl;go_simp;(try with_reducible rfl));refine tks 9 ?_;refine tks 11 ?_ (hv:=by intro W2 hSw;have q0:=(hSw.blk 0 rfl).ce 0 rfl;go_simp;(try with_reducible rfl));refine rdy 10 (fun KK hKK=>?_);go_simp;refine cs (HP2.out _ HT.out) ?_;clear hKK KK hHeld;intro wk hbp2 hHeld;replace HT:=Hd (HT.out.below hbp2);clear hbp2;refine tks 12 ?_;refine tks 13 ?_;refine wpAnyH_done (by kernel_rfl) ?_ _;have LL:=Hd hHeld;clear hHeld;clear ho1 ho2;go_wp2_with fail;refine cx (HA2.out _) fun wk hb=>?_;replace LL:=stL LL hb;replace HT:=Hd (HT.out.below hb);clear hb;clear HT;replace LL:=Hd (LL.out.loose2 rfl);obtain⟨ha4_0,hf4_0,ha4_1,hf4_1⟩:=(LL.out.has 0 rfl).sf2;have LF:=Hd (LL.out.write [.float .f64 lo,.float .f64 (lo+1)] rfl (by omega) (by simp<;>omega) (by simp<;>omega));obtain⟨hk4_0,hk4_1⟩:=(LF.out.blk 2 rfl).c2
     simp [sets] at hk4_0 hk4_1
     clear LL;go_wp2;refine bodyPost_ret (v:=.agg #[.float .f64 lo,.float .f64 (lo+1)]) (by simp [results,Tryz.results220,go_sem,hk4_0,hk4_1]) rfl ?_
     exact⟨lo,HFF.out.1,HFF.out.2.1,HFF.out.2.2,by rw [HQ.out.1,HQ.out.2,if_neg (by simp)],LF.out.b⟩
   ·skip;have ho1:=HO1.out;refine regL LL (fun hHeld=>?_);clear LL;replace HT:=Hd (HT.out.below (Below.refl _ _).drew);generalize World.drew _=wk at hHeld HT ⊢;refine tks 0 ?_;refine tks 1 ?_ (hv:=by intro W2 hSw;have q0:=(hSw.blk 1 rfl).ce 0 rfl;go_simp;(try with_reducible rfl));refine tks 2 ?_;refine tks 4 ?_ (hv:=by intro W2 hSw;have q0:=(hSw.blk 0 rfl).ce 0 rfl;go_simp;(try with_reducible rfl));refine rdy 3 (fun KK hKK=>?_);go_simp;refine cs (HP1.out _ HT.out) ?_;clear hKK KK hHeld;intro wk hbp1 hHeld;replace HT:=Hd (HT.out.below hbp1);clear hbp1;refine tks 5 ?_;refine tks 6 ?_;refine tkns 7 ?_;refine tkns 8 ?_;refine tkns 9 ?_;refine tkns 10 ?_;refine tkns 11 ?_;refine tkns 12 ?_;refine tks 13 ?_;refine wpAnyH_done (by kernel_rfl) ?_ _;have LL:=Hd hHeld;clear hHeld;clear ho1;go_wp2_with fail;refine cx (HA2.out _) fun wk hb=>?_;replace LL:=stL LL hb;replace HT:=Hd (HT.out.below hb);clear hb;clear HT;replace LL:=Hd (LL.out.loose2 rfl);obtain⟨ha4_0,hf4_0,ha4_1,hf4_1⟩:=(LL.out.has 0 rfl).sf2;have LF:=Hd (LL.out.write [.float .f64 lo,.float .f64 (lo+1)] rfl (by omega) (by simp<;>omega) (by simp<;>omega));obtain⟨hk4_0,hk4_1⟩:=(LF.out.blk 2 rfl).c2
    simp [sets] at hk4_0 hk4_1
    clear LL;go_wp2;refine bodyPost_ret (v:=.agg #[.float .f64 lo,.float .f64 (lo+1)]) (by simp [results,Tryz.results220,go_sem,hk4_0,hk4_1]) rfl ?_
    exact⟨lo,HFF.out.1,HFF.out.2.1,HFF.out.2.2,by rw [HQ.out.1,HQ.out.2,if_neg (by simp)],LF.out.b⟩
end
section
open Go.RowKit
theorem rep_dvd{n:Int}{k:Nat}(h:Rep n)(hn:2^(52+k)<=n.natAbs):(2:Int)^k ∣ n:=by
 obtain⟨q,j,hq,e⟩:=rep_iff.1 h
 have hj:k<=j:=by
  apply Nat.le_of_not_lt
  intro hlt;have h1:q*2^j<2^53*2^j:=Nat.mul_lt_mul_of_pos_right hq (Nat.two_pow_pos j)
  have h2:2^53*2^j<=2^(52+k):=by rw [<- Nat.pow_add];exact Nat.pow_le_pow_right (by omega) (by omega)
  rw [e] at hn
  exact absurd (Nat.lt_of_lt_of_le h1 (Nat.le_trans h2 hn)) (Nat.lt_irrefl _)
 exact Int.dvd_trans (pow_dvd_le hj) (dvd_of_natAbs e)
theorem R_err{n:Int}(k:Nat)(h:n.natAbs<=2^53*2^k):2*(n - R n).natAbs<=2^k:=by
 have hK:0<2^k:=Nat.two_pow_pos k
 have hKi:((2^k:Nat):Int)=(2:Int)^k:=by rw [Int.natCast_pow];rfl
 have hd:n=(2:Int)^k*(n / (2:Int)^k)+n % (2:Int)^k:=(Int.mul_ediv_add_emod n _).symm;have hb0:0<=n % (2:Int)^k:=Int.emod_nonneg _ (by omega);have hb1:n % (2:Int)^k<(2:Int)^k:=Int.emod_lt_of_pos _ (by omega);generalize n / (2:Int)^k=a at hd;generalize n % (2:Int)^k=b at hd hb0 hb1
 have rp:∀ c:Int,c.natAbs<=2^53->Rep ((2:Int)^k*c):=fun c hc=>rep_of_dvd k (Int.dvd_mul_right _ _) (by
  rw [Int.natAbs_mul,Int.natAbs_pow,Nat.mul_comm]
  exact Nat.mul_le_mul_right _ hc)
 have c1:a<=2^53:=by
  apply Int.le_of_not_gt;intro hlt
  have h1:(2:Int)^k*(2^53+1)<=(2:Int)^k*a:=Int.mul_le_mul_of_nonneg_left (by omega) (by omega)
  have h2:(n.natAbs:Int)<=2^53*2^k:=by exact_mod_cast h
  have h3:(2:Int)^k*(2^53+1)=2^53*2^k+2^k:=by rw [Int.mul_add,Int.mul_one,Int.mul_comm]
  omega
 have c2:-2^53<=a:=by
  apply Int.le_of_not_gt;intro hlt
  have h1:(2:Int)^k*a<=(2:Int)^k*(-2^53 - 1):=Int.mul_le_mul_of_nonneg_left (by omega) (by omega)
  have h2:(n.natAbs:Int)<=2^53*2^k:=by exact_mod_cast h
  have h3:(2:Int)^k*(-2^53 - 1)=-(2^53*2^k) - 2^k:=by rw [Int.mul_sub,Int.mul_one,Int.mul_comm,Int.neg_mul]
  omega
 have n1:=R_nearest (n:=n) (rp a (by omega))
 by_cases hb:b=0
 ·have e:n - (2:Int)^k*a=0:=by omega
  rw [e] at n1
  simp at n1
  omega
 ·have c3:a+1<=2^53:=by
   apply Int.le_of_not_gt;intro hlt
   have ea:a=2^53:=by omega
   have h2:(n.natAbs:Int)<=2^53*2^k:=by exact_mod_cast h
   have h3:(2:Int)^k*a=2^53*2^k:=by rw [ea,Int.mul_comm]
   omega
  have n2:=R_nearest (n:=n) (rp (a+1) (by omega));rw [Int.mul_add,Int.mul_one] at n2
  omega
theorem R_ge{n:Int}{t:Nat}(h:2^t<=n.natAbs):2^t<=(R n).natAbs:=by
 have h0:((2^t:Nat):Int)=(2:Int)^t:=by rw [Int.natCast_pow];rfl
 rcases Int.lt_or_le n 0 with hn | hn
 ·have h1:R n<=-(2:Int)^t:=R_le (rep_two_pow t).neg (by omega)
  omega
 ·have h1:(2:Int)^t<=R n:=le_R (rep_two_pow t) (by omega)
  omega
theorem cut_pos{m:Int}(h1:2^52<=m)(h2:m<2^53):
  ∃ q l:Int,R (R (134217729*m) - R (R (134217729*m) - m))=2^27*q/\m=2^27*q+l/\q.natAbs<=2^26/\l.natAbs<=2^26:=by
 have d1:(2:Int)^27 ∣ R (134217729*m):=rep_dvd (R_rep _) (R_ge (t:=52+27) (by omega));have e1:=R_err (n:=134217729*m) 28 (by omega);have e2:134217729*m<=2^80->2*(134217729*m - R (134217729*m)).natAbs<=2^27:=fun h=>R_err 27 (by omega);have e3:m=2^52->R (134217729*m)=134217729*m:=fun h=>R_of_rep (rep_of_dvd 27 ⟨2^52+2^25,by omega⟩ (by omega));generalize R (134217729*m)=t at *
 have b1:2^79<=t - m:=by
  by_cases hm:m=2^52
  ·have:=e3 hm;omega
  ·by_cases hc:134217729*m<=2^80
   ·have:=e2 hc;omega
   ·omega
 have b2:t - m<=2^80:=by omega
 have d2:(2:Int)^27 ∣ R (t - m):=rep_dvd (R_rep _) (R_ge (t:=52+27) (by omega));have e4:=R_err (n:=t - m) 27 (by omega);generalize R (t - m)=u at *;obtain⟨q,hq⟩:=Int.dvd_sub d1 d2;have hR:R (t - u)=t - u:=R_of_rep (rep_of_dvd 27 (Int.dvd_sub d1 d2) (by omega));refine⟨q,m - 2^27*q,by rw [hR,hq],by omega,by omega,by omega⟩
theorem dcut_any{m:Int}(h1:2^52<=m.natAbs)(h2:m.natAbs<2^53):
  ∃ q l:Int,R (R (134217729*m) - R (R (134217729*m) - m))=2^27*q/\m=2^27*q+l/\q.natAbs<=2^26/\l.natAbs<=2^26:=by
 rcases Int.lt_or_le m 0 with hm | hm
 ·obtain⟨q,l,a,b,c,d⟩:=cut_pos (m:=-m) (by omega) (by omega);refine⟨-q,-l,?_,by omega,by omega,by omega⟩
  rw [show (134217729:Int)*-m=-(134217729*m) from by omega,R_neg,show -R (134217729*m) - -m=-(R (134217729*m) - m) from by omega,R_neg,
   show -R (134217729*m) - -R (R (134217729*m) - m)=-(R (134217729*m) - R (R (134217729*m) - m)) from by omega,R_neg] at a
  omega
 ·exact cut_pos (by omega) (by omega)
theorem missed_at{m n q l q' l':Int}(m1:2^52<=m.natAbs)(m2:m.natAbs<2^53)(n1:2^52<=n.natAbs)(n2:n.natAbs<2^53)(em:m=2^27*q+l)(en:n=2^27*q'+l')(hq:q.natAbs<=2^26)(hl:l.natAbs<=2^26)(hq':q'.natAbs<=2^26)(hl':l'.natAbs<=2^26):
  Rep ((2^27*q)*(2^27*q'))/\Rep ((2^27*q)*l')/\Rep (l*(2^27*q'))/\Rep (l*l') /\
  Rep ((2^27*q)*(2^27*q') - R (m*n))/\Rep ((2^27*q)*(2^27*q') - R (m*n)+(2^27*q)*l')/\Rep ((2^27*q)*(2^27*q') - R (m*n)+(2^27*q)*l'+l*(2^27*q')) /\
  (2^27*q)*(2^27*q') - R (m*n)+(2^27*q)*l'+l*(2^27*q')+l*l'=m*n - R (m*n)/\Rep (m*n - R (m*n))/\(2*(m*n - R (m*n)).natAbs<=2^53):=by
 have p1:(m*n).natAbs<2^106:=by
  rw [Int.natAbs_mul]
  calc m.natAbs*n.natAbs<2^53*2^53:=Nat.mul_lt_mul_of_lt_of_lt m2 n2
   _=2^106:=rfl
 have p2:2^104<=(m*n).natAbs:=by
  rw [Int.natAbs_mul]
  calc 2^104=2^52*2^52:=rfl
   _<=m.natAbs*n.natAbs:=Nat.mul_le_mul m1 n1
 have bd:∀ a b:Int,a.natAbs<=2^26->b.natAbs<=2^26->(a*b).natAbs<=2^52:=fun a b ha hb=>by
  rw [Int.natAbs_mul];exact Nat.le_trans (Nat.mul_le_mul ha hb) (by decide)
 have z1:=bd _ _ hq hq';have z2:=bd _ _ hq hl';have z3:=bd _ _ hl hq';have z4:=bd _ _ hl hl';have err:=R_err (n:=m*n) 53 (by omega);have dv:(2:Int)^52 ∣ R (m*n):=rep_dvd (R_rep _) (R_ge (t:=52+52) p2)
 have f1:(2^27*q)*(2^27*q')=2^54*(q*q'):=by grind
 have f2:(2^27*q)*l'=2^27*(q*l'):=by grind
 have f3:l*(2^27*q')=2^27*(l*q'):=by grind
 have f4:m*n=2^54*(q*q')+2^27*(q*l')+2^27*(l*q')+l*l':=by rw [em,en];grind
 rw [f1,f2,f3];generalize q*q'=Z1 at *;generalize q*l'=Z2 at *;generalize l*q'=Z3 at *;generalize l*l'=Z4 at *;generalize R (m*n)=P at *;generalize m*n=N at *;obtain⟨P',rfl⟩:=dv;clear f1 f2 f3 bd em en;refine⟨rep_of_dvd 54 (Int.dvd_mul_right _ _) (by omega),rep_of_dvd 27 (Int.dvd_mul_right _ _) (by omega),rep_of_dvd 27 (Int.dvd_mul_right _ _) (by omega),rep_of_dvd 0 (Int.one_dvd _) (by omega),rep_of_dvd 52 ⟨4*Z1 - P',by omega⟩ (by omega),rep_of_dvd 27 ⟨2^27*Z1 - 2^25*P'+Z2,by omega⟩ (by omega),rep_of_dvd 0 (Int.one_dvd _) (by omega),by omega,rep_of_dvd 0 (Int.one_dvd _) (by omega),err⟩
theorem nearRung_scale(n d:Nat):nearRung (n*2^d) d=nearRung n 0:=by
 unfold nearRung;rw [Nat.mul_div_cancel _ (Nat.two_pow_pos d),Nat.pow_zero,Nat.div_one,bump_shift,Nat.zero_add]
theorem near_scale(n:Int)(d:Nat):near (n*2^d) d=near n 0:=by
 have hp:(0:Int)<2^d:=by exact_mod_cast Nat.two_pow_pos d
 have e:(n*2^d).natAbs=n.natAbs*2^d:=by rw [Int.natAbs_mul,Int.natAbs_pow];rfl
 unfold near;rw [e,nearRung_scale]
 by_cases h:n<0
 ·rw [if_pos h,if_pos (Int.mul_neg_of_neg_of_pos h hp)]
 ·rw [if_neg h,if_neg (by have:=Int.mul_nonneg (show 0<=n by omega) (Int.le_of_lt hp);omega)]
theorem mag_nearRung_fine{n d:Nat}(h:2^(53+d)<=n):mag (nearRung n d)*2^d=mag (nearRung n 0):=by
 have h0:n≠0:=by have:=Nat.two_pow_pos (53+d);omega
 have hl:53+d<=n.log2:=(Nat.le_log2 h0).2 h
 have eo:over n=over (n / 2^d)+d:=by unfold over;rw [log2_div_pow];omega
 have hk:=over_spec (n / 2^d);rw [mag_nearRung];unfold nearRung floorRung
 obtain⟨o,ho⟩:∃ o,over (n / 2^d)=o:=⟨_,rfl⟩
 rw [ho] at eo hk;rw [ho,eo,div_div_pow] at *;have hb:(bump n (d+o)).toNat<=1:=Bool.toNat_le _;rw [Nat.add_assoc,mag_form o _ (by omega) (by omega),Nat.mul_assoc,<- Nat.pow_add,Nat.add_comm d o]
theorem near_fine{n:Int}{d:Nat}(h:2^(53+d)<=n.natAbs)(hM:-(M:Int)<near n d/\near n d<M):val (near n d)*2^d=R n:=by
 have h1:=near_natAbs n d
 have h2:min (nearRung n.natAbs d) M=nearRung n.natAbs d:=by omega
 have h3:=mag_nearRung_fine h;unfold near R;rw [h2]
 split
 ·rw [val_neg,val_nat,Int.neg_mul]
  congr 1
  exact_mod_cast h3
 ·rw [val_nat]
  exact_mod_cast h3
end
end Go.Proofs.YthlmlmfebpjgdaaGreatDoor
