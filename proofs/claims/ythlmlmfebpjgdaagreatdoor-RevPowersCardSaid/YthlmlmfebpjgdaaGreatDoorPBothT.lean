/-
Lemmas for the statement: BothT.
-/
import Derived.Test.YthlmlmfebpjgdaaGreatDoorM03
import Derived.Test.YthlmlmfebpjgdaaGreatDoorPGoA
import Derived.Deep.DeepCutAuto
set_option linter.unusedSimpArgs false
set_option linter.unusedVariables false
set_option maxHeartbeats 12800000
namespace Go.Proofs.YthlmlmfebpjgdaaGreatDoor
section
open Go.RowKit
attribute [local go_sem] run_store_float
theorem run_eqf(p q:Nat)(W:World):(Op.equalIn 9999 26 (.float .f64 p) (.float .f64 q)).run Tryz.prog W=.ok (FloatKind.f64.format.order p q == some .eq) W:=by
 rw [show (9999:Nat)=9998+1 from rfl,Op.equalIn]
 simp only [Sem.run_bind,run_underlying Tryz.underlying26,Result.andThen_ok,if_true,Sem.run_pure]
 rfl
attribute [local go_sem] run_eqf
theorem readf_idx(i j:Int)(w:World)(h:Iv i j):Calls Tryz.prog 102 #[.agg #[.float .f64 (pat i),.float .f64 (pat j)]] w fun e w'=>e=.returned (.agg #[.float .f64 (pat i),.float .f64 (pat j)])∧Below w.heap.size w w':=by
 have h2:=readf (pat i) (pat j) w (pat_lt h.lo.1 h.lo.2) (pat_lt h.hi.1 h.hi.2);rw [rd_pat h] at h2
 exact h2
def Em(a:Bool)(p1 p2:Nat):Prop:=(a=true→FloatKind.f64.format.order p1 9218868437227405312=some .eq∧FloatKind.f64.format.order p2 18442240474082181120=some .eq)∧(a=false→FloatKind.f64.format.order p1 9218868437227405312=some .lt)
theorem both_any(p1 p2 q1 q2:Nat)(a b:Bool)(w:World)(hx:∀ W,Calls Tryz.prog 102 #[.agg #[.float .f64 p1,.float .f64 p2]] W fun e w'=>e=.returned (.agg #[.float .f64 p1,.float .f64 p2])∧Below W.heap.size W w')
  (hy:∀ W,Calls Tryz.prog 102 #[.agg #[.float .f64 q1,.float .f64 q2]] W fun e w'=>e=.returned (.agg #[.float .f64 q1,.float .f64 q2])∧Below W.heap.size W w')(ha:Em a p1 p2)(hb:Em b q1 q2):
  Calls Tryz.prog 138 #[.agg #[.float .f64 p1,.float .f64 p2],.agg #[.float .f64 q1,.float .f64 q2]] w fun e w'=>e=.returned (.tuple #[.agg #[.float .f64 p1,.float .f64 p2],.agg #[.float .f64 q1,.float .f64 q2],.int .i64 ((if a then 1 else 0)+(if b then 2 else 0))])∧Below w.heap.size w w':=by
 have HX:=Hd hx;have HY:=Hd hy;have HE:=Hd emptyf
 have o01:bits .or .i64 0 1=1:=by decide
 have o02:bits .or .i64 0 2=2:=by decide
 have o12:bits .or .i64 1 2=3:=by decide
 clear hx hy;obtain⟨ha1,ha2⟩:=ha;obtain⟨hb1,hb2⟩:=hb
 cases a<;>cases b
 all_goals
  obtain⟨LB0,LG0_0,LG1_0,LG2_0,LG3_0⟩:=bx4 w #[.float .f64 p1,.float .f64 p2] 28 #[.float .f64 q1,.float .f64 q2] 28 #[.float .f64 0,.float .f64 0] 28 #[.float .f64 0,.float .f64 0] 28
  (first | have e1:=ha2 rfl | obtain⟨e1,e2⟩:=ha1 rfl)
  (first | have e3:=hb2 rfl | obtain⟨e3,e4⟩:=hb1 rfl)
  clear ha1 ha2 hb1 hb2
  go_enter Tryz.func138,Tryz.ntmps138
  go_wp2_with fail;refine wp_region_held_drew (S:=fun W'=>Blk W' w.heap.size 28 #[.float .f64 p1,.float .f64 p2]∧Blk W' (w.heap.size+1) 28 #[.float .f64 q1,.float .f64 q2]∧Blk W' (w.heap.size+2) 28 #[.float .f64 0,.float .f64 0]∧Blk W' (w.heap.size+3) 28 #[.float .f64 0,.float .f64 0]∧Below w.heap.size w W') (by kernel_rfl) (by exact⟨LG0_0.out.drew,LG1_0.out.drew,LG2_0.out.drew,LG3_0.out.drew,LB0.out.drew⟩) (fun hHeld=>?_);refine tk 0 ?_ (hv:=by intro W2 hSw;obtain⟨q0,q1⟩:=hSw.1.c2;go_simp;(try with_reducible rfl));(try simp only [Act.put,lay]);refine tk 2 ?_ (hv:=by intro W2 hSw;obtain⟨q0,q1⟩:=hSw.2.1.c2;go_simp;(try with_reducible rfl));(try simp only [Act.put,lay]);refine rdy 1 (fun KK hKK=>?_);go_simp;refine (HX.out _).mono ?_;rintro e w1 ⟨rfl,hb1⟩;go_wp2_with fail;refine hKK.out _ _ (⟨hHeld.1.keep hb1,hHeld.2.1.keep hb1,hHeld.2.2.1.keep hb1,hHeld.2.2.2.1.keep hb1,hHeld.2.2.2.2.trans (hb1.mono hHeld.2.2.2.2.size)⟩) (fun _=>?_);clear hKK KK hHeld;rename_i hHeld;(try simp only [Act.put,lay]);refine rdy 3 (fun KK hKK=>?_);go_simp;refine (HY.out _).mono ?_;rintro e w2 ⟨rfl,hb2⟩;go_wp2_with fail;refine hKK.out _ _ (⟨hHeld.1.keep hb2,hHeld.2.1.keep hb2,hHeld.2.2.1.keep hb2,hHeld.2.2.2.1.keep hb2,hHeld.2.2.2.2.trans (hb2.mono hHeld.2.2.2.2.size)⟩) (fun _=>?_);clear hKK KK hHeld;rename_i hHeld;(try simp only [Act.put,lay]);refine rdy 4 (fun KK hKK=>?_);have ha0:=hHeld.1.someCell (j:=0) (by simp);have hf0:=hHeld.1.frozen 0;have ha1:=hHeld.1.someCell (j:=1) (by simp);have hf1:=hHeld.1.frozen 1
  go_simp;refine hKK.out _ _ (⟨by have h:=Blk.sets [.float .f64 p1,.float .f64 p2] 0 _ _ hHeld.1;simpa [laid,sets] using h,hHeld.2.1.other (by omega) 0 [.float .f64 p1,.float .f64 p2],hHeld.2.2.1.other (by omega) 0 [.float .f64 p1,.float .f64 p2],hHeld.2.2.2.1.other (by omega) 0 [.float .f64 p1,.float .f64 p2],below_sets (by omega) [.float .f64 p1,.float .f64 p2] 0 _ hHeld.2.2.2.2⟩) (fun _=>?_);clear hKK KK hHeld;rename_i hHeld;(try simp only [Act.put,lay]);refine rdy 5 (fun KK hKK=>?_);clear ha0 hf0 ha1 hf1;have ha0:=hHeld.2.1.someCell (j:=0) (by simp);have hf0:=hHeld.2.1.frozen 0;have ha1:=hHeld.2.1.someCell (j:=1) (by simp);have hf1:=hHeld.2.1.frozen 1;go_simp;refine hKK.out _ _ (⟨hHeld.1.other (by omega) 0 [.float .f64 q1,.float .f64 q2],by have h:=Blk.sets [.float .f64 q1,.float .f64 q2] 0 _ _ hHeld.2.1;simpa [laid,sets] using h,hHeld.2.2.1.other (by omega) 0 [.float .f64 q1,.float .f64 q2],hHeld.2.2.2.1.other (by omega) 0 [.float .f64 q1,.float .f64 q2],below_sets (by omega) [.float .f64 q1,.float .f64 q2] 0 _ hHeld.2.2.2.2⟩) (fun _=>?_);clear hKK KK hHeld;rename_i hHeld;(try simp only [Act.put,lay]);refine wpAnyH_done (by kernel_rfl) ?_ _
  obtain⟨V1,hV1⟩:∃ X,((((w2.setCell ⟨w.heap.size,0,none⟩ (.float .f64 p1)).setCell ⟨w.heap.size,1,none⟩ (.float .f64 p2)).setCell ⟨w.heap.size+1,0,none⟩ (.float .f64 q1)).setCell ⟨w.heap.size+1,1,none⟩ (.float .f64 q2))=X:=⟨_,rfl⟩
  rw [hV1] at hHeld ⊢;clear hV1 ha0 ha1 hf0 hf1 hb1 hb2 LB0 LG0_0 LG1_0 LG2_0 LG3_0;have LG0_1:=Hd hHeld.1;have LG1_1:=Hd hHeld.2.1;have LG2_1:=Hd hHeld.2.2.1;have LG3_1:=Hd hHeld.2.2.2.1;have LB1:=Hd hHeld.2.2.2.2;clear hHeld;go_wp2_with fail;refine wp_region_held_drew (S:=fun W'=>Blk W' w.heap.size 28 #[.float .f64 p1,.float .f64 p2]∧Blk W' (w.heap.size+1) 28 #[.float .f64 q1,.float .f64 q2]∧Blk W' (w.heap.size+2) 28 #[.float .f64 0,.float .f64 0]∧Blk W' (w.heap.size+3) 28 #[.float .f64 0,.float .f64 0]∧Below w.heap.size w W') (by kernel_rfl) (by exact⟨LG0_1.out.drew,LG1_1.out.drew,LG2_1.out.drew,LG3_1.out.drew,LB1.out.drew⟩) (fun hHeld=>?_);refine tk 0 ?_ (hv:=by intro W2 hSw;obtain⟨q0,q1⟩:=hSw.1.c2;go_simp;(try with_reducible rfl));(try simp only [Act.put,lay]);refine rdy 1 (fun KK hKK=>?_);go_simp;refine (HE.out _).mono ?_;rintro e wc ⟨rfl,hbwc⟩;go_wp2_with fail;refine hKK.out _ _ (⟨hHeld.1.keep hbwc,hHeld.2.1.keep hbwc,hHeld.2.2.1.keep hbwc,hHeld.2.2.2.1.keep hbwc,hHeld.2.2.2.2.trans (hbwc.mono hHeld.2.2.2.2.size)⟩) (fun _=>?_);clear hKK KK hHeld;rename_i hHeld;(try simp only [Act.put,lay]);refine tk 2 ?_;(try simp only [Act.put,lay]);refine wpAnyH_done (by kernel_rfl) ?_ _;have LG0_2:=Hd hHeld.1;have LG1_2:=Hd hHeld.2.1;have LG2_2:=Hd hHeld.2.2.1;have LG3_2:=Hd hHeld.2.2.2.1;have LB2:=Hd hHeld.2.2.2.2;clear hHeld hbwc LB1 LG0_1 LG1_1 LG2_1 LG3_1;go_wp2_with fail;refine wp_region_held_drew (S:=fun W'=>Blk W' w.heap.size 28 #[.float .f64 p1,.float .f64 p2]∧Blk W' (w.heap.size+1) 28 #[.float .f64 q1,.float .f64 q2]∧Blk W' (w.heap.size+2) 28 #[.float .f64 0,.float .f64 0]∧Blk W' (w.heap.size+3) 28 #[.float .f64 0,.float .f64 0]∧Below w.heap.size w W') (by kernel_rfl) (by exact⟨LG0_2.out.drew,LG1_2.out.drew,LG2_2.out.drew,LG3_2.out.drew,LB2.out.drew⟩) (fun hHeld=>?_)
  refine tk 0 ?_ (hv:=by intro W2 hSw;obtain⟨q0,q1⟩:=hSw.2.1.c2;go_simp;(try with_reducible rfl));(try simp only [Act.put,lay]);refine rdy 1 (fun KK hKK=>?_);go_simp;refine (HE.out _).mono ?_;rintro e wd ⟨rfl,hbwd⟩;go_wp2_with fail;refine hKK.out _ _ (⟨hHeld.1.keep hbwd,hHeld.2.1.keep hbwd,hHeld.2.2.1.keep hbwd,hHeld.2.2.2.1.keep hbwd,hHeld.2.2.2.2.trans (hbwd.mono hHeld.2.2.2.2.size)⟩) (fun _=>?_);clear hKK KK hHeld;rename_i hHeld;(try simp only [Act.put,lay]);refine tk 2 ?_;(try simp only [Act.put,lay]);refine wpAnyH_done (by kernel_rfl) ?_ _;have LG0_3:=Hd hHeld.1;have LG1_3:=Hd hHeld.2.1;have LG2_3:=Hd hHeld.2.2.1;have LG3_3:=Hd hHeld.2.2.2.1;have LB3:=Hd hHeld.2.2.2.2;clear hHeld hbwd LB2 LG0_2 LG1_2 LG2_2 LG3_2;go_wp2_with fail;obtain⟨q0_0,q0_1⟩:=LG0_3.out.c2;obtain⟨q1_0,q1_1⟩:=LG1_3.out.c2;have ha20:=LG2_3.out.cell 0;have hf20:=LG2_3.out.frozen 0;have ha21:=LG2_3.out.cell 1;have hf21:=LG2_3.out.frozen 1;have ha30:=LG3_3.out.cell 0;have hf30:=LG3_3.out.frozen 0;have ha31:=LG3_3.out.cell 1;have hf31:=LG3_3.out.frozen 1
  simp at ha20 ha21 ha30 ha31
  go_region
  have Z2:Blk (sets wd (w.heap.size+1+1) 0 [.float .f64 p1,.float .f64 p2]) (w.heap.size+1+1) 28 #[.float .f64 p1,.float .f64 p2]:=by
   have h:=Blk.sets [.float .f64 p1,.float .f64 p2] 0 _ _ LG2_3.out
   simpa [laid] using h
  have Z2b:=Z2.other (r:=(w.heap.size+1+1+1)) (by omega) 0 [.float .f64 q1,.float .f64 q2]
  have Z3:Blk (sets (sets wd (w.heap.size+1+1) 0 [.float .f64 p1,.float .f64 p2]) (w.heap.size+1+1+1) 0 [.float .f64 q1,.float .f64 q2]) (w.heap.size+1+1+1) 28 #[.float .f64 q1,.float .f64 q2]:=by
   have h:=Blk.sets [.float .f64 q1,.float .f64 q2] 0 _ _ (LG3_3.out.other (r:=(w.heap.size+1+1)) (by omega) 0 [.float .f64 p1,.float .f64 p2])
   simpa [laid] using h
  have k0:=Z2b.drew.cell 0;have k1:=Z2b.drew.cell 1;have k2:=Z3.drew.cell 0;have k3:=Z3.drew.cell 1;have F:=Hd ((below_sets (w0:=w) (r:=(w.heap.size+1+1+1)) (by omega) [.float .f64 q1,.float .f64 q2] 0 _ (below_sets (w0:=w) (r:=(w.heap.size+1+1)) (by omega) [.float .f64 p1,.float .f64 p2] 0 _ LB3.out)).drew)
  simp [sets] at k0 k1 k2 k3
  clear Z2 Z2b Z3 ha20 ha21 ha30 ha31 hf20 hf21 hf30 hf31;go_wp2
  first
   | exact bodyPost_ret (v:=.tuple #[.agg #[.float .f64 p1,.float .f64 p2],.agg #[.float .f64 q1,.float .f64 q2],.int .i64 0]) (by simp [results,Tryz.results138,go_sem,k0,k1,k2,k3]) rfl ⟨rfl,F.out⟩
   | exact bodyPost_ret (v:=.tuple #[.agg #[.float .f64 p1,.float .f64 p2],.agg #[.float .f64 q1,.float .f64 q2],.int .i64 1]) (by simp [results,Tryz.results138,go_sem,k0,k1,k2,k3]) rfl ⟨rfl,F.out⟩
   | exact bodyPost_ret (v:=.tuple #[.agg #[.float .f64 p1,.float .f64 p2],.agg #[.float .f64 q1,.float .f64 q2],.int .i64 2]) (by simp [results,Tryz.results138,go_sem,k0,k1,k2,k3]) rfl ⟨rfl,F.out⟩
   | exact bodyPost_ret (v:=.tuple #[.agg #[.float .f64 p1,.float .f64 p2],.agg #[.float .f64 q1,.float .f64 q2],.int .i64 3]) (by simp [results,Tryz.results138,go_sem,k0,k1,k2,k3]) rfl ⟨rfl,F.out⟩
end
end Go.Proofs.YthlmlmfebpjgdaaGreatDoor
