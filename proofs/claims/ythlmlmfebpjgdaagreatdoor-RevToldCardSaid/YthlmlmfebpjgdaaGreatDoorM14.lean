/-
Lemmas for the statement: IraT SplitT ExactT Inf1T.
-/
import Derived.Test.YthlmlmfebpjgdaaGreatDoorPBothT
import Derived.Test.YthlmlmfebpjgdaaGreatDoorPIntsT
import Derived.Deep.DeepCutAuto
import Derived.Test.YthlmlmfebpjgdaaGreatDoorPMathT
import Derived.Test.YthlmlmfebpjgdaaGreatDoorM02
import Derived.Laws.FloatArith
import Derived.Test.YthlmlmfebpjgdaaGreatDoorM11
import Derived.Test.YthlmlmfebpjgdaaGreatDoorPGoA
set_option linter.unusedSimpArgs false
set_option linter.unusedVariables false
set_option maxHeartbeats 12800000
namespace Go.Proofs.YthlmlmfebpjgdaaGreatDoor
section
open Go.RowKit
attribute [local go_sem] run_store_float run_eqf
set_option maxRecDepth 8000 in
theorem both_gen(u1 u2 v1 v2 p1 p2 q1 q2:Nat)(a b:Bool)(w:World)(hx:∀ W,Rt 102 #[.agg #[.float .f64 u1,.float .f64 u2]] (.agg #[.float .f64 p1,.float .f64 p2]) W)(hy:∀ W,Rt 102 #[.agg #[.float .f64 v1,.float .f64 v2]] (.agg #[.float .f64 q1,.float .f64 q2]) W)(ha:Em a p1 p2)(hb:Em b q1 q2):
  Rt 138 #[.agg #[.float .f64 u1,.float .f64 u2],.agg #[.float .f64 v1,.float .f64 v2]] (.tuple #[.agg #[.float .f64 p1,.float .f64 p2],.agg #[.float .f64 q1,.float .f64 q2],.int .i64 ((if a then 1 else 0)+(if b then 2 else 0))]) w:=by
 have HE:=Hd emptyf
 have o01:bits .or .i64 0 1=1:=by decide
 have o02:bits .or .i64 0 2=2:=by decide
 have o12:bits .or .i64 1 2=3:=by decide
 have HX:=Hd hx;have HY:=Hd hy;have HA:=Hd ha;have HB:=Hd hb;clear hx hy ha hb;have LL:=li4 w #[.float .f64 u1,.float .f64 u2] 28 #[.float .f64 v1,.float .f64 v2] 28 #[.float .f64 0,.float .f64 0] 28 #[.float .f64 0,.float .f64 0] 28
 go_enter Tryz.func138,Tryz.ntmps138
 have PB2:=Hd (LL.out.blk 0 rfl);have PB3:=Hd (LL.out.blk 1 rfl)
 go_upto_region 1 with fail
 go_cut [7] (fun s7 wx=>s7=undef/\Lies w wx [((w.heap.size+2),28,#[.float .f64 0,.float .f64 0]),((w.heap.size+3),28,#[.float .f64 0,.float .f64 0]),((w.heap.size+1),28,#[.float .f64 q1,.float .f64 q2]),(w.heap.size,28,#[.float .f64 p1,.float .f64 p2])] [])
 case first=>
  replace LL:=Hd (LL.out.loose0 rfl);replace LL:=Hd (LL.out.loose0 rfl);refine regL LL (fun hHeld=>?_);clear LL
  obtain⟨wk,hwk⟩:∃ X,(((((w.alloc (.cells #[.float .f64 u1,.float .f64 u2] 28)).alloc (.cells #[.float .f64 v1,.float .f64 v2] 28)).alloc (.cells #[.float .f64 0,.float .f64 0] 28)).alloc (.cells #[.float .f64 0,.float .f64 0] 28))).drew=X:=⟨_,rfl⟩
  replace PB2:=Hd PB2.out.drew;replace PB3:=Hd PB3.out.drew;rw [hwk] at hHeld PB2 PB3 ⊢;clear hwk
  repeat' first
   | (have hx:=hR0;clear hx;have BXo:=PB2.out;obtain⟨qr0,qr1⟩:=BXo.c2;go_simp;refine hR0.out _ _ hHeld (fun _=>?_);clear hR0 KK hHeld BXo qr0 qr1;rename_i hHeld;(try simp only [Act.put,lay]);have mk0:=True.intro)
   | (have hx:=hC1;clear hx;go_simp;refine (HX.out _).mono ?_;rintro e wk ⟨rfl,hb1⟩;go_wp2_with fail;refine hC1.out _ _ (hHeld.keep hb1) (fun _=>?_);clear hC1 KK hHeld;rename_i hHeld;(try simp only [Act.put,lay]);(try replace PB2:=Hd (PB2.out.keep hb1));(try replace PB3:=Hd (PB3.out.keep hb1));clear hb1;have mk1:=True.intro)
   | (have hx:=hR2;clear hx;have BXo:=PB3.out;obtain⟨qr0,qr1⟩:=BXo.c2;go_simp;refine hR2.out _ _ hHeld (fun _=>?_);clear hR2 KK hHeld BXo qr0 qr1;rename_i hHeld;(try simp only [Act.put,lay]);have mk2:=True.intro)
   | (have hx:=hC3;clear hx;go_simp;refine (HY.out _).mono ?_;rintro e wk ⟨rfl,hb2⟩;go_wp2_with fail;refine hC3.out _ _ (hHeld.keep hb2) (fun _=>?_);clear hC3 KK hHeld;rename_i hHeld;(try simp only [Act.put,lay]);(try replace PB2:=Hd (PB2.out.keep hb2));(try replace PB3:=Hd (PB3.out.keep hb2));clear hb2;have mk3:=True.intro)
   | (have hx:=hS4;clear hx;obtain⟨ha0,hf0,ha1,hf1⟩:=(hHeld.has 1 rfl).sf2;obtain⟨csx,hbx,-,hcx⟩:=hHeld.has 1 rfl;(try clear PB2);(try clear PB3);clear hbx hcx;go_simp;have HS_1:=(hHeld.has 1 rfl).laid [.float .f64 p1,.float .f64 p2] rfl;refine hS4.out _ _ (hHeld.over 1 rfl [.float .f64 p1,.float .f64 p2] rfl rfl (by first | omega | exact hHeld.le_of 1 rfl) (by simp<;>omega) (by simp<;>omega)) (fun _=>?_);clear hS4 KK hHeld;rename_i hHeld;(try simp only [Act.put,lay]);(try replace HS_0:=HS_0.other (r:=w.heap.size) (by omega) 0 [.float .f64 p1,.float .f64 p2]);replace hHeld:=(show Lies _ (sets wk w.heap.size 0 [.float .f64 p1,.float .f64 p2]) _ _ from hHeld);obtain⟨wk,hwn⟩:∃ X,sets wk w.heap.size 0 [.float .f64 p1,.float .f64 p2]=X:=⟨_,rfl⟩;rw [hwn] at hHeld HS_1;(try rw [hwn] at HS_0);simp only [sets] at hwn;rw [hwn];clear hwn ha0 hf0 ha1 hf1;have mk4:=True.intro)
   | (have hx:=hS5;clear hx;obtain⟨ha0,hf0,ha1,hf1⟩:=(hHeld.has 0 rfl).sf2;obtain⟨csx,hbx,-,hcx⟩:=hHeld.has 0 rfl;(try clear PB2);(try clear PB3);clear hbx hcx;go_simp;have HS_0:=(hHeld.has 0 rfl).laid [.float .f64 q1,.float .f64 q2] rfl;refine hS5.out _ _ (hHeld.over 0 rfl [.float .f64 q1,.float .f64 q2] rfl rfl (by first | omega | exact hHeld.le_of 0 rfl) (by simp<;>omega) (by simp<;>omega)) (fun _=>?_);clear hS5 KK hHeld;rename_i hHeld;(try simp only [Act.put,lay]);(try replace HS_1:=HS_1.other (r:=(w.heap.size+1)) (by omega) 0 [.float .f64 q1,.float .f64 q2]);replace hHeld:=(show Lies _ (sets wk (w.heap.size+1) 0 [.float .f64 q1,.float .f64 q2]) _ _ from hHeld);obtain⟨wk,hwn⟩:∃ X,sets wk (w.heap.size+1) 0 [.float .f64 q1,.float .f64 q2]=X:=⟨_,rfl⟩;rw [hwn] at hHeld HS_0;(try rw [hwn] at HS_1);simp only [sets] at hwn;rw [hwn];clear hwn ha0 hf0 ha1 hf1;have mk5:=True.intro)
   | (have hx:=mk0;have hx:=mk1;have hx:=mk2;have hx:=mk3;have hx:=mk4;have hx:=mk5;refine wpAnyH_done (by kernel_rfl) ?_ _;clear hx mk0 mk1 mk2 mk3 mk4 mk5;go_wp2_with fail;go_meet;exact⟨rfl,(hHeld.tight HS_0).tight HS_1⟩)
   | (have hx:=mk0;have hx:=mk1;have hx:=mk2;have hx:=mk3;have hx:=mk4;refine rdy 5 (fun KK hS5=>?_))
   | (have hx:=mk0;have hx:=mk1;have hx:=mk2;have hx:=mk3;refine rdy 4 (fun KK hS4=>?_))
   | (have hx:=mk0;have hx:=mk1;have hx:=mk2;refine rdy 3 (fun KK hC3=>?_))
   | (have hx:=mk0;have hx:=mk2;refine rdy 1 (fun KK hC1=>?_))
   | (have hx:=mk0;have hx:=mk1;refine rdy 2 (fun KK hR2=>?_))
   | (have hx:=mk2;refine rdy 0 (fun KK hR0=>?_))
   | (have hx:=mk0;refine rd2 1 2 (fun KK hC1=>?_) (fun KK hR2=>?_))
   | (refine rd2 0 2 (fun KK hR0=>?_) (fun KK hR2=>?_))
 case rest=>
 obtain⟨rfl,hcl⟩:=hcut;rename World=>wx;clear LL HX HY PB2 PB3;have LL:=Hd hcl;clear hcl;obtain⟨ha1,ha2⟩:=HA.out;obtain⟨hb1,hb2⟩:=HB.out;clear HA HB
 cases a<;>cases b
 ·skip;have e1:=ha2 rfl;have e3:=hb2 rfl;clear ha1 ha2 hb1 hb2;have E3:=Hd e3;clear e3;go_wp2_with fail;refine regL LL (fun hHeld=>?_);clear LL
  obtain⟨wk,hwk⟩:∃ X,(wx).drew=X:=⟨_,rfl⟩
  rw [hwk] at hHeld  ⊢;clear hwk;refine tkb 0 (fun _ h=>(h.blk 3 rfl).c2) ?_;refine rdy 1 (fun KK hKK=>?_);go_simp;refine cs (HE.out _) ?_;clear hKK KK hHeld;intro wk hb1 hHeld;clear hb1;refine tks 2 ?_;refine wpAnyH_done (by kernel_rfl) ?_ _;have LL:=Hd hHeld;clear hHeld;have e3:=E3.out;go_wp2_with fail;refine regL LL (fun hHeld=>?_);clear LL
  obtain⟨wk,hwk⟩:∃ X,(wk).drew=X:=⟨_,rfl⟩
  rw [hwk] at hHeld  ⊢;clear hwk;refine tkb 0 (fun _ h=>(h.blk 2 rfl).c2) ?_;refine rdy 1 (fun KK hKK=>?_);go_simp;refine cs (HE.out _) ?_;clear hKK KK hHeld;intro wk hb1 hHeld;clear hb1;refine tks 2 ?_;refine wpAnyH_done (by kernel_rfl) ?_ _;have LL:=Hd hHeld;clear hHeld;clear e1;go_wp2_with fail;clear e3;replace LL:=Hd (LL.out.loose0 rfl);replace LL:=Hd (LL.out.loose0 rfl);refine regL LL (fun hHeld=>?_);clear LL
  obtain⟨wk,hwk⟩:∃ X,(wk).drew=X:=⟨_,rfl⟩
  rw [hwk] at hHeld  ⊢;clear hwk;refine tkb 0 (fun _ h=>(h.blk 1 rfl).c2) ?_;refine tkb 1 (fun _ h=>(h.blk 0 rfl).c2) ?_;refine tks 2 ?_;refine rdy 3 (fun KK hKK=>?_);obtain⟨ha0,hf0,ha1,hf1⟩:=(hHeld.has 1 rfl).sf2;go_simp;have HS_1:=(hHeld.has 1 rfl).laid [.float .f64 p1,.float .f64 p2] rfl;refine hKK.out _ _ (hHeld.over 1 rfl [.float .f64 p1,.float .f64 p2] rfl rfl (by first | omega | exact hHeld.le_of 1 rfl) (by simp<;>omega) (by simp<;>omega)) (fun _=>?_);clear hKK KK hHeld;rename_i hHeld;(try simp only [Act.put,lay])
  replace hHeld:=(show Lies _ (sets wk (w.heap.size+2) 0 [.float .f64 p1,.float .f64 p2]) _ _ from hHeld)
  obtain⟨wk,hwn⟩:∃ X,sets wk (w.heap.size+2) 0 [.float .f64 p1,.float .f64 p2]=X:=⟨_,rfl⟩
  rw [hwn] at hHeld  HS_1
  simp only [sets] at hwn
  rw [hwn];clear hwn;refine rdy 4 (fun KK hKK=>?_);obtain⟨ha0,hf0,ha1,hf1⟩:=(hHeld.has 0 rfl).sf2;go_simp;have HS_0:=(hHeld.has 0 rfl).laid [.float .f64 q1,.float .f64 q2] rfl;refine hKK.out _ _ (hHeld.over 0 rfl [.float .f64 q1,.float .f64 q2] rfl rfl (by first | omega | exact hHeld.le_of 0 rfl) (by simp<;>omega) (by simp<;>omega)) (fun _=>?_);clear hKK KK hHeld;rename_i hHeld;(try simp only [Act.put,lay]);replace HS_1:=HS_1.other (r:=(w.heap.size+3)) (by omega) 0 [.float .f64 q1,.float .f64 q2];refine tks 5 ?_;refine wpAnyH_done (by kernel_rfl) ?_ _;have LB:=Hd hHeld.b;clear hHeld;obtain⟨hk4_0,hk4_1⟩:=HS_1.c2;clear HS_1;obtain⟨hk5_0,hk5_1⟩:=HS_0.c2;clear HS_0
  simp [sets] at hk4_0 hk4_1 hk5_0 hk5_1
  go_wp2;refine bodyPost_ret (v:=.tuple #[.agg #[.float .f64 p1,.float .f64 p2],.agg #[.float .f64 q1,.float .f64 q2],.int .i64 0]) (by simp [results,Tryz.results138,go_sem,hk4_0,hk4_1,hk5_0,hk5_1]) rfl ?_
  exact⟨rfl,LB.out⟩
 ·skip;have e1:=ha2 rfl;obtain⟨e3,e4⟩:=hb1 rfl;clear ha1 ha2 hb1 hb2;have E3:=Hd e3;have E4:=Hd e4;clear e3 e4;go_wp2_with fail;refine regL LL (fun hHeld=>?_);clear LL
  obtain⟨wk,hwk⟩:∃ X,(wx).drew=X:=⟨_,rfl⟩
  rw [hwk] at hHeld  ⊢;clear hwk;refine tkb 0 (fun _ h=>(h.blk 3 rfl).c2) ?_;refine rdy 1 (fun KK hKK=>?_);go_simp;refine cs (HE.out _) ?_;clear hKK KK hHeld;intro wk hb1 hHeld;clear hb1;refine tks 2 ?_;refine wpAnyH_done (by kernel_rfl) ?_ _;have LL:=Hd hHeld;clear hHeld;have e3:=E3.out;have e4:=E4.out;go_wp2_with fail;refine regL LL (fun hHeld=>?_);clear LL
  obtain⟨wk,hwk⟩:∃ X,(wk).drew=X:=⟨_,rfl⟩
  rw [hwk] at hHeld  ⊢;clear hwk;refine tkb 0 (fun _ h=>(h.blk 2 rfl).c2) ?_;refine rdy 1 (fun KK hKK=>?_);go_simp;refine cs (HE.out _) ?_;clear hKK KK hHeld;intro wk hb1 hHeld;clear hb1;refine tks 2 ?_;refine wpAnyH_done (by kernel_rfl) ?_ _;have LL:=Hd hHeld;clear hHeld;clear e1;go_wp2_with fail;clear e3 e4;replace LL:=Hd (LL.out.loose0 rfl);replace LL:=Hd (LL.out.loose0 rfl);refine regL LL (fun hHeld=>?_);clear LL
  obtain⟨wk,hwk⟩:∃ X,(wk).drew=X:=⟨_,rfl⟩
  rw [hwk] at hHeld  ⊢;clear hwk;refine tkb 0 (fun _ h=>(h.blk 1 rfl).c2) ?_;refine tkb 1 (fun _ h=>(h.blk 0 rfl).c2) ?_;refine tks 2 ?_;refine rdy 3 (fun KK hKK=>?_);obtain⟨ha0,hf0,ha1,hf1⟩:=(hHeld.has 1 rfl).sf2;go_simp;have HS_1:=(hHeld.has 1 rfl).laid [.float .f64 p1,.float .f64 p2] rfl;refine hKK.out _ _ (hHeld.over 1 rfl [.float .f64 p1,.float .f64 p2] rfl rfl (by first | omega | exact hHeld.le_of 1 rfl) (by simp<;>omega) (by simp<;>omega)) (fun _=>?_);clear hKK KK hHeld;rename_i hHeld;(try simp only [Act.put,lay])
  replace hHeld:=(show Lies _ (sets wk (w.heap.size+2) 0 [.float .f64 p1,.float .f64 p2]) _ _ from hHeld)
  obtain⟨wk,hwn⟩:∃ X,sets wk (w.heap.size+2) 0 [.float .f64 p1,.float .f64 p2]=X:=⟨_,rfl⟩
  rw [hwn] at hHeld  HS_1
  simp only [sets] at hwn
  rw [hwn];clear hwn;refine rdy 4 (fun KK hKK=>?_);obtain⟨ha0,hf0,ha1,hf1⟩:=(hHeld.has 0 rfl).sf2;go_simp;have HS_0:=(hHeld.has 0 rfl).laid [.float .f64 q1,.float .f64 q2] rfl;refine hKK.out _ _ (hHeld.over 0 rfl [.float .f64 q1,.float .f64 q2] rfl rfl (by first | omega | exact hHeld.le_of 0 rfl) (by simp<;>omega) (by simp<;>omega)) (fun _=>?_);clear hKK KK hHeld;rename_i hHeld;(try simp only [Act.put,lay]);replace HS_1:=HS_1.other (r:=(w.heap.size+3)) (by omega) 0 [.float .f64 q1,.float .f64 q2];refine tks 5 ?_;refine wpAnyH_done (by kernel_rfl) ?_ _;have LB:=Hd hHeld.b;clear hHeld;obtain⟨hk4_0,hk4_1⟩:=HS_1.c2;clear HS_1;obtain⟨hk5_0,hk5_1⟩:=HS_0.c2;clear HS_0
  simp [sets] at hk4_0 hk4_1 hk5_0 hk5_1
  go_wp2;refine bodyPost_ret (v:=.tuple #[.agg #[.float .f64 p1,.float .f64 p2],.agg #[.float .f64 q1,.float .f64 q2],.int .i64 2]) (by simp [results,Tryz.results138,go_sem,hk4_0,hk4_1,hk5_0,hk5_1]) rfl ?_
  exact⟨rfl,LB.out⟩
 ·skip;obtain⟨e1,e2⟩:=ha1 rfl;have e3:=hb2 rfl;clear ha1 ha2 hb1 hb2;have E3:=Hd e3;clear e3;go_wp2_with fail;refine regL LL (fun hHeld=>?_);clear LL
  obtain⟨wk,hwk⟩:∃ X,(wx).drew=X:=⟨_,rfl⟩
  rw [hwk] at hHeld  ⊢;clear hwk;refine tkb 0 (fun _ h=>(h.blk 3 rfl).c2) ?_;refine rdy 1 (fun KK hKK=>?_);go_simp;refine cs (HE.out _) ?_;clear hKK KK hHeld;intro wk hb1 hHeld;clear hb1;refine tks 2 ?_;refine wpAnyH_done (by kernel_rfl) ?_ _;have LL:=Hd hHeld;clear hHeld;have e3:=E3.out;go_wp2_with fail;refine regL LL (fun hHeld=>?_);clear LL
  obtain⟨wk,hwk⟩:∃ X,(wk).drew=X:=⟨_,rfl⟩
  rw [hwk] at hHeld  ⊢;clear hwk;refine tkb 0 (fun _ h=>(h.blk 2 rfl).c2) ?_;refine rdy 1 (fun KK hKK=>?_);go_simp;refine cs (HE.out _) ?_;clear hKK KK hHeld;intro wk hb1 hHeld;clear hb1;refine tks 2 ?_;refine wpAnyH_done (by kernel_rfl) ?_ _;have LL:=Hd hHeld;clear hHeld;clear e1 e2;go_wp2_with fail;clear e3;replace LL:=Hd (LL.out.loose0 rfl);replace LL:=Hd (LL.out.loose0 rfl);refine regL LL (fun hHeld=>?_);clear LL
  obtain⟨wk,hwk⟩:∃ X,(wk).drew=X:=⟨_,rfl⟩
  rw [hwk] at hHeld  ⊢;clear hwk;refine tkb 0 (fun _ h=>(h.blk 1 rfl).c2) ?_;refine tkb 1 (fun _ h=>(h.blk 0 rfl).c2) ?_;refine tks 2 ?_;refine rdy 3 (fun KK hKK=>?_);obtain⟨ha0,hf0,ha1,hf1⟩:=(hHeld.has 1 rfl).sf2;go_simp;have HS_1:=(hHeld.has 1 rfl).laid [.float .f64 p1,.float .f64 p2] rfl;refine hKK.out _ _ (hHeld.over 1 rfl [.float .f64 p1,.float .f64 p2] rfl rfl (by first | omega | exact hHeld.le_of 1 rfl) (by simp<;>omega) (by simp<;>omega)) (fun _=>?_);clear hKK KK hHeld;rename_i hHeld;(try simp only [Act.put,lay])
  replace hHeld:=(show Lies _ (sets wk (w.heap.size+2) 0 [.float .f64 p1,.float .f64 p2]) _ _ from hHeld)
  obtain⟨wk,hwn⟩:∃ X,sets wk (w.heap.size+2) 0 [.float .f64 p1,.float .f64 p2]=X:=⟨_,rfl⟩
  rw [hwn] at hHeld  HS_1
  simp only [sets] at hwn
  rw [hwn];clear hwn;refine rdy 4 (fun KK hKK=>?_);obtain⟨ha0,hf0,ha1,hf1⟩:=(hHeld.has 0 rfl).sf2;go_simp;have HS_0:=(hHeld.has 0 rfl).laid [.float .f64 q1,.float .f64 q2] rfl;refine hKK.out _ _ (hHeld.over 0 rfl [.float .f64 q1,.float .f64 q2] rfl rfl (by first | omega | exact hHeld.le_of 0 rfl) (by simp<;>omega) (by simp<;>omega)) (fun _=>?_);clear hKK KK hHeld;rename_i hHeld;(try simp only [Act.put,lay]);replace HS_1:=HS_1.other (r:=(w.heap.size+3)) (by omega) 0 [.float .f64 q1,.float .f64 q2];refine tks 5 ?_;refine wpAnyH_done (by kernel_rfl) ?_ _;have LB:=Hd hHeld.b;clear hHeld;obtain⟨hk4_0,hk4_1⟩:=HS_1.c2;clear HS_1;obtain⟨hk5_0,hk5_1⟩:=HS_0.c2;clear HS_0
  simp [sets] at hk4_0 hk4_1 hk5_0 hk5_1
  go_wp2;refine bodyPost_ret (v:=.tuple #[.agg #[.float .f64 p1,.float .f64 p2],.agg #[.float .f64 q1,.float .f64 q2],.int .i64 1]) (by simp [results,Tryz.results138,go_sem,hk4_0,hk4_1,hk5_0,hk5_1]) rfl ?_
  exact⟨rfl,LB.out⟩
 ·skip;obtain⟨e1,e2⟩:=ha1 rfl;obtain⟨e3,e4⟩:=hb1 rfl;clear ha1 ha2 hb1 hb2;have E3:=Hd e3;have E4:=Hd e4;clear e3 e4;go_wp2_with fail;refine regL LL (fun hHeld=>?_);clear LL
  obtain⟨wk,hwk⟩:∃ X,(wx).drew=X:=⟨_,rfl⟩
  rw [hwk] at hHeld  ⊢;clear hwk;refine tkb 0 (fun _ h=>(h.blk 3 rfl).c2) ?_;refine rdy 1 (fun KK hKK=>?_);go_simp;refine cs (HE.out _) ?_;clear hKK KK hHeld;intro wk hb1 hHeld;clear hb1;refine tks 2 ?_;refine wpAnyH_done (by kernel_rfl) ?_ _;have LL:=Hd hHeld;clear hHeld;have e3:=E3.out;have e4:=E4.out;go_wp2_with fail;refine regL LL (fun hHeld=>?_);clear LL
  obtain⟨wk,hwk⟩:∃ X,(wk).drew=X:=⟨_,rfl⟩
  rw [hwk] at hHeld  ⊢;clear hwk;refine tkb 0 (fun _ h=>(h.blk 2 rfl).c2) ?_;refine rdy 1 (fun KK hKK=>?_);go_simp;refine cs (HE.out _) ?_;clear hKK KK hHeld;intro wk hb1 hHeld;clear hb1;refine tks 2 ?_;refine wpAnyH_done (by kernel_rfl) ?_ _;have LL:=Hd hHeld;clear hHeld;clear e1 e2;go_wp2_with fail;clear e3 e4;replace LL:=Hd (LL.out.loose0 rfl);replace LL:=Hd (LL.out.loose0 rfl);refine regL LL (fun hHeld=>?_);clear LL
  obtain⟨wk,hwk⟩:∃ X,(wk).drew=X:=⟨_,rfl⟩
  rw [hwk] at hHeld  ⊢;clear hwk;refine tkb 0 (fun _ h=>(h.blk 1 rfl).c2) ?_;refine tkb 1 (fun _ h=>(h.blk 0 rfl).c2) ?_;refine tks 2 ?_;refine rdy 3 (fun KK hKK=>?_);obtain⟨ha0,hf0,ha1,hf1⟩:=(hHeld.has 1 rfl).sf2;go_simp;have HS_1:=(hHeld.has 1 rfl).laid [.float .f64 p1,.float .f64 p2] rfl;refine hKK.out _ _ (hHeld.over 1 rfl [.float .f64 p1,.float .f64 p2] rfl rfl (by first | omega | exact hHeld.le_of 1 rfl) (by simp<;>omega) (by simp<;>omega)) (fun _=>?_);clear hKK KK hHeld;rename_i hHeld;(try simp only [Act.put,lay])
  replace hHeld:=(show Lies _ (sets wk (w.heap.size+2) 0 [.float .f64 p1,.float .f64 p2]) _ _ from hHeld)
  obtain⟨wk,hwn⟩:∃ X,sets wk (w.heap.size+2) 0 [.float .f64 p1,.float .f64 p2]=X:=⟨_,rfl⟩
  rw [hwn] at hHeld  HS_1
  simp only [sets] at hwn
  rw [hwn];clear hwn;refine rdy 4 (fun KK hKK=>?_);obtain⟨ha0,hf0,ha1,hf1⟩:=(hHeld.has 0 rfl).sf2;go_simp;have HS_0:=(hHeld.has 0 rfl).laid [.float .f64 q1,.float .f64 q2] rfl;refine hKK.out _ _ (hHeld.over 0 rfl [.float .f64 q1,.float .f64 q2] rfl rfl (by first | omega | exact hHeld.le_of 0 rfl) (by simp<;>omega) (by simp<;>omega)) (fun _=>?_);clear hKK KK hHeld;rename_i hHeld;(try simp only [Act.put,lay]);replace HS_1:=HS_1.other (r:=(w.heap.size+3)) (by omega) 0 [.float .f64 q1,.float .f64 q2];refine tks 5 ?_;refine wpAnyH_done (by kernel_rfl) ?_ _;have LB:=Hd hHeld.b;clear hHeld;obtain⟨hk4_0,hk4_1⟩:=HS_1.c2;clear HS_1;obtain⟨hk5_0,hk5_1⟩:=HS_0.c2;clear HS_0
  simp [sets] at hk4_0 hk4_1 hk5_0 hk5_1
  go_wp2;refine bodyPost_ret (v:=.tuple #[.agg #[.float .f64 p1,.float .f64 p2],.agg #[.float .f64 q1,.float .f64 q2],.int .i64 3]) (by simp [results,Tryz.results138,go_sem,hk4_0,hk4_1,hk5_0,hk5_1]) rfl ?_
  exact⟨rfl,LB.out⟩
set_option maxRecDepth 8000 in
theorem inter_in(u1 u2 v1 v2 p1 p2 q1 q2 m1 m2:Nat)(kk:Int)(w:World)(hB:∀ W,Rt 138 #[.agg #[.float .f64 u1,.float .f64 u2],.agg #[.float .f64 v1,.float .f64 v2]] (.tuple #[.agg #[.float .f64 p1,.float .f64 p2],.agg #[.float .f64 q1,.float .f64 q2],.int .i64 kk]) W)
  (hmx:∀ W ts t,(Builtin.max_ ts t #[.float .f64 p1,.float .f64 q1]).run Tryz.prog W=.ok (.float .f64 m1) W)(hmn:∀ W ts t,(Builtin.min_ ts t #[.float .f64 p2,.float .f64 q2]).run Tryz.prog W=.ok (.float .f64 m2) W)(hk:kk=0)(ho:(FloatKind.f64.format.order m1 m2 == some Ordering.gt)=false):
  Rt 62 #[.agg #[.float .f64 u1,.float .f64 u2],.agg #[.float .f64 v1,.float .f64 v2]] (.agg #[.float .f64 m1,.float .f64 m2]) w:=by
 have HB:=Hd hB;have HMX:=Hd hmx;have HMN:=Hd hmn;have HO:=Hd ho;clear hB hmx hmn ho;subst hk;have LL:=li3 w #[.float .f64 u1,.float .f64 u2] 28 #[.float .f64 v1,.float .f64 v2] 28 #[.float .f64 0,.float .f64 0] 28
 go_enter Tryz.func62,Tryz.ntmps62
 obtain⟨q1_0,q1_1⟩:=(LL.out.blk 0 rfl).c2;obtain⟨q2_0,q2_1⟩:=(LL.out.blk 1 rfl).c2;go_wp2_with fail;refine cx (HB.out _) fun wk hb=>?_;replace LL:=stL LL hb;clear hb q1_0 q1_1 q2_0 q2_1;obtain⟨q3_0,q3_1⟩:=(LL.out.blk 0 rfl).c2;obtain⟨q4_0,q4_1⟩:=(LL.out.blk 1 rfl).c2;have fz2_0:=(LL.out.blk 0 rfl).frozen 0;have fz2_1:=(LL.out.blk 0 rfl).frozen 1;have fz3_0:=(LL.out.blk 1 rfl).frozen 0;have fz3_1:=(LL.out.blk 1 rfl).frozen 1
 go_upto_region 2 with fail
 clear q3_0 q3_1 q4_0 q4_1 fz2_0 fz2_1 fz3_0 fz3_1;replace LL:=Hd (LL.out.part 0 rfl 0 [.float .f64 p1,.float .f64 p2] (by omega) (by simp<;>omega) (by simp<;>omega))
 simp only [List.eraseIdx,laid,List.cons_append,List.nil_append,List.setIfInBounds_toArray,List.set_cons_zero,List.set_cons_succ,Nat.zero_add,Nat.reduceAdd] at LL
 replace LL:=Hd (LL.out.part 0 rfl 0 [.float .f64 q1,.float .f64 q2] (by omega) (by simp<;>omega) (by simp<;>omega))
 simp only [List.eraseIdx,laid,List.cons_append,List.nil_append,List.setIfInBounds_toArray,List.set_cons_zero,List.set_cons_succ,Nat.zero_add,Nat.reduceAdd] at LL
 obtain⟨wn,hwn⟩:∃ X,(sets (sets wk w.heap.size 0 [.float .f64 p1,.float .f64 p2]) (w.heap.size+1) 0 [.float .f64 q1,.float .f64 q2])=X:=⟨_,rfl⟩
 rw [hwn] at LL
 simp only [sets,Nat.reduceAdd] at hwn
 rw [hwn];clear hwn;obtain⟨q5_0,q5_1⟩:=(LL.out.blk 1 rfl).c2;obtain⟨q6_0,q6_1⟩:=(LL.out.blk 2 rfl).c2;have hmx:=HMX.out;have hmn:=HMN.out
 go_upto_region 3 with fail
 clear hmx hmn q5_0 q5_1 q6_0 q6_1;obtain⟨j6,hg,hb_j6,hl_j6,hr_j6,-⟩:=LL.out.fresh 28 #[.float .f64 m1,.float .f64 m2]
 simp only [List.mem_cons,List.not_mem_nil,or_false,forall_eq_or_imp,forall_eq,false_imp_iff,implies_true] at hl_j6 hr_j6
 replace LL:=Hd (LL.out.new 28 #[.float .f64 m1,.float .f64 m2])
 simp only [List.cons_append,List.nil_append] at LL
 rw [hg] at LL ⊢;clear hg
 obtain⟨wn,hwn⟩:∃ X,wn.alloc (.cells #[.float .f64 m1,.float .f64 m2] 28)=X:=⟨_,rfl⟩
 rw [hwn] at LL  ⊢;clear hwn;obtain⟨q7_0,q7_1⟩:=(LL.out.blk 3 rfl).c2;have ho:=HO.out;replace LL:=Hd (LL.out.loose0 rfl);obtain⟨ha4_0,hf4_0,ha4_1,hf4_1⟩:=(LL.out.has 0 rfl).sf2;have LF:=Hd (LL.out.write [.float .f64 m1,.float .f64 m2] rfl (by omega) (by simp<;>omega) (by simp<;>omega));obtain⟨hk4_0,hk4_1⟩:=(LF.out.blk 3 rfl).c2
 simp [sets] at hk4_0 hk4_1
 clear LL;go_wp2;refine bodyPost_ret (v:=.agg #[.float .f64 m1,.float .f64 m2]) (by simp [results,Tryz.results62,go_sem,hk4_0,hk4_1]) rfl ?_
 exact⟨rfl,LF.out.b⟩
set_option maxRecDepth 8000 in
theorem inter_out(u1 u2 v1 v2 p1 p2 q1 q2 m1 m2:Nat)(kk:Int)(w:World)(hB:∀ W,Rt 138 #[.agg #[.float .f64 u1,.float .f64 u2],.agg #[.float .f64 v1,.float .f64 v2]] (.tuple #[.agg #[.float .f64 p1,.float .f64 p2],.agg #[.float .f64 q1,.float .f64 q2],.int .i64 kk]) W)
  (hmx:∀ W ts t,(Builtin.max_ ts t #[.float .f64 p1,.float .f64 q1]).run Tryz.prog W=.ok (.float .f64 m1) W)(hmn:∀ W ts t,(Builtin.min_ ts t #[.float .f64 p2,.float .f64 q2]).run Tryz.prog W=.ok (.float .f64 m2) W)(hk:kk≠0\/kk=0/\FloatKind.f64.format.order m1 m2=some Ordering.gt):
  Rt 62 #[.agg #[.float .f64 u1,.float .f64 u2],.agg #[.float .f64 v1,.float .f64 v2]] (.agg #[.float .f64 9218868437227405312,.float .f64 18442240474082181120]) w:=by
 have HB:=Hd hB;have HMX:=Hd hmx;have HMN:=Hd hmn;clear hB hmx hmn;have HE:=Hd emptyf
 rcases hk with hk | ⟨rfl,ho⟩
 ·skip;have LL:=li3 w #[.float .f64 u1,.float .f64 u2] 28 #[.float .f64 v1,.float .f64 v2] 28 #[.float .f64 0,.float .f64 0] 28;have HO:=Hd hk;clear hk
  go_enter Tryz.func62,Tryz.ntmps62
  obtain⟨q1_0,q1_1⟩:=(LL.out.blk 0 rfl).c2;obtain⟨q2_0,q2_1⟩:=(LL.out.blk 1 rfl).c2;go_wp2_with fail;refine cx (HB.out _) fun wk hb=>?_;replace LL:=stL LL hb;clear hb q1_0 q1_1 q2_0 q2_1;obtain⟨q3_0,q3_1⟩:=(LL.out.blk 0 rfl).c2;obtain⟨q4_0,q4_1⟩:=(LL.out.blk 1 rfl).c2;have fz2_0:=(LL.out.blk 0 rfl).frozen 0;have fz2_1:=(LL.out.blk 0 rfl).frozen 1;have fz3_0:=(LL.out.blk 1 rfl).frozen 0;have fz3_1:=(LL.out.blk 1 rfl).frozen 1
  go_upto_region 2 with fail
  clear q3_0 q3_1 q4_0 q4_1 fz2_0 fz2_1 fz3_0 fz3_1;replace LL:=Hd (LL.out.part 0 rfl 0 [.float .f64 p1,.float .f64 p2] (by omega) (by simp<;>omega) (by simp<;>omega))
  simp only [List.eraseIdx,laid,List.cons_append,List.nil_append,List.setIfInBounds_toArray,List.set_cons_zero,List.set_cons_succ,Nat.zero_add,Nat.reduceAdd] at LL
  replace LL:=Hd (LL.out.part 0 rfl 0 [.float .f64 q1,.float .f64 q2] (by omega) (by simp<;>omega) (by simp<;>omega))
  simp only [List.eraseIdx,laid,List.cons_append,List.nil_append,List.setIfInBounds_toArray,List.set_cons_zero,List.set_cons_succ,Nat.zero_add,Nat.reduceAdd] at LL
  obtain⟨wn,hwn⟩:∃ X,(sets (sets wk w.heap.size 0 [.float .f64 p1,.float .f64 p2]) (w.heap.size+1) 0 [.float .f64 q1,.float .f64 q2])=X:=⟨_,rfl⟩
  rw [hwn] at LL
  simp only [sets,Nat.reduceAdd] at hwn
  rw [hwn];clear hwn;obtain⟨q5_0,q5_1⟩:=(LL.out.blk 1 rfl).c2;obtain⟨q6_0,q6_1⟩:=(LL.out.blk 2 rfl).c2;have hmx:=HMX.out;have hmn:=HMN.out
  go_upto_region 3 with fail
  clear hmx hmn q5_0 q5_1 q6_0 q6_1;obtain⟨j6,hg,hb_j6,hl_j6,hr_j6,-⟩:=LL.out.fresh 28 #[.float .f64 m1,.float .f64 m2]
  simp only [List.mem_cons,List.not_mem_nil,or_false,forall_eq_or_imp,forall_eq,false_imp_iff,implies_true] at hl_j6 hr_j6
  replace LL:=Hd (LL.out.new 28 #[.float .f64 m1,.float .f64 m2])
  simp only [List.cons_append,List.nil_append] at LL
  rw [hg] at LL ⊢;clear hg
  obtain⟨wn,hwn⟩:∃ X,wn.alloc (.cells #[.float .f64 m1,.float .f64 m2] 28)=X:=⟨_,rfl⟩
  rw [hwn] at LL  ⊢;clear hwn;have hk:=HO.out;obtain⟨q7_0,q7_1⟩:=(LL.out.blk 3 rfl).c2;go_wp2_with fail;refine cx (HE.out _) fun wk hb=>?_;replace LL:=stL LL hb;clear hb q7_0 q7_1 hk;replace LL:=Hd (LL.out.loose0 rfl);obtain⟨ha4_0,hf4_0,ha4_1,hf4_1⟩:=(LL.out.has 0 rfl).sf2;have LF:=Hd (LL.out.write [.float .f64 9218868437227405312,.float .f64 18442240474082181120] rfl (by omega) (by simp<;>omega) (by simp<;>omega));obtain⟨hk4_0,hk4_1⟩:=(LF.out.blk 3 rfl).c2
  simp [sets] at hk4_0 hk4_1
  clear LL;go_wp2;refine bodyPost_ret (v:=.agg #[.float .f64 9218868437227405312,.float .f64 18442240474082181120]) (by simp [results,Tryz.results62,go_sem,hk4_0,hk4_1]) rfl ?_
  exact⟨rfl,LF.out.b⟩
 ·skip;have LL:=li3 w #[.float .f64 u1,.float .f64 u2] 28 #[.float .f64 v1,.float .f64 v2] 28 #[.float .f64 0,.float .f64 0] 28;have HO:=Hd ho;clear ho
  go_enter Tryz.func62,Tryz.ntmps62
  obtain⟨q1_0,q1_1⟩:=(LL.out.blk 0 rfl).c2;obtain⟨q2_0,q2_1⟩:=(LL.out.blk 1 rfl).c2;go_wp2_with fail;refine cx (HB.out _) fun wk hb=>?_;replace LL:=stL LL hb;clear hb q1_0 q1_1 q2_0 q2_1;obtain⟨q3_0,q3_1⟩:=(LL.out.blk 0 rfl).c2;obtain⟨q4_0,q4_1⟩:=(LL.out.blk 1 rfl).c2;have fz2_0:=(LL.out.blk 0 rfl).frozen 0;have fz2_1:=(LL.out.blk 0 rfl).frozen 1;have fz3_0:=(LL.out.blk 1 rfl).frozen 0;have fz3_1:=(LL.out.blk 1 rfl).frozen 1
  go_upto_region 2 with fail
  clear q3_0 q3_1 q4_0 q4_1 fz2_0 fz2_1 fz3_0 fz3_1;replace LL:=Hd (LL.out.part 0 rfl 0 [.float .f64 p1,.float .f64 p2] (by omega) (by simp<;>omega) (by simp<;>omega))
  simp only [List.eraseIdx,laid,List.cons_append,List.nil_append,List.setIfInBounds_toArray,List.set_cons_zero,List.set_cons_succ,Nat.zero_add,Nat.reduceAdd] at LL
  replace LL:=Hd (LL.out.part 0 rfl 0 [.float .f64 q1,.float .f64 q2] (by omega) (by simp<;>omega) (by simp<;>omega))
  simp only [List.eraseIdx,laid,List.cons_append,List.nil_append,List.setIfInBounds_toArray,List.set_cons_zero,List.set_cons_succ,Nat.zero_add,Nat.reduceAdd] at LL
  obtain⟨wn,hwn⟩:∃ X,(sets (sets wk w.heap.size 0 [.float .f64 p1,.float .f64 p2]) (w.heap.size+1) 0 [.float .f64 q1,.float .f64 q2])=X:=⟨_,rfl⟩
  rw [hwn] at LL
  simp only [sets,Nat.reduceAdd] at hwn
  rw [hwn];clear hwn;obtain⟨q5_0,q5_1⟩:=(LL.out.blk 1 rfl).c2;obtain⟨q6_0,q6_1⟩:=(LL.out.blk 2 rfl).c2;have hmx:=HMX.out;have hmn:=HMN.out
  go_upto_region 3 with fail
  clear hmx hmn q5_0 q5_1 q6_0 q6_1;obtain⟨j6,hg,hb_j6,hl_j6,hr_j6,-⟩:=LL.out.fresh 28 #[.float .f64 m1,.float .f64 m2]
  simp only [List.mem_cons,List.not_mem_nil,or_false,forall_eq_or_imp,forall_eq,false_imp_iff,implies_true] at hl_j6 hr_j6
  replace LL:=Hd (LL.out.new 28 #[.float .f64 m1,.float .f64 m2])
  simp only [List.cons_append,List.nil_append] at LL
  rw [hg] at LL ⊢;clear hg
  obtain⟨wn,hwn⟩:∃ X,wn.alloc (.cells #[.float .f64 m1,.float .f64 m2] 28)=X:=⟨_,rfl⟩
  rw [hwn] at LL  ⊢;clear hwn;have ho:=HO.out;obtain⟨q7_0,q7_1⟩:=(LL.out.blk 3 rfl).c2;go_wp2_with fail;refine cx (HE.out _) fun wk hb=>?_;replace LL:=stL LL hb;clear hb q7_0 q7_1 ho;replace LL:=Hd (LL.out.loose0 rfl);obtain⟨ha4_0,hf4_0,ha4_1,hf4_1⟩:=(LL.out.has 0 rfl).sf2;have LF:=Hd (LL.out.write [.float .f64 9218868437227405312,.float .f64 18442240474082181120] rfl (by omega) (by simp<;>omega) (by simp<;>omega));obtain⟨hk4_0,hk4_1⟩:=(LF.out.blk 3 rfl).c2
  simp [sets] at hk4_0 hk4_1
  clear LL;go_wp2;refine bodyPost_ret (v:=.agg #[.float .f64 9218868437227405312,.float .f64 18442240474082181120]) (by simp [results,Tryz.results62,go_sem,hk4_0,hk4_1]) rfl ?_
  exact⟨rfl,LF.out.b⟩
theorem inter_gen(i j i' j':Int)(u1 u2 v1 v2:Nat)(w:World)(h:Iv i j)(h':Iv i' j')(r1:∀ W,Rt 102 #[.agg #[.float .f64 u1,.float .f64 u2]] (.agg #[.float .f64 (pat i),.float .f64 (pat j)]) W)
  (r2:∀ W,Rt 102 #[.agg #[.float .f64 v1,.float .f64 v2]] (.agg #[.float .f64 (pat i'),.float .f64 (pat j')]) W):
  Rt 62 #[.agg #[.float .f64 u1,.float .f64 u2],.agg #[.float .f64 v1,.float .f64 v2]] (.agg #[.float .f64 (pat (it i j i' j').1),.float .f64 (pat (it i j i' j').2)]) w:=by
 have HB:=fun W=>both_gen u1 u2 v1 v2 (pat i) (pat j) (pat i') (pat j') _ _ W r1 r2 (em_idx h) (em_idx h');have hmx:=fun W ts t=>run_maxf h.lo h'.lo W ts t;have hmn:=fun W ts t=>run_minf h.hi h'.hi W ts t
 have bz1:-(M:Int)<=max i i'/\max i i'<=M:=by have:=h.lo;have:=h'.lo;omega
 have bz2:-(M:Int)<=min j j'/\min j j'<=M:=by have:=h.hi;have:=h'.hi;omega
 have ho:=order_pat bz1.1 bz1.2 bz2.1 bz2.2;unfold it
 by_cases hc:j<i\/j'<i'\/min j j'<max i i'
 ·rw [if_pos hc,pat_max,pat_min];refine inter_out _ _ _ _ _ _ _ _ _ _ _ w HB hmx hmn ?_
  by_cases c:j<i\/j'<i'
  ·refine .inl ?_
   rcases c with c | c
   ·rw [decide_eq_true c];cases decide (j'<i')<;>decide
   ·rw [decide_eq_true c];cases decide (j<i)<;>decide
  ·refine .inr ⟨?_,?_⟩
   ·rw [decide_eq_false (show ¬ j<i by omega),decide_eq_false (show ¬ j'<i' by omega)];rfl
   ·rw [ho,Int.compare_eq_gt.2 (by omega)]
 ·rw [if_neg hc];refine inter_in _ _ _ _ _ _ _ _ _ _ _ w HB hmx hmn ?_ ?_
  ·rw [decide_eq_false (show ¬ j<i by omega),decide_eq_false (show ¬ j'<i' by omega)];rfl
  ·rw [ho]
   rcases Int.lt_or_eq_of_le (show max i i'<=min j j' by omega) with k | k
   ·rw [Int.compare_eq_lt.2 k];rfl
   ·rw [Int.compare_eq_eq.2 k];rfl
theorem both_any(p1 p2 q1 q2:Nat)(a b:Bool)(w:World)(hx:∀ W,Rt 102 #[.agg #[.float .f64 p1,.float .f64 p2]] (.agg #[.float .f64 p1,.float .f64 p2]) W)
  (hy:∀ W,Rt 102 #[.agg #[.float .f64 q1,.float .f64 q2]] (.agg #[.float .f64 q1,.float .f64 q2]) W)(ha:Em a p1 p2)(hb:Em b q1 q2):
  Rt 138 #[.agg #[.float .f64 p1,.float .f64 p2],.agg #[.float .f64 q1,.float .f64 q2]] (.tuple #[.agg #[.float .f64 p1,.float .f64 p2],.agg #[.float .f64 q1,.float .f64 q2],.int .i64 ((if a then 1 else 0)+(if b then 2 else 0))]) w:=
 both_gen p1 p2 q1 q2 p1 p2 q1 q2 a b w hx hy ha hb
end
section
open Go.RowKit Ieee
attribute [local go_sem] run_store_float run_frombits run_bitsof run_negf
theorem fsmall(w:World):Calls Tryz.prog 243 #[] w fun e w'=>e=.returned (.bool false)/\w=w':=by
 have h1:floatOfInt .f64 16777216=4715268809856909312:=by kernel_rfl
 have h2:=fun W=>run_float_arith (P:=Tryz.prog) W .add 26 .f64 4715268809856909312 4607182418800017408 4715268810125344768 (by kernel_rfl)
 have h3:FloatKind.f64.format.order 4715268810125344768 4715268809856909312=some .gt:=by kernel_rfl
 go_enter Tryz.func243,Tryz.ntmps243
 go_wp2
 go_ret
 exact⟨rfl,rfl⟩
theorem pattern_any(b:Nat)(w:World):Calls Tryz.prog 218 #[.float .f64 b] w fun e w'=>e=.returned (.int .u64 (b:Int))/\w=w':=by
 have HS:=Hd fsmall;have ff:=fun W=>run_bitsof b W
 go_enter Tryz.func218,Tryz.ntmps218
 go_wp2_with fail;refine (HS.out _).mono ?_;rintro e w' ⟨rfl,rfl⟩;go_wp2
 go_ret
 exact⟨rfl,rfl⟩
theorem format_any(w:World):Rt 217 #[] (.agg #[.int .i64 52,.int .i64 (-1074),.int .i64 971,.int .u64 9218868437227405312,.int .u64 9223372036854775808]) w:=by
 have HS:=Hd fsmall;have HB:=Hd (below_alloc w (.cells #[.int .i64 52,.int .i64 (-1074),.int .i64 971,.int .u64 9218868437227405312,.int .u64 9223372036854775808] 185))
 go_enter Tryz.func217,Tryz.ntmps217
 go_wp2_with fail;refine (HS.out _).mono ?_;rintro e w' ⟨rfl,rfl⟩;go_wp2;refine bodyPost_ret (v:=.agg #[.int .i64 52,.int .i64 (-1074),.int .i64 971,.int .u64 9218868437227405312,.int .u64 9223372036854775808]) (by simp [results,Tryz.results217,go_sem]) rfl ?_
 exact⟨rfl,HB.out⟩
def SplitTo(w:World)(neg:Bool)(S:Nat)(x:Int)(e:Ending)(w':World):Prop:=
 e=.returned (.tuple #[.bool neg,.int .u64 (S:Int),.int .i64 x,.bool true])/\Below w.heap.size w w'
set_option maxRecDepth 100000 in
theorem split_walk(b m e f S:Nat)(neg:Bool)(w:World)(hb:b<18446744073709551616)(hm:rungOf b=m)(hm2:m<9218868437227405312)(he:m / 4503599627370496=e)(hff:m % 4503599627370496=f)(hn:(FloatKind.f64.format.order b 0 == some Ordering.lt)=neg)(hS:S=if e=0 then f else f+4503599627370496):
  Calls Tryz.prog 168 #[.float .f64 b] w (SplitTo w neg S (if e=0 then -1074 else -1074+((e:Int) - 1))):=by
 have hsz:=size_i hb;rw [hm] at hsz;have m1:=mask52_u64 (x:=m) (by omega);rw [hff] at m1
 have m2:(m:Int) / 4503599627370496=(e:Int):=by omega
 have hf2:f<4503599627370496:=by omega
 have he2:e<2047:=by omega
 have hge:¬ (9218868437227405312:Int)<=(m:Int):=by omega
 have hor:=or_join' (i:=52) (x:=1) (y:=f) (by omega) (by omega) (by omega);rw [show ((1*2^52:Nat):Int)=4503599627370496 from rfl,show (f+1*2^52:Nat)=f+4503599627370496 from rfl] at hor;have HF0:=format_any
 obtain⟨I,hI⟩:∃ I:Int,I=9218868437227405312:=⟨_,rfl⟩
 rw [<- hI] at HF0 hge;have HF:=Hd HF0;clear hI HF0
 have HP:=Hd fun W=>(pattern_any b W).mono (R':=fun e w'=>e=.returned (.int .u64 (b:Int))/\w'=W) fun _ _ h=>⟨h.1,h.2.symm⟩
 obtain⟨bi,hbi⟩:∃ z:Int,z=(b:Int):=⟨_,rfl⟩
 rw [<- hbi] at hsz HP;clear hff he hb hm hbi hm2
 by_cases h0:e=0
 ·subst h0;rw [if_pos rfl] at hS ⊢;subst hS;rw [show ((0:Nat):Int)=0 from rfl] at m2;clear hor he2
  go_enter Tryz.func168,Tryz.ntmps168
  go_wp2_with fail;refine (HF.out _).mono ?_;rintro e' w1 ⟨rfl,hb1⟩;have LB1:=Hd (hb1.alloc hb1.size (.cells #[.int .i64 52,.int .i64 (-1074),.int .i64 971,.int .u64 I,.int .u64 9223372036854775808] 185));clear hb1 HF;go_wp2_with fail
  go_quiet ((first | (go_at_call 218;exact Calls.quiet_of_same (HP.out _))))
  have LB2:=Hd (below_drewN LB1.out nq);have BK2:=Hd ((Blk.new w1 185 #[.int .i64 52,.int .i64 (-1074),.int .i64 971,.int .u64 I,.int .u64 9223372036854775808]).drewN nq)
  obtain⟨g,hg⟩:∃ g,w1.heap.size=g:=⟨_,rfl⟩
  rw [hg] at BK2
  obtain⟨W2,hW2⟩:∃ W,(w1.alloc (.cells #[.int .i64 52,.int .i64 (-1074),.int .i64 971,.int .u64 I,.int .u64 9223372036854775808] 185)).drewN nq=W:=⟨_,rfl⟩
  rw [hW2] at LB2 BK2;rw [hg,hW2];clear hg hW2 LB1 HP hsz;have q0:=BK2.out.cell 0;have q1:=BK2.out.cell 1;have q3:=BK2.out.cell 3
  simp at q0 q1 q3
  go_wp2_with fail
  go_quiet (fail)
  obtain⟨nr,hnr⟩:∃ n,nq=n:=⟨_,rfl⟩
  clear q0 q1 q3 m1;have LB3:=Hd (below_drewN LB2.out nq);have BK3:=Hd (BK2.out.drewN nq)
  obtain⟨W3,hW3⟩:∃ W,W2.drewN nq=W:=⟨_,rfl⟩
  rw [hW3] at LB3 BK3;rw [hW3];clear hW3 LB2 BK2 hnr;have q0:=BK3.out.cell 0
  simp at q0
  go_wp2;refine bodyPost_ret (v:=.tuple #[.bool neg,.int .u64 (S:Int),.int .i64 (-1074),.bool true]) (by simp [results,Tryz.results168,go_sem]) rfl ?_
  exact⟨rfl,LB3.out⟩
 ·rw [if_neg h0] at hS ⊢
  obtain⟨S',hS'⟩:∃ z,f+4503599627370496=z:=⟨_,rfl⟩
  rw [hS'] at hS hor;subst hS
  have hei:(0:Int)<(e:Int):=by omega
  clear h0 hS'
  go_enter Tryz.func168,Tryz.ntmps168
  go_wp2_with fail;refine (HF.out _).mono ?_;rintro e' w1 ⟨rfl,hb1⟩;have LB1:=Hd (hb1.alloc hb1.size (.cells #[.int .i64 52,.int .i64 (-1074),.int .i64 971,.int .u64 I,.int .u64 9223372036854775808] 185));clear hb1 HF;go_wp2_with fail
  go_quiet ((first | (go_at_call 218;exact Calls.quiet_of_same (HP.out _))))
  have LB2:=Hd (below_drewN LB1.out nq);have BK2:=Hd ((Blk.new w1 185 #[.int .i64 52,.int .i64 (-1074),.int .i64 971,.int .u64 I,.int .u64 9223372036854775808]).drewN nq)
  obtain⟨g,hg⟩:∃ g,w1.heap.size=g:=⟨_,rfl⟩
  rw [hg] at BK2
  obtain⟨W2,hW2⟩:∃ W,(w1.alloc (.cells #[.int .i64 52,.int .i64 (-1074),.int .i64 971,.int .u64 I,.int .u64 9223372036854775808] 185)).drewN nq=W:=⟨_,rfl⟩
  rw [hW2] at LB2 BK2;rw [hg,hW2];clear hg hW2 LB1 HP hsz;have q0:=BK2.out.cell 0;have q1:=BK2.out.cell 1;have q3:=BK2.out.cell 3
  simp at q0 q1 q3
  go_wp2_with fail
  go_quiet (fail)
  obtain⟨nr,hnr⟩:∃ n,nq=n:=⟨_,rfl⟩
  clear q0 q1 q3 m1;have LB3:=Hd (below_drewN LB2.out nq);have BK3:=Hd (BK2.out.drewN nq)
  obtain⟨W3,hW3⟩:∃ W,W2.drewN nq=W:=⟨_,rfl⟩
  rw [hW3] at LB3 BK3;rw [hW3];clear hW3 LB2 BK2 hnr;have q0:=BK3.out.cell 0
  simp at q0
  go_wp2;refine bodyPost_ret (v:=.tuple #[.bool neg,.int .u64 (S:Int),.int .i64 (-1074+((e:Int) - 1)),.bool true]) (by simp [results,Tryz.results168,go_sem]) rfl ?_
  exact⟨rfl,LB3.out⟩
theorem split_any(b:Nat)(hb:b<18446744073709551616)(hf:fin b):∃ (S:Nat) (x:Int),S<9007199254740992/\-1074<=x/\x<=971/\fl (idx b)=rv (decide (idx b<0)) S 1*2^x/\∀ w,Calls Tryz.prog 168 #[.float .f64 b] w (SplitTo w (decide (idx b<0)) S x):=by
 have hr:rungOf b<=M:=Nat.le_of_lt hf;have hM:M=9218868437227405312:=rfl;have hm2:rungOf b<9218868437227405312:=hf;have hp:=fl_parts (b:=b) hf rfl rfl rfl;have hc:=pat_cases hb
 have e1:rungOf b / 4503599627370496=b / 4503599627370496 % 2048:=by omega
 have e2:rungOf b % 4503599627370496=b % 4503599627370496:=by omega
 have hn:(FloatKind.f64.format.order b 0 == some Ordering.lt)=decide (idx b<0):=by
  rcases Int.lt_trichotomy (idx b) 0 with h | h | h
  ·rw [ord_lt hr real_zero (by rw [idx_zero];exact h),decide_eq_true h];rfl
  ·rw [ord_eq hr real_zero (by rw [idx_zero];exact h),decide_eq_false (by omega)];rfl
  ·rw [ord_gt hr real_zero (by rw [idx_zero];exact h),decide_eq_false (by omega)];rfl
 refine⟨_,_,?_,?_,?_,?_,fun w=>split_walk b _ _ _ _ _ w hb rfl hm2 e1 e2 hn rfl⟩
 ·split<;>omega
 ·split<;>omega
 ·split<;>omega
 ·have hs:∀ (S:Nat) (x:Int),(S=0\/sgn b=decide (idx b<0))->rv (sgn b) S 1*2^x=rv (decide (idx b<0)) S 1*2^x:=by
   rintro S x (rfl | h)
   ·rw [rv_zero,rv_zero]
   ·rw [h]
  have hsd:rungOf b=0\/sgn b=decide (idx b<0):=by
   rcases hc with ⟨a,h1,h2,h3⟩ | ⟨a,h1,h2,h3⟩
   ·right;rw [h2,decide_eq_false (by omega)]
   ·by_cases h0:rungOf b=0
    ·exact .inl h0
    ·right;rw [h2,decide_eq_true (by omega)]
  by_cases h0:b / 4503599627370496 % 2048=0
  ·rw [if_pos h0,if_pos h0,<- hs _ _ (hsd.imp (fun h=>by omega) id)];have:=hp.2.2.2 h0;rw [this,h0];rfl
  ·rw [if_neg h0,if_neg h0,<- hs _ _ (hsd.imp (fun h=>by omega) id)];rw [hp.2.2.1 (by omega)]
   congr 2;omega
end
section
open Go.RowKit
attribute [local go_sem] run_store_float run_negf
def NewEx(w:World)(x:Rat)(e:Ending)(w':World):Prop:=
 ∃ (neg:Bool) (A:Option Addr) (n c S:Nat) (E:Int),e=.returned (.agg #[.int .i64 0,.bool neg,.slice A n c,.int .i64 E])/\U32s w' A n c (digs S)/\Below w.heap.size w w'/\blen S<=5000/\-1074<=E/\E<=971/\x=rv neg S 1*2^E
def NewExP(w:World)(neg:Bool)(S:Nat)(E:Int)(e:Ending)(w':World):Prop:=
 ∃ (A:Option Addr) (n c:Nat),e=.returned (.agg #[.int .i64 0,.bool neg,.slice A n c,.int .i64 E])/\U32s w' A n c (digs S)/\Below w.heap.size w w'
def NewAl(w:World)(X Y:Nat)(E:Int)(e:Ending)(w':World):Prop:=
 ∃ (A:Option Addr) (n c:Nat) (B:Option Addr) (m d:Nat),e=.returned (.tuple #[.slice A n c,.slice B m d,.int .i64 E])/\U32s w' A n c (digs X)/\U32s w' B m d (digs Y)/\Below w.heap.size w w'
theorem run_min_int{a b E:Int}(h:min a b=E)(W:World)(ts:Array TypeId)(t:TypeId):(Builtin.min_ ts t #[.int .i64 a,.int .i64 b]).run Tryz.prog W=.ok (.int .i64 E) W:=by
 have e:(Builtin.min_ ts t #[.int .i64 a,.int .i64 b])=Builtin.min2 (.int .i64 a) (.int .i64 b):=by simp [Builtin.min_]
 rw [e];unfold Builtin.min2;subst h
 simp [Int.min_def]
 by_cases h:a<=b
 ·rw [if_neg (by omega),if_pos h]
 ·rw [if_pos (by omega),if_neg h]
theorem point_walk(b S:Nat)(x:Int)(neg:Bool)(w:World)(hb:b<18446744073709551616)(hf:rungOf b<M)(hS:S<9007199254740992)(hs:∀ w,Calls Tryz.prog 168 #[.float .f64 b] w (SplitTo w neg S x)):
  Calls Tryz.prog 100 #[.float .f64 b] w (NewExP w neg S x):=by
 have HI0:=fun W=>isinff b W hb (Nat.le_of_lt hf);rw [decide_eq_false (show ¬ rungOf b=M by omega)] at HI0;have HI:=Hd HI0;have HS:=Hd hs;have HN:=Hd fun W=>nsmall_any S W (by omega);clear HI0 hs hb hf hS;obtain⟨LB0,LR⟩:=bx1 w #[.int .i64 0,.bool false,.slice none 0 0,.int .i64 0] 97;have LR0:=Hd (HasBlk.of (n:=4) LR.out rfl rfl);clear LR
 go_enter Tryz.func100,Tryz.ntmps100
 go_wp2_with fail;refine (HI.out _).mono ?_;rintro e w' ⟨rfl,rfl⟩;go_wp2_with fail;refine cx (HS.out _) fun w1 hb1=>?_;have LB1:=stB LB0 hb1 LB0.out.size;have LR1:=stR LR0 hb1;clear LB0 LR0;clear hb1 HI HS;go_wp2_with fail;refine (HN.out _).mono ?_;rintro e w2 ⟨A,n,c,rfl,hu,hb2⟩;have LB2:=stB LB1 hb2 LB1.out.size;have LR2:=stR LR1 hb2;clear LB1 LR1;have FU:=Hd (LR2.out.u32s hu [.int .i64 0,.bool neg,.slice A n c,.int .i64 x]);clear hu hb2 HN;obtain⟨ha0,hf0,ha1,hf1,ha2,hf2,ha3,hf3⟩:=LR2.out.sf4;obtain⟨hk0,hk1,hk2,hk3⟩:=LR2.out.sc4 (.int .i64 0) (.bool neg) (.slice A n c) (.int .i64 x);have F:=Hd (below_sets (w0:=w) (r:=w.heap.size) (by omega) [.int .i64 0,.bool neg,.slice A n c,.int .i64 x] 0 _ LB2.out)
 simp [sets] at hk0 hk1 hk2 hk3
 go_wp2;refine bodyPost_ret (v:=.agg #[.int .i64 0,.bool neg,.slice A n c,.int .i64 x]) (by simp [results,Tryz.results100,go_sem,hk0,hk1,hk2,hk3]) rfl ?_
 exact⟨A,n,c,rfl,FU.out,F.out⟩
theorem point_any(b:Nat)(hb:b<18446744073709551616)(hf:fin b):∃ (neg:Bool) (S:Nat) (x:Int),S<9007199254740992/\-1074<=x/\x<=971/\fl (idx b)=rv neg S 1*2^x/\∀ w,Calls Tryz.prog 100 #[.float .f64 b] w (NewExP w neg S x):=by
 obtain⟨S,x,h1,h2,h3,h4,h5⟩:=split_any b hb hf
 exact⟨_,S,x,h1,h2,h3,h4,fun w=>point_walk b S x _ w hb hf h1 h5⟩
theorem aligned_any(n1:Bool)(A1:Option Addr)(m1 c1 S1:Nat)(e1:Int)(n2:Bool)(A2:Option Addr)(m2 c2 S2:Nat)(e2 E:Int)(k1 k2:Nat)(w:World)(h1:U32s w A1 m1 c1 (digs S1))(h2:U32s w A2 m2 c2 (digs S2))(hE:min e1 e2=E)(hk1:e1 - E=(k1:Int))(hk2:e2 - E=(k2:Int))
  (he1:-1000000<=e1/\e1<=1000000)(he2:-1000000<=e2/\e2<=1000000)(hb1:blen S1+k1<=500000)(hb2:blen S2+k2<=500000):
  Calls Tryz.prog 141 #[.agg #[.int .i64 0,.bool n1,.slice A1 m1 c1,.int .i64 e1],.agg #[.int .i64 0,.bool n2,.slice A2 m2 c2,.int .i64 e2]] w (NewAl w (S1*2^k1) (S2*2^k2) E):=by
 have hm:=fun W ts t=>run_min_int hE W ts t
 have T1:=Hd fun W (hW:Below w.heap.size w W)=>(by
  have h:=nshl_any A1 m1 c1 k1 (digs S1) W (h1.below hW) (wlen_digs_le (K:=16384) (by omega)) (by rw [num_digs];omega)
  rw [num_digs] at h;exact h:Calls Tryz.prog 202 #[.slice A1 m1 c1,.int .i64 (k1:Int)] W (NewU32E W (digs (S1*2^k1))))
 have T2:=Hd fun W (hW:Below w.heap.size w W)=>(by
  have h:=nshl_any A2 m2 c2 k2 (digs S2) W (h2.below hW) (wlen_digs_le (K:=16384) (by omega)) (by rw [num_digs];omega)
  rw [num_digs] at h;exact h:Calls Tryz.prog 202 #[.slice A2 m2 c2,.int .i64 (k2:Int)] W (NewU32E W (digs (S2*2^k2))))
 have hw1:IntKind.i64.wrap (e1 - E)=(k1:Int):=by rw [IntKind.wrap_i64];omega
 have hw2:IntKind.i64.wrap (e2 - E)=(k2:Int):=by rw [IntKind.wrap_i64];omega
 obtain⟨X,hX⟩:∃ z,S1*2^k1=z:=⟨_,rfl⟩
 obtain⟨Y,hY⟩:∃ z,S2*2^k2=z:=⟨_,rfl⟩
 rw [hX] at T1 ⊢;rw [hY] at T2 ⊢;clear h1 h2 hE hb1 hb2 hX hY hk1 hk2 he1 he2;obtain⟨LB0,LG0_0,LG1_0⟩:=bx2 w #[.int .i64 0,.bool n1,.slice A1 m1 c1,.int .i64 e1] 97 #[.int .i64 0,.bool n2,.slice A2 m2 c2,.int .i64 e2] 97
 go_enter Tryz.func141,Tryz.ntmps141
 go_wp2_with fail;refine (T1.out _ LB0.out).mono ?_;rintro e w1 ⟨B1,n3,d1,rfl,hu1,hb1⟩;have LB1:=stB LB0 hb1 LB0.out.size;have LG0_1:=stG LG0_0 hb1;have LG1_1:=stG LG1_0 hb1;clear LB0 LG0_0 LG1_0;have U1:=Hd hu1;clear hu1 hb1 T1;obtain⟨q1_0,q1_1,q1_2,q1_3⟩:=LG1_1.out.c4;go_wp2_with fail;refine (T2.out _ LB1.out).mono ?_;rintro e w2 ⟨B2,n4,d2,rfl,hu2,hb2⟩;have LB2:=stB LB1 hb2 LB1.out.size;have LG0_2:=stG LG0_1 hb2;have LG1_2:=stG LG1_1 hb2;clear LB1 LG0_1 LG1_1;have U2:=Hd (U1.out.below hb2);have V2:=Hd hu2;clear hu2 hb2 T2 U1 q1_0 q1_1 q1_2 q1_3;go_wp2
 go_ret3
 exact⟨_,_,_,_,_,_,rfl,U2.out,V2.out,LB2.out⟩
end
section
open Go.RowKit
attribute [local go_sem] run_store_float run_negf
theorem isinf1(b:Nat)(w:World)(hr:rungOf b<=M):Calls Tryz.prog 161 #[.float .f64 b,.int .i64 1] w fun e w'=>e=.returned (.bool (decide (idx b=M)))/\w=w':=by
 have hM:M=9218868437227405312:=rfl;have hb:=idx_bounds hr
 by_cases h:idx b=M
 ·have ho:=ord_gt (a:=b) (b:=9218868437227405311) hr real_top (by rw [idx_top];omega);rw [decide_eq_true h];clear h hr hM hb
  go_enter Tryz.func161,Tryz.ntmps161
  go_wp2
  go_ret
  exact⟨rfl,rfl⟩
 ·have ho:FloatKind.f64.format.order b 9218868437227405311=some .lt\/FloatKind.f64.format.order b 9218868437227405311=some .eq:=by
   by_cases h2:idx b=M - 1
   ·exact .inr (ord_eq hr real_top (by rw [idx_top];omega))
   ·exact .inl (ord_lt hr real_top (by rw [idx_top];omega))
  rw [decide_eq_false h];clear h hr hM hb
  rcases ho with ho | ho
  all_goals
   go_enter Tryz.func161,Tryz.ntmps161
   go_wp2
   go_ret
   exact⟨rfl,rfl⟩
end
end Go.Proofs.YthlmlmfebpjgdaaGreatDoor
