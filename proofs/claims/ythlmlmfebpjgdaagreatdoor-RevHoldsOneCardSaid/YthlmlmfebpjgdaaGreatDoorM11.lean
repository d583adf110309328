/-
Lemmas for the statement: IraT PosT Fl2T IosT IoT FacT LessT Es2P PtInfT FmaT MuT Pv0T HoldT RndsT.
-/
import Derived.Test.YthlmlmfebpjgdaaGreatDoorM04
import Derived.Test.YthlmlmfebpjgdaaGreatDoorM10
import Derived.Deep.DeepCutAuto
import Derived.Test.YthlmlmfebpjgdaaGreatDoorM03
import Derived.Deep.CutBlock
import Derived.Test.YthlmlmfebpjgdaaGreatDoorM05
import Derived.Test.YthlmlmfebpjgdaaGreatDoorM06
import Derived.Test.YthlmlmfebpjgdaaGreatDoorM08
import Derived.Laws.FloatArith
import Derived.Test.YthlmlmfebpjgdaaGreatDoorM09
set_option linter.unusedSimpArgs false
set_option linter.unusedVariables false
set_option maxHeartbeats 12800000
set_option maxRecDepth 8000
namespace Go.Proofs.YthlmlmfebpjgdaaGreatDoor
open Go.Proofs.Tryz
open Go.RowKit
section
attribute [local go_sem] run_store_float run_eqf
theorem both_gen(u1 u2 v1 v2 p1 p2 q1 q2:Nat)(a b:Bool)(w:World)(hx:∀ W,Rt 102 #[Zf u1 u2] (Zf p1 p2) W)(hy:∀ W,Rt 102 #[Zf v1 v2] (Zf q1 q2) W)(ha:Em a p1 p2)(hb:Em b q1 q2):
  Rt 138 #[Zf u1 u2,Zf v1 v2] (.tuple #[Zf p1 p2,Zf q1 q2,.int .i64 ((if a then 1 else 0)+(if b then 2 else 0))]) w:=by
 have HE:=Hd emptyf
 have o01:bits .or .i64 0 1=1:=by decide
 have o02:bits .or .i64 0 2=2:=by decide
 have o12:bits .or .i64 1 2=3:=by decide
 have HX:=Hd hx;have HY:=Hd hy;have HA:=Hd ha;have HB:=Hd hb;clear hx hy ha hb;have LL:=li4 w (Zv u1 u2) 28 (Zv v1 v2) 28 (Zv 0 0) 28 (Zv 0 0) 28
 go_enter func138,ntmps138
 have PB2:=Hd (LL.out.blk 0 rfl);have PB3:=Hd (LL.out.blk 1 rfl)
 go_upto_region 1 with fail
 go_cut [7] (fun s7 wx=>s7=undef/\Lies w wx [((w.heap.size+2),28,(Zv 0 0)),((w.heap.size+3),28,(Zv 0 0)),((w.heap.size+1),28,(Zv q1 q2)),(w.heap.size,28,(Zv p1 p2))] [])
 case first=>
  replace LL:=Hd (LL.out.loose0 rfl);replace LL:=Hd (LL.out.loose0 rfl);refine regL LL (fun hHeld=>?_);clear LL
  obtain⟨wk,hwk⟩:∃ X,(((((w.alloc (.cells (Zv u1 u2) 28)).alloc (.cells (Zv v1 v2) 28)).alloc (.cells (Zv 0 0) 28)).alloc (.cells (Zv 0 0) 28))).drew=X:=⟨_,rfl⟩
  replace PB2:=Hd PB2.out.drew;replace PB3:=Hd PB3.out.drew;rw [hwk] at hHeld PB2 PB3 ⊢;clear hwk
  repeat' first
   | (have hx:=hR0;clear hx;have BXo:=PB2.out;obtain⟨qr0,qr1⟩:=BXo.c2;go_simp;refine hR0.out _ _ hHeld (fun _=>?_);clear hR0 KK hHeld BXo qr0 qr1;rename_i hHeld;(try simp only [Act.put,lay]);have mk0:=True.intro)
   | (have hx:=hC1;clear hx;go_simp;refine (HX.out _).mono ?_;rintro e wk ⟨rfl,hb1⟩;go_wp2_with fail;refine hC1.out _ _ (hHeld.keep hb1) (fun _=>?_);clear hC1 KK hHeld;rename_i hHeld;(try simp only [Act.put,lay]);(try replace PB2:=Hd (PB2.out.keep hb1));(try replace PB3:=Hd (PB3.out.keep hb1));clear hb1;have mk1:=True.intro)
   | (have hx:=hR2;clear hx;have BXo:=PB3.out;obtain⟨qr0,qr1⟩:=BXo.c2;go_simp;refine hR2.out _ _ hHeld (fun _=>?_);clear hR2 KK hHeld BXo qr0 qr1;rename_i hHeld;(try simp only [Act.put,lay]);have mk2:=True.intro)
   | (have hx:=hC3;clear hx;go_simp;refine (HY.out _).mono ?_;rintro e wk ⟨rfl,hb2⟩;go_wp2_with fail;refine hC3.out _ _ (hHeld.keep hb2) (fun _=>?_);clear hC3 KK hHeld;rename_i hHeld;(try simp only [Act.put,lay]);(try replace PB2:=Hd (PB2.out.keep hb2));(try replace PB3:=Hd (PB3.out.keep hb2));clear hb2;have mk3:=True.intro)
   | (have hx:=hS4;clear hx;obtain⟨ha0,hf0,ha1,hf1⟩:=(hHeld.has 1 rfl).sf2;obtain⟨csx,hbx,-,hcx⟩:=hHeld.has 1 rfl;(try clear PB2);(try clear PB3);clear hbx hcx;go_simp;have HS_1:=(hHeld.has 1 rfl).laid [.float .f64 p1,.float .f64 p2] rfl;refine hS4.out _ _ (hHeld.over 1 rfl [.float .f64 p1,.float .f64 p2] rfl rfl (by first | omega | exact hHeld.le_of 1 rfl) (by simp<;>omega) (by simp<;>omega)) (fun _=>?_);clear hS4 KK hHeld;rename_i hHeld;(try simp only [Act.put,lay]);(try replace HS_0:=HS_0.other (r:=w.heap.size) (by omega) 0 [.float .f64 p1,.float .f64 p2]);replace hHeld:=(show Lies _ (sets wk w.heap.size 0 [.float .f64 p1,.float .f64 p2]) _ _ from hHeld);obtain⟨wk,hwn⟩:∃ X,sets wk w.heap.size 0 [.float .f64 p1,.float .f64 p2]=X:=⟨_,rfl⟩;rw [hwn] at hHeld HS_1;(try rw [hwn] at HS_0);simp only [sets] at hwn;rw [hwn];clear hwn ha0 hf0 ha1 hf1;have mk4:=True.intro)
   | (have hx:=hS5;clear hx;obtain⟨ha0,hf0,ha1,hf1⟩:=(hHeld.has 0 rfl).sf2;obtain⟨csx,hbx,-,hcx⟩:=hHeld.has 0 rfl;(try clear PB2);(try clear PB3);clear hbx hcx;go_simp;have HS_0:=(hHeld.has 0 rfl).laid [.float .f64 q1,.float .f64 q2] rfl;refine hS5.out _ _ (hHeld.over 0 rfl [.float .f64 q1,.float .f64 q2] rfl rfl (by first | omega | exact hHeld.le_of 0 rfl) (by simp<;>omega) (by simp<;>omega)) (fun _=>?_);clear hS5 KK hHeld;rename_i hHeld;(try simp only [Act.put,lay]);(try replace HS_1:=HS_1.other (r:=(w.heap.size+1)) (by omega) 0 [.float .f64 q1,.float .f64 q2]);replace hHeld:=(show Lies _ (sets wk (w.heap.size+1) 0 [.float .f64 q1,.float .f64 q2]) _ _ from hHeld);obtain⟨wk,hwn⟩:∃ X,sets wk (w.heap.size+1) 0 [.float .f64 q1,.float .f64 q2]=X:=⟨_,rfl⟩;rw [hwn] at hHeld HS_0;(try rw [hwn] at HS_1);simp only [sets] at hwn;rw [hwn];clear hwn ha0 hf0 ha1 hf1;have mk5:=True.intro)
   | (have hx:=mk0;have hx:=mk1;have hx:=mk2;have hx:=mk3;have hx:=mk4;have hx:=mk5;refine wpAnyH_done (by kernel_rfl) ?_ _;clear hx mk0 mk1 mk2 mk3 mk4 mk5;go_wp2_with fail;go_meet;exact⟨rfl,(hHeld.tight HS_0).tight HS_1⟩)
   | (have hx:=mk0;have hx:=mk1;have hx:=mk2;have hx:=mk3;have hx:=mk4;refine rdy 5 (fun KK hS5=>?_))
   | (have hx:=mk0;have hx:=mk1;have hx:=mk2;have hx:=mk3;refine rdy 4 (fun KK hS4=>?_))
   | (have hx:=mk0;have hx:=mk1;have hx:=mk2;refine rdy 3 (fun KK hC3=>?_))
   | (have hx:=mk0;have hx:=mk2;refine rdy 1 (fun KK hC1=>?_))
   | (have hx:=mk0;have hx:=mk1;refine rdy 2 (fun KK hR2=>?_))
   | (have hx:=mk2;refine rdy 0 (fun KK hR0=>?_))
   | (have hx:=mk0;refine rd2 1 2 (fun KK hC1=>?_) (fun KK hR2=>?_))
   | (refine rd2 0 2 (fun KK hR0=>?_) (fun KK hR2=>?_))
 case rest=>
 obtain⟨rfl,hcl⟩:=hcut;rename World=>wx;clear LL HX HY PB2 PB3;have LL:=Hd hcl;clear hcl;obtain⟨ha1,ha2⟩:=HA.out;obtain⟨hb1,hb2⟩:=HB.out;clear HA HB
 cases a<;>cases b
 all_goals
  first
  | have e1:=ha2 rfl
  | obtain⟨e1,e2⟩:=ha1 rfl
  first
  | have e3:=hb2 rfl
  | obtain⟨e3,e4⟩:=hb1 rfl
  clear ha1 ha2 hb1 hb2;have E3:=Hd e3
  try have E4:=Hd e4
  clear e3
  try clear e4
  go_wp2_with fail;refine regL LL (fun hHeld=>?_);clear LL
  obtain⟨wk,hwk⟩:∃ X,(wx).drew=X:=⟨_,rfl⟩
  rw [hwk] at hHeld  ⊢;clear hwk;refine tkb 0 (fun _ h=>(h.blk 3 rfl).c2) ?_;refine rcs 1 (HE.out _) ?_;clear hHeld;intro wk hb1 hHeld;clear hb1;refine tks 2 ?_;refine wpAnyH_done (by kernel_rfl) ?_ _;have LL:=Hd hHeld;clear hHeld;have e3:=E3.out
  try have e4:=E4.out
  go_wp2_with fail;refine regL LL (fun hHeld=>?_);clear LL
  obtain⟨wk,hwk⟩:∃ X,(wk).drew=X:=⟨_,rfl⟩
  rw [hwk] at hHeld  ⊢;clear hwk;refine tkb 0 (fun _ h=>(h.blk 2 rfl).c2) ?_;refine rcs 1 (HE.out _) ?_;clear hHeld;intro wk hb1 hHeld;clear hb1;refine tks 2 ?_;refine wpAnyH_done (by kernel_rfl) ?_ _;have LL:=Hd hHeld;clear hHeld;clear e1
  try clear e2
  go_wp2_with fail;clear e3
  try clear e4
  replace LL:=Hd (LL.out.loose0 rfl);replace LL:=Hd (LL.out.loose0 rfl);refine regL LL (fun hHeld=>?_);clear LL
  obtain⟨wk,hwk⟩:∃ X,(wk).drew=X:=⟨_,rfl⟩
  rw [hwk] at hHeld  ⊢;clear hwk;refine tkb 0 (fun _ h=>(h.blk 1 rfl).c2) ?_;refine tkb 1 (fun _ h=>(h.blk 0 rfl).c2) ?_;refine tks 2 ?_;refine rdy 3 fun KK hKK=>?_;obtain⟨ha0,hf0,ha1,hf1⟩:=(hHeld.has 1 rfl).sf2;go_simp;have HS_1:=(hHeld.has 1 rfl).laid [.float .f64 p1,.float .f64 p2] rfl;refine hKK.out _ _ (hHeld.over 1 rfl [.float .f64 p1,.float .f64 p2] rfl rfl (by first | omega | exact hHeld.le_of 1 rfl) (by simp<;>omega) (by simp<;>omega)) (fun _=>?_);clear hKK KK hHeld;rename_i hHeld;(try simp only [Act.put,lay])
  replace hHeld:=(show Lies _ (sets wk (w.heap.size+2) 0 [.float .f64 p1,.float .f64 p2]) _ _ from hHeld)
  obtain⟨wk,hwn⟩:∃ X,sets wk (w.heap.size+2) 0 [.float .f64 p1,.float .f64 p2]=X:=⟨_,rfl⟩
  rw [hwn] at hHeld  HS_1
  simp only [sets] at hwn
  rw [hwn];clear hwn;refine rdy 4 fun KK hKK=>?_;obtain⟨ha0,hf0,ha1,hf1⟩:=(hHeld.has 0 rfl).sf2;go_simp;have HS_0:=(hHeld.has 0 rfl).laid [.float .f64 q1,.float .f64 q2] rfl;refine hKK.out _ _ (hHeld.over 0 rfl [.float .f64 q1,.float .f64 q2] rfl rfl (by first | omega | exact hHeld.le_of 0 rfl) (by simp<;>omega) (by simp<;>omega)) (fun _=>?_);clear hKK KK hHeld;rename_i hHeld;(try simp only [Act.put,lay]);replace HS_1:=HS_1.other (r:=(w.heap.size+3)) (by omega) 0 [.float .f64 q1,.float .f64 q2];refine tks 5 ?_;refine wpAnyH_done (by kernel_rfl) ?_ _;have LB:=Hd hHeld.b;clear hHeld;obtain⟨hk4_0,hk4_1⟩:=HS_1.c2;clear HS_1;obtain⟨hk5_0,hk5_1⟩:=HS_0.c2;clear HS_0
  simp [sets] at hk4_0 hk4_1 hk5_0 hk5_1
  go_wp2;refine bodyPost_ret ?_ rfl ⟨rfl,LB.out⟩
  simp [results,results138,go_sem,hk4_0,hk4_1,hk5_0,hk5_1]
theorem inter_in(u1 u2 v1 v2 p1 p2 q1 q2 m1 m2:Nat)(kk:Int)(w:World)(hB:∀ W,Rt 138 #[Zf u1 u2,Zf v1 v2] (.tuple #[Zf p1 p2,Zf q1 q2,.int .i64 kk]) W)
  (hmx:∀ W ts t,(Builtin.max_ ts t (Zv p1 q1)).run prog W=.ok (.float .f64 m1) W)(hmn:∀ W ts t,(Builtin.min_ ts t (Zv p2 q2)).run prog W=.ok (.float .f64 m2) W)(hk:kk=0)(ho:(FloatKind.f64.format.order m1 m2 == some Ordering.gt)=false):
  Rt 62 #[Zf u1 u2,Zf v1 v2] (Zf m1 m2) w:=by
 have HB:=Hd hB;have HMX:=Hd hmx;have HMN:=Hd hmn;have HO:=Hd ho;clear hB hmx hmn ho;subst hk;have LL:=li3 w (Zv u1 u2) 28 (Zv v1 v2) 28 (Zv 0 0) 28
 go_enter func62,ntmps62
 obtain⟨q1_0,q1_1⟩:=(LL.out.blk 0 rfl).c2;obtain⟨q2_0,q2_1⟩:=(LL.out.blk 1 rfl).c2;go_wp2_with fail;refine cx (HB.out _) fun wk hb=>?_;replace LL:=stL LL hb;clear hb q1_0 q1_1 q2_0 q2_1;obtain⟨q3_0,q3_1⟩:=(LL.out.blk 0 rfl).c2;obtain⟨q4_0,q4_1⟩:=(LL.out.blk 1 rfl).c2;have fz2_0:=(LL.out.blk 0 rfl).frozen 0;have fz2_1:=(LL.out.blk 0 rfl).frozen 1;have fz3_0:=(LL.out.blk 1 rfl).frozen 0;have fz3_1:=(LL.out.blk 1 rfl).frozen 1
 go_upto_region 2 with fail
 clear q3_0 q3_1 q4_0 q4_1 fz2_0 fz2_1 fz3_0 fz3_1;replace LL:=Hd (LL.out.part 0 rfl 0 [.float .f64 p1,.float .f64 p2] (by omega) (by simp<;>omega) (by simp<;>omega))
 simp only [List.eraseIdx,laid,List.cons_append,List.nil_append,List.setIfInBounds_toArray,List.set_cons_zero,List.set_cons_succ,Nat.zero_add,Nat.reduceAdd] at LL
 replace LL:=Hd (LL.out.part 0 rfl 0 [.float .f64 q1,.float .f64 q2] (by omega) (by simp<;>omega) (by simp<;>omega))
 simp only [List.eraseIdx,laid,List.cons_append,List.nil_append,List.setIfInBounds_toArray,List.set_cons_zero,List.set_cons_succ,Nat.zero_add,Nat.reduceAdd] at LL
 obtain⟨wn,hwn⟩:∃ X,(sets (sets wk w.heap.size 0 [.float .f64 p1,.float .f64 p2]) (w.heap.size+1) 0 [.float .f64 q1,.float .f64 q2])=X:=⟨_,rfl⟩
 rw [hwn] at LL
 simp only [sets,Nat.reduceAdd] at hwn
 rw [hwn];clear hwn;obtain⟨q5_0,q5_1⟩:=(LL.out.blk 1 rfl).c2;obtain⟨q6_0,q6_1⟩:=(LL.out.blk 2 rfl).c2;have hmx:=HMX.out;have hmn:=HMN.out
 go_upto_region 3 with fail
 clear hmx hmn q5_0 q5_1 q6_0 q6_1;obtain⟨j6,hg,hb_j6,hl_j6,hr_j6,-⟩:=LL.out.fresh 28 (Zv m1 m2)
 simp only [List.mem_cons,List.not_mem_nil,or_false,forall_eq_or_imp,forall_eq,false_imp_iff,implies_true] at hl_j6 hr_j6
 replace LL:=Hd (LL.out.new 28 (Zv m1 m2))
 simp only [List.cons_append,List.nil_append] at LL
 rw [hg] at LL ⊢;clear hg
 obtain⟨wn,hwn⟩:∃ X,wn.alloc (.cells (Zv m1 m2) 28)=X:=⟨_,rfl⟩
 rw [hwn] at LL  ⊢;clear hwn;obtain⟨q7_0,q7_1⟩:=(LL.out.blk 3 rfl).c2;have ho:=HO.out;replace LL:=Hd (LL.out.loose0 rfl);obtain⟨ha4_0,hf4_0,ha4_1,hf4_1⟩:=(LL.out.has 0 rfl).sf2;have LF:=Hd (LL.out.wr [.float .f64 m1,.float .f64 m2]);obtain⟨hk4_0,hk4_1⟩:=(LF.out.blk 3 rfl).c2
 simp [sets] at hk4_0 hk4_1
 clear LL;go_wp2;refine bodyPost_ret (v:=Zf m1 m2) (by simp [results,results62,go_sem,hk4_0,hk4_1]) rfl ?_
 exact⟨rfl,LF.out.b⟩
theorem inter_out(u1 u2 v1 v2 p1 p2 q1 q2 m1 m2:Nat)(kk:Int)(w:World)(hB:∀ W,Rt 138 #[Zf u1 u2,Zf v1 v2] (.tuple #[Zf p1 p2,Zf q1 q2,.int .i64 kk]) W)
  (hmx:∀ W ts t,(Builtin.max_ ts t (Zv p1 q1)).run prog W=.ok (.float .f64 m1) W)(hmn:∀ W ts t,(Builtin.min_ ts t (Zv p2 q2)).run prog W=.ok (.float .f64 m2) W)(hk:kk≠0\/kk=0/\FloatKind.f64.format.order m1 m2=some Ordering.gt):
  Rt 62 #[Zf u1 u2,Zf v1 v2] (Zf 9218868437227405312 18442240474082181120) w:=by
 have HB:=Hd hB;have HMX:=Hd hmx;have HMN:=Hd hmn;clear hB hmx hmn;have HE:=Hd emptyf
 rcases hk with hk | ⟨rfl,ho⟩
 ·skip;have LL:=li3 w (Zv u1 u2) 28 (Zv v1 v2) 28 (Zv 0 0) 28;have HO:=Hd hk;clear hk
  go_enter func62,ntmps62
  obtain⟨q1_0,q1_1⟩:=(LL.out.blk 0 rfl).c2;obtain⟨q2_0,q2_1⟩:=(LL.out.blk 1 rfl).c2;go_wp2_with fail;refine cx (HB.out _) fun wk hb=>?_;replace LL:=stL LL hb;clear hb q1_0 q1_1 q2_0 q2_1;obtain⟨q3_0,q3_1⟩:=(LL.out.blk 0 rfl).c2;obtain⟨q4_0,q4_1⟩:=(LL.out.blk 1 rfl).c2;have fz2_0:=(LL.out.blk 0 rfl).frozen 0;have fz2_1:=(LL.out.blk 0 rfl).frozen 1;have fz3_0:=(LL.out.blk 1 rfl).frozen 0;have fz3_1:=(LL.out.blk 1 rfl).frozen 1
  go_upto_region 2 with fail
  clear q3_0 q3_1 q4_0 q4_1 fz2_0 fz2_1 fz3_0 fz3_1;replace LL:=Hd (LL.out.part 0 rfl 0 [.float .f64 p1,.float .f64 p2] (by omega) (by simp<;>omega) (by simp<;>omega))
  simp only [List.eraseIdx,laid,List.cons_append,List.nil_append,List.setIfInBounds_toArray,List.set_cons_zero,List.set_cons_succ,Nat.zero_add,Nat.reduceAdd] at LL
  replace LL:=Hd (LL.out.part 0 rfl 0 [.float .f64 q1,.float .f64 q2] (by omega) (by simp<;>omega) (by simp<;>omega))
  simp only [List.eraseIdx,laid,List.cons_append,List.nil_append,List.setIfInBounds_toArray,List.set_cons_zero,List.set_cons_succ,Nat.zero_add,Nat.reduceAdd] at LL
  obtain⟨wn,hwn⟩:∃ X,(sets (sets wk w.heap.size 0 [.float .f64 p1,.float .f64 p2]) (w.heap.size+1) 0 [.float .f64 q1,.float .f64 q2])=X:=⟨_,rfl⟩
  rw [hwn] at LL
  simp only [sets,Nat.reduceAdd] at hwn
  rw [hwn];clear hwn;obtain⟨q5_0,q5_1⟩:=(LL.out.blk 1 rfl).c2;obtain⟨q6_0,q6_1⟩:=(LL.out.blk 2 rfl).c2;have hmx:=HMX.out;have hmn:=HMN.out
  go_upto_region 3 with fail
  clear hmx hmn q5_0 q5_1 q6_0 q6_1;obtain⟨j6,hg,hb_j6,hl_j6,hr_j6,-⟩:=LL.out.fresh 28 (Zv m1 m2)
  simp only [List.mem_cons,List.not_mem_nil,or_false,forall_eq_or_imp,forall_eq,false_imp_iff,implies_true] at hl_j6 hr_j6
  replace LL:=Hd (LL.out.new 28 (Zv m1 m2))
  simp only [List.cons_append,List.nil_append] at LL
  rw [hg] at LL ⊢;clear hg
  obtain⟨wn,hwn⟩:∃ X,wn.alloc (.cells (Zv m1 m2) 28)=X:=⟨_,rfl⟩
  rw [hwn] at LL  ⊢;clear hwn;have hk:=HO.out;obtain⟨q7_0,q7_1⟩:=(LL.out.blk 3 rfl).c2;go_wp2_with fail;refine cx (HE.out _) fun wk hb=>?_;replace LL:=stL LL hb;clear hb q7_0 q7_1 hk;replace LL:=Hd (LL.out.loose0 rfl);obtain⟨ha4_0,hf4_0,ha4_1,hf4_1⟩:=(LL.out.has 0 rfl).sf2;have LF:=Hd (LL.out.wr [.float .f64 9218868437227405312,.float .f64 18442240474082181120]);obtain⟨hk4_0,hk4_1⟩:=(LF.out.blk 3 rfl).c2
  simp [sets] at hk4_0 hk4_1
  clear LL;go_wp2;refine bodyPost_ret (v:=Zf 9218868437227405312 18442240474082181120) (by simp [results,results62,go_sem,hk4_0,hk4_1]) rfl ?_
  exact⟨rfl,LF.out.b⟩
 ·skip;have LL:=li3 w (Zv u1 u2) 28 (Zv v1 v2) 28 (Zv 0 0) 28;have HO:=Hd ho;clear ho
  go_enter func62,ntmps62
  obtain⟨q1_0,q1_1⟩:=(LL.out.blk 0 rfl).c2;obtain⟨q2_0,q2_1⟩:=(LL.out.blk 1 rfl).c2;go_wp2_with fail;refine cx (HB.out _) fun wk hb=>?_;replace LL:=stL LL hb;clear hb q1_0 q1_1 q2_0 q2_1;obtain⟨q3_0,q3_1⟩:=(LL.out.blk 0 rfl).c2;obtain⟨q4_0,q4_1⟩:=(LL.out.blk 1 rfl).c2;have fz2_0:=(LL.out.blk 0 rfl).frozen 0;have fz2_1:=(LL.out.blk 0 rfl).frozen 1;have fz3_0:=(LL.out.blk 1 rfl).frozen 0;have fz3_1:=(LL.out.blk 1 rfl).frozen 1
  go_upto_region 2 with fail
  clear q3_0 q3_1 q4_0 q4_1 fz2_0 fz2_1 fz3_0 fz3_1;replace LL:=Hd (LL.out.part 0 rfl 0 [.float .f64 p1,.float .f64 p2] (by omega) (by simp<;>omega) (by simp<;>omega))
  simp only [List.eraseIdx,laid,List.cons_append,List.nil_append,List.setIfInBounds_toArray,List.set_cons_zero,List.set_cons_succ,Nat.zero_add,Nat.reduceAdd] at LL
  replace LL:=Hd (LL.out.part 0 rfl 0 [.float .f64 q1,.float .f64 q2] (by omega) (by simp<;>omega) (by simp<;>omega))
  simp only [List.eraseIdx,laid,List.cons_append,List.nil_append,List.setIfInBounds_toArray,List.set_cons_zero,List.set_cons_succ,Nat.zero_add,Nat.reduceAdd] at LL
  obtain⟨wn,hwn⟩:∃ X,(sets (sets wk w.heap.size 0 [.float .f64 p1,.float .f64 p2]) (w.heap.size+1) 0 [.float .f64 q1,.float .f64 q2])=X:=⟨_,rfl⟩
  rw [hwn] at LL
  simp only [sets,Nat.reduceAdd] at hwn
  rw [hwn];clear hwn;obtain⟨q5_0,q5_1⟩:=(LL.out.blk 1 rfl).c2;obtain⟨q6_0,q6_1⟩:=(LL.out.blk 2 rfl).c2;have hmx:=HMX.out;have hmn:=HMN.out
  go_upto_region 3 with fail
  clear hmx hmn q5_0 q5_1 q6_0 q6_1;obtain⟨j6,hg,hb_j6,hl_j6,hr_j6,-⟩:=LL.out.fresh 28 (Zv m1 m2)
  simp only [List.mem_cons,List.not_mem_nil,or_false,forall_eq_or_imp,forall_eq,false_imp_iff,implies_true] at hl_j6 hr_j6
  replace LL:=Hd (LL.out.new 28 (Zv m1 m2))
  simp only [List.cons_append,List.nil_append] at LL
  rw [hg] at LL ⊢;clear hg
  obtain⟨wn,hwn⟩:∃ X,wn.alloc (.cells (Zv m1 m2) 28)=X:=⟨_,rfl⟩
  rw [hwn] at LL  ⊢;clear hwn;have ho:=HO.out;obtain⟨q7_0,q7_1⟩:=(LL.out.blk 3 rfl).c2;go_wp2_with fail;refine cx (HE.out _) fun wk hb=>?_;replace LL:=stL LL hb;clear hb q7_0 q7_1 ho;replace LL:=Hd (LL.out.loose0 rfl);obtain⟨ha4_0,hf4_0,ha4_1,hf4_1⟩:=(LL.out.has 0 rfl).sf2;have LF:=Hd (LL.out.wr [.float .f64 9218868437227405312,.float .f64 18442240474082181120]);obtain⟨hk4_0,hk4_1⟩:=(LF.out.blk 3 rfl).c2
  simp [sets] at hk4_0 hk4_1
  clear LL;go_wp2;refine bodyPost_ret (v:=Zf 9218868437227405312 18442240474082181120) (by simp [results,results62,go_sem,hk4_0,hk4_1]) rfl ?_
  exact⟨rfl,LF.out.b⟩
theorem inter_gen(i j i' j':Int)(u1 u2 v1 v2:Nat)(w:World)(h:Iv i j)(h':Iv i' j')(r1:∀ W,Rt 102 #[Zf u1 u2] (Zf (pat i) (pat j)) W)
  (r2:∀ W,Rt 102 #[Zf v1 v2] (.agg #[.float .f64 (pat i'),.float .f64 (pat j')]) W):
  Rt 62 #[Zf u1 u2,Zf v1 v2] (Zf (pat (it i j i' j').1) (pat (it i j i' j').2)) w:=by
 have HB:=fun W=>both_gen u1 u2 v1 v2 (pat i) (pat j) (pat i') (pat j') _ _ W r1 r2 (em_idx h) (em_idx h');have hmx:=fun W ts t=>run_maxf h.lo h'.lo W ts t;have hmn:=fun W ts t=>run_minf h.hi h'.hi W ts t
 have bz1:-(M:Int)<=max i i'/\max i i'<=M:=by have:=h.lo;have:=h'.lo;omega
 have bz2:-(M:Int)<=min j j'/\min j j'<=M:=by have:=h.hi;have:=h'.hi;omega
 have ho:=order_pat bz1.1 bz1.2 bz2.1 bz2.2;unfold it
 by_cases hc:j<i\/j'<i'\/min j j'<max i i'
 ·rw [if_pos hc,pat_max,pat_min];refine inter_out _ _ _ _ _ _ _ _ _ _ _ w HB hmx hmn ?_
  by_cases c:j<i\/j'<i'
  ·refine .inl ?_
   rcases c with c | c
   ·rw [decide_eq_true c];cases decide (j'<i')<;>decide
   ·rw [decide_eq_true c];cases decide (j<i)<;>decide
  ·refine .inr ⟨?_,?_⟩
   ·rw [decide_eq_false (show ¬ j<i by omega),decide_eq_false (show ¬ j'<i' by omega)];rfl
   ·rw [ho,Int.compare_eq_gt.2 (by omega)]
 ·rw [if_neg hc];refine inter_in _ _ _ _ _ _ _ _ _ _ _ w HB hmx hmn ?_ ?_
  ·rw [decide_eq_false (show ¬ j<i by omega),decide_eq_false (show ¬ j'<i' by omega)];rfl
  ·rw [ho]
   rcases Int.lt_or_eq_of_le (show max i i'<=min j j' by omega) with k | k
   ·rw [Int.compare_eq_lt.2 k];rfl
   ·rw [Int.compare_eq_eq.2 k];rfl
theorem both_any(p1 p2 q1 q2:Nat)(a b:Bool)(w:World)(hx:∀ W,Rt 102 #[Zf p1 p2] (Zf p1 p2) W)
  (hy:∀ W,Rt 102 #[Zf q1 q2] (Zf q1 q2) W)(ha:Em a p1 p2)(hb:Em b q1 q2):
  Rt 138 #[Zf p1 p2,Zf q1 q2] (.tuple #[Zf p1 p2,Zf q1 q2,.int .i64 ((if a then 1 else 0)+(if b then 2 else 0))]) w:=
 both_gen p1 p2 q1 q2 p1 p2 q1 q2 a b w hx hy ha hb
end
section
attribute [local go_sem] run_store_float run_eqf
theorem NoWd.floats(a b:Nat):NoWd (Zv a b):=NoWd.of (by rw [<- Array.all_toList];rfl)
theorem ExI.sets{w:World}{s:Int}{g:Bool}{A:Option Addr}{n c:Nat}{E:Int}{x:Rat}(h:ExI w s g A n c E x){r:Nat}{t:TypeId}{a b:Nat}(hb:Blk w r t (Zv a b))(i:Nat)(vs:List Value):ExI (Proofs.YthlmlmfebpjgdaaGreatDoor.sets w r i vs) s g A n c E x:=
 h.keep fun _ hu=>hu.sets hb (NoWd.floats a b) i vs
end
section
attribute [local go_sem] run_store_float
theorem emptyq(i j:Int)(w:World)(h1:-(M:Int)<=i/\i<=M)(h2:-(M:Int)<=j/\j<=M):Rt 116 #[Zf (pat i) (pat j)] (.bool (decide (j<i))) w:=by
 have ho:=order_pat h1.1 h1.2 h2.1 h2.2
 obtain⟨p,hp⟩:∃ p,pat i=p:=⟨_,rfl⟩
 obtain⟨q,hq⟩:∃ p,pat j=p:=⟨_,rfl⟩
 rw [hp,hq] at ho;rw [hp,hq];clear hp hq h1 h2;have hb:=Hd fun cs=>below_alloc w (.cells cs 28)
 rcases Int.lt_trichotomy i j with h | h | h
 ·rw [show compare i j=.lt from Int.compare_eq_lt.2 h] at ho;rw [decide_eq_false (show ¬ j<i by omega)];clear h
  go_enter func116,ntmps116
  go_wp2
  go_ret
  exact⟨rfl,hb.out _⟩
 ·rw [show compare i j=.eq from Int.compare_eq_eq.2 h] at ho;rw [decide_eq_false (show ¬ j<i by omega)];clear h
  go_enter func116,ntmps116
  go_wp2
  go_ret
  exact⟨rfl,hb.out _⟩
 ·rw [show compare i j=.gt from Int.compare_eq_gt.2 h] at ho;rw [decide_eq_true (show j<i by omega)];clear h
  go_enter func116,ntmps116
  go_wp2
  go_ret
  exact⟨rfl,hb.out _⟩
attribute [local go_sem] run_negf
theorem turnedf(i j:Int)(w:World)(h1:-(M:Int)<=i/\i<=M)(h2:-(M:Int)<=j/\j<=M):Rt 137 #[Zf (pat i) (pat j)] (Zf (pat (-j)) (pat (-i))) w:=by
 have n1:=negFloat_val (pat_lt h1.1 h1.2);have n2:=negFloat_val (pat_lt h2.1 h2.2);have P1:=Hd fun W=>(plainf (Op.negFloat .f64 (pat i)) W n1.1 (by rw [n1.2.1,rung_pat h1.1 h1.2];omega)).mono (R':=fun e w'=>e=.returned (.float .f64 (pat (idx (Op.negFloat .f64 (pat i)))))/\Below W.heap.size W w') (by rintro e w' ⟨h,rfl⟩;exact⟨h,Below.refl _ _⟩);have P2:=Hd fun W=>(plainf (Op.negFloat .f64 (pat j)) W n2.1 (by rw [n2.2.1,rung_pat h2.1 h2.2];omega)).mono (R':=fun e w'=>e=.returned (.float .f64 (pat (idx (Op.negFloat .f64 (pat j)))))/\Below W.heap.size W w') (by rintro e w' ⟨h,rfl⟩;exact⟨h,Below.refl _ _⟩);rw [n1.2.2,idx_pat h1.1 h1.2] at P1;rw [n2.2.2,idx_pat h2.1 h2.2] at P2
 obtain⟨p,hp⟩:∃ p,pat i=p:=⟨_,rfl⟩
 obtain⟨q,hq⟩:∃ p,pat j=p:=⟨_,rfl⟩
 obtain⟨p2,hp2⟩:∃ p,pat (-i)=p:=⟨_,rfl⟩
 obtain⟨q2,hq2⟩:∃ p,pat (-j)=p:=⟨_,rfl⟩
 rw [hp,hp2] at P1;rw [hq,hq2] at P2;rw [hp,hq,hp2,hq2];clear n1 n2 hp hq hp2 hq2 h1 h2;obtain⟨LB0,LG0_0,LR⟩:=bx2 w (Zv p q) 28 (Zv 0 0) 28;have LR0:=Hd (HasBlk.of (n:=2) LR.out rfl rfl);clear LR
 go_enter func137,ntmps137
 go_wp2_with fail;refine wp_region_held_drew (S:=fun W'=>Blk W' w.heap.size 28 (Zv p q)/\HasBlk W' (w.heap.size+1) 28 2/\Below w.heap.size w W') (by kernel_rfl) (by exact⟨LG0_0.out.drew,LR0.out.drew,LB0.out.drew⟩) (fun hHeld=>?_);refine tks 0 ?_;refine tkb 1 (fun _ h=>h.1.c2) ?_;refine tks 2 ?_;refine tks 4 ?_;refine tkb 5 (fun _ h=>h.1.c2) ?_;refine tks 6 ?_;refine rdy 3 fun KK hKK=>?_;go_simp;refine cx (P2.out _) fun w2 hb2=>?_;go_wp2_with fail;refine hKK.out _ _ (⟨hHeld.1.keep hb2,hHeld.2.1.keep hb2,hHeld.2.2.trans (hb2.mono hHeld.2.2.size)⟩) (fun _=>?_);clear hKK KK hHeld;rename_i hHeld;(try simp only [Act.put,lay]);refine rdy 7 fun KK hKK=>?_;go_simp;refine cx (P1.out _) fun w3 hb3=>?_;go_wp2_with fail;refine hKK.out _ _ (⟨hHeld.1.keep hb3,hHeld.2.1.keep hb3,hHeld.2.2.trans (hb3.mono hHeld.2.2.size)⟩) (fun _=>?_);clear hKK KK hHeld;rename_i hHeld;(try simp only [Act.put,lay]);refine tks 8 ?_;refine rdy 9 fun KK hKK=>?_;have ha0:=hHeld.2.1.someCell 0 (by decide);have hf0:=hHeld.2.1.frozen 0;have ha1:=hHeld.2.1.someCell 1 (by decide);have hf1:=hHeld.2.1.frozen 1;have HK:=Hd (hHeld.2.1.setCell [.float .f64 q2,.float .f64 p2] rfl);have F:=Hd (below_sets (w0:=w) (r:=(w.heap.size+1)) (by omega) [.float .f64 q2,.float .f64 p2] 0 _ hHeld.2.2);go_simp;refine hKK.out _ _ (⟨hHeld.1.other (by omega) 0 [.float .f64 q2,.float .f64 p2],hHeld.2.1.sets [.float .f64 q2,.float .f64 p2] rfl rfl,below_sets (by omega) [.float .f64 q2,.float .f64 p2] 0 _ hHeld.2.2⟩) (fun _=>?_);clear hKK KK hHeld;rename_i hHeld
 (try simp only [Act.put,lay]);refine wpAnyH_done (by kernel_rfl) ?_ _;have hk0:=HK.out 0 (by decide);have hk1:=HK.out 1 (by decide)
 simp [sets] at hk0 hk1
 clear hHeld HK hb2 hb3;clear LB0 LR0 LG0_0;go_wp2;refine bodyPost_ret (v:=Zf q2 p2) (by simp [results,results137,go_sem,hk0,hk1]) rfl ?_
 exact⟨rfl,F.out⟩
theorem negf(x y:Nat)(w:World)(hx:L64 x)(hy:L64 y):Rt 61 #[Zf x y] (Zf (pat (-(rd x y).2)) (pat (-(rd x y).1))) w:=by
 have HR:=Hd fun W=>readf x y W hx hy;have hiv:=rd_iv x y
 obtain⟨i,hi⟩:∃ i,(rd x y).1=i:=⟨_,rfl⟩
 obtain⟨j,hj⟩:∃ i,(rd x y).2=i:=⟨_,rfl⟩
 rw [hi,hj] at HR hiv ⊢;have HQ:=Hd fun W=>emptyq i j W hiv.lo hiv.hi;have HT:=Hd fun W=>turnedf i j W hiv.lo hiv.hi
 have hE:j<i->i=M/\j=-(M:Int):=by
  intro h;unfold Iv at hiv
  omega
 obtain⟨p,hp⟩:∃ p,pat i=p:=⟨_,rfl⟩
 obtain⟨q,hq⟩:∃ p,pat j=p:=⟨_,rfl⟩
 obtain⟨p2,hp2⟩:∃ p,pat (-i)=p:=⟨_,rfl⟩
 obtain⟨q2,hq2⟩:∃ p,pat (-j)=p:=⟨_,rfl⟩
 rw [hp,hq] at HR HQ HT;rw [hp2,hq2] at HT ⊢
 obtain⟨b,hb⟩:∃ b,decide (j<i)=b:=⟨_,rfl⟩
 rw [hb] at HQ
 have HE2:b=true->p=q2/\q=p2:=by
  intro h;rw [h] at hb;obtain⟨e1,e2⟩:=hE (of_decide_eq_true hb);rw [<- hp,<- hq2,<- hq,<- hp2,e1,e2,Int.neg_neg]
  exact⟨rfl,rfl⟩
 have HE:=Hd HE2;clear hi hj hiv hE hp hq hp2 hq2 hb HE2
 cases b
 ·skip;obtain⟨LB0,LG0_0,LR⟩:=bx2 w (Zv x y) 28 (Zv 0 0) 28;have LR0:=Hd (HasBlk.of (n:=2) LR.out rfl rfl);clear LR
  go_enter func61,ntmps61
  go_wp2_with fail;refine cx (HR.out _) fun w1 hb1=>?_;have LB1:=stB LB0 hb1 LB0.out.size;have LR1:=stR LR0 hb1;have LG0_1:=stG LG0_0 hb1;clear LB0 LR0 LG0_0;clear hb1;obtain⟨q0_0,q0_1⟩:=LG0_1.out.c2;have hf0:=LG0_1.out.frozen 0;have hf1:=LG0_1.out.frozen 1
  go_upto_region 2 with fail
  clear q0_0 q0_1 hf0 hf1;have LB2:=Hd (below_sets (w0:=w) (show w.heap.size<=w.heap.size by omega) [.float .f64 p,.float .f64 q] 0 w1 LB1.out);have LR2:=Hd (LR1.out.other (r:=w.heap.size) (by omega) 0 [.float .f64 p,.float .f64 q]);have LG0_2:=Hd (show Blk (sets w1 w.heap.size 0 [.float .f64 p,.float .f64 q]) w.heap.size 28 (Zv p q) from by have hbs:=Blk.sets [.float .f64 p,.float .f64 q] 0 w1 _ LG0_1.out;simpa [laid] using hbs);clear LB1 LR1 LG0_1
  obtain⟨V1,hV1⟩:∃ X,(sets w1 w.heap.size 0 [.float .f64 p,.float .f64 q])=X:=⟨_,rfl⟩
  rw [hV1] at LB2 LR2 LG0_2;rw [show ((w1.setCell ⟨w.heap.size,0,none⟩ (.float .f64 p)).setCell ⟨w.heap.size,1,none⟩ (.float .f64 q))=V1 from hV1];clear hV1;obtain⟨q0_0,q0_1⟩:=LG0_2.out.c2;go_wp2_with fail;refine cx (HQ.out _) fun w2 hb2=>?_;have LB3:=stB LB2 hb2 LB2.out.size;have LR3:=stR LR2 hb2;have LG0_3:=stG LG0_2 hb2;clear LB2 LR2 LG0_2;clear hb2 q0_0 q0_1;obtain⟨q0_0,q0_1⟩:=LG0_3.out.c2;go_wp2_with fail;refine cx (HT.out _) fun w3 hb3=>?_;have LB4:=stB LB3 hb3 LB3.out.size;have LR4:=stR LR3 hb3;have LG0_4:=stG LG0_3 hb3;clear LB3 LR3 LG0_3;clear hb3 q0_0 q0_1;obtain⟨ha0,hf0,ha1,hf1⟩:=LR4.out.sf2;obtain⟨hk0,hk1⟩:=LR4.out.sc2 (.float .f64 q2) (.float .f64 p2);have F:=Hd (below_sets (w0:=w) (r:=(w.heap.size+1)) (by omega) [.float .f64 q2,.float .f64 p2] 0 _ LB4.out)
  simp [sets] at hk0 hk1
  go_wp2;refine bodyPost_ret (v:=Zf q2 p2) (by simp [results,results61,go_sem,hk0,hk1]) rfl ?_
  exact⟨rfl,F.out⟩
 ·skip;obtain⟨LB0,LG0_0,LR⟩:=bx2 w (Zv x y) 28 (Zv 0 0) 28;have LR0:=Hd (HasBlk.of (n:=2) LR.out rfl rfl);clear LR
  go_enter func61,ntmps61
  go_wp2_with fail;refine cx (HR.out _) fun w1 hb1=>?_;have LB1:=stB LB0 hb1 LB0.out.size;have LR1:=stR LR0 hb1;have LG0_1:=stG LG0_0 hb1;clear LB0 LR0 LG0_0;clear hb1;obtain⟨q0_0,q0_1⟩:=LG0_1.out.c2;have hf0:=LG0_1.out.frozen 0;have hf1:=LG0_1.out.frozen 1
  go_upto_region 2 with fail
  clear q0_0 q0_1 hf0 hf1;have LB2:=Hd (below_sets (w0:=w) (show w.heap.size<=w.heap.size by omega) [.float .f64 p,.float .f64 q] 0 w1 LB1.out);have LR2:=Hd (LR1.out.other (r:=w.heap.size) (by omega) 0 [.float .f64 p,.float .f64 q]);have LG0_2:=Hd (show Blk (sets w1 w.heap.size 0 [.float .f64 p,.float .f64 q]) w.heap.size 28 (Zv p q) from by have hbs:=Blk.sets [.float .f64 p,.float .f64 q] 0 w1 _ LG0_1.out;simpa [laid] using hbs);clear LB1 LR1 LG0_1
  obtain⟨V1,hV1⟩:∃ X,(sets w1 w.heap.size 0 [.float .f64 p,.float .f64 q])=X:=⟨_,rfl⟩
  rw [hV1] at LB2 LR2 LG0_2;rw [show ((w1.setCell ⟨w.heap.size,0,none⟩ (.float .f64 p)).setCell ⟨w.heap.size,1,none⟩ (.float .f64 q))=V1 from hV1];clear hV1;obtain⟨q0_0,q0_1⟩:=LG0_2.out.c2;go_wp2_with fail;refine cx (HQ.out _) fun w2 hb2=>?_;have LB3:=stB LB2 hb2 LB2.out.size;have LR3:=stR LR2 hb2;have LG0_3:=stG LG0_2 hb2;clear LB2 LR2 LG0_2;clear hb2 q0_0 q0_1;obtain⟨q0_0,q0_1⟩:=LG0_3.out.c2;obtain⟨ha0,hf0,ha1,hf1⟩:=LR3.out.sf2;obtain⟨hk0,hk1⟩:=LR3.out.sc2 (.float .f64 p) (.float .f64 q);have F:=Hd (below_sets (w0:=w) (r:=(w.heap.size+1)) (by omega) [.float .f64 p,.float .f64 q] 0 _ LB3.out)
  simp [sets] at hk0 hk1
  go_wp2;refine bodyPost_ret (v:=Zf p q) (by simp [results,results61,go_sem,hk0,hk1]) rfl ?_
  exact⟨by rw [(HE.out trivial).1,(HE.out trivial).2],F.out⟩
end
section
attribute [local go_sem] run_store_float run_frombits run_bitsof
theorem law_in(x y:Nat)(w:World):Rt 15 #[.agg #[.int .u64 (x:Int),.int .u64 (y:Int)]] (Zf x y) w:=by
 obtain⟨LB0,LG0_0,LR⟩:=bx2 w #[.int .u64 (x:Int),.int .u64 (y:Int)] 24 (Zv 0 0) 28;have LR0:=Hd (HasBlk.of (n:=2) LR.out rfl rfl);clear LR
 go_enter func15,ntmps15
 go_wp2_with fail;clear LB0 LG0_0 LR0
 go_region
 all_goals go_wp2
 all_goals (refine bodyPost_ret (v:=Zf x y) (by simp [results,results15,go_sem]) rfl ?_;exact⟨rfl,((below_alloc w _).alloc (by simp) _).drew⟩)
theorem law_out(x y:Nat)(w:World):Rt 13 #[Zf x y] (.agg #[.int .u64 (x:Int),.int .u64 (y:Int)]) w:=by
 obtain⟨LB0,LG0_0,LR⟩:=bx2 w (Zv x y) 28 #[.int .u64 0,.int .u64 0] 24;have LR0:=Hd (HasBlk.of (n:=2) LR.out rfl rfl);clear LR
 go_enter func13,ntmps13
 go_wp2_with fail;clear LB0 LG0_0 LR0
 go_region
 all_goals go_wp2
 all_goals (refine bodyPost_ret (v:=.agg #[.int .u64 (x:Int),.int .u64 (y:Int)]) (by simp [results,results13,go_sem]) rfl ?_;exact⟨rfl,((below_alloc w _).alloc (by simp) _).drew⟩)
end
section
attribute [local go_sem] run_store_float run_frombits run_bitsof
theorem mirrorf(x y:Nat)(w:World)(hx:L64 x)(hy:L64 y):Rt 85 #[Zf x y] (Zf (pat (-(rd x y).2)) (pat (-(rd x y).1))) w:=by
 have HN:=Hd fun W=>negf x y W hx hy
 obtain⟨p,hp⟩:∃ p,pat (-(rd x y).2)=p:=⟨_,rfl⟩
 obtain⟨q,hq⟩:∃ p,pat (-(rd x y).1)=p:=⟨_,rfl⟩
 rw [hp,hq] at HN;rw [hp,hq];clear hp hq;obtain⟨LB0,LG0_0,LR⟩:=bx2 w (Zv x y) 28 (Zv 0 0) 28;have LR0:=Hd (HasBlk.of (n:=2) LR.out rfl rfl);clear LR
 go_enter func85,ntmps85
 go_wp2_with fail;refine cx (HN.out _) fun w1 hb1=>?_;have LB1:=stB LB0 hb1 LB0.out.size;have LR1:=stR LR0 hb1;have LG0_1:=stG LG0_0 hb1;clear LB0 LR0 LG0_0;clear hb1;obtain⟨ha0,hf0,ha1,hf1⟩:=LR1.out.sf2;obtain⟨hk0,hk1⟩:=LR1.out.sc2 (.float .f64 p) (.float .f64 q);have F:=Hd (below_sets (w0:=w) (r:=(w.heap.size+1)) (by omega) [.float .f64 p,.float .f64 q] 0 _ LB1.out)
 simp [sets] at hk0 hk1
 go_wp2;refine bodyPost_ret (v:=Zf p q) (by simp [results,results85,go_sem,hk0,hk1]) rfl ?_
 exact⟨rfl,F.out⟩
end
section
attribute [local go_sem] run_store_float run_eqf
theorem has_any(i j:Int)(w:World)(hi:-(M:Int)<=i/\i<=M)(hj:-(M:Int)<=j/\j<=M):Rt 87 #[Zf (pat i) (pat j)] (.bool (decide (i<=0/\0<=j))) w:=by
 have t1:i<=0->FloatKind.f64.format.order (pat i) 0=some .lt\/FloatKind.f64.format.order (pat i) 0=some .eq:=fun h=>by
  by_cases h0:i=0
  ·exact .inr (ord0_eq h0)
  ·exact .inl (ord0_lt hi (by omega))
 have t2:0<=j->FloatKind.f64.format.order (pat j) 0=some .gt\/FloatKind.f64.format.order (pat j) 0=some .eq:=fun h=>by
  by_cases h0:j=0
  ·exact .inr (ord0_eq h0)
  ·exact .inl (ord0_gt hj (by omega))
 obtain⟨LB0,LG0_0⟩:=bx1 w (Zv (pat i) (pat j)) 28
 obtain⟨p,hp⟩:∃ p,pat i=p:=⟨_,rfl⟩
 obtain⟨q,hq⟩:∃ p,pat j=p:=⟨_,rfl⟩
 by_cases h1:i<=0
 ·have o1:=t1 h1
  by_cases h2:0<=j
  ·have o2:=t2 h2;rw [decide_eq_true ⟨h1,h2⟩];rw [hp] at o1;rw [hq] at o2;rw [hp,hq] at LB0 LG0_0 ⊢;clear t1 t2 hp hq h1 h2 hi hj
   rcases o1 with o1 | o1<;>rcases o2 with o2 | o2
   all_goals
    have F:=Hd LB0.out;have q0:=LG0_0.out.cell 0;have q1:=LG0_0.out.cell 1
    go_enter func87,ntmps87
    go_wp2
    go_ret
    exact⟨rfl,F.out⟩
  ·have o2:=ord0_lt hj (by omega);rw [decide_eq_false (fun h=>h2 h.2)];rw [hp] at o1;rw [hq] at o2;rw [hp,hq] at LB0 LG0_0 ⊢;clear t1 t2 hp hq h1 h2 hi hj
   rcases o1 with o1 | o1
   all_goals
    have F:=Hd LB0.out;have q0:=LG0_0.out.cell 0;have q1:=LG0_0.out.cell 1
    go_enter func87,ntmps87
    go_wp2
    go_ret
    exact⟨rfl,F.out⟩
 ·have o1:=ord0_gt hi (by omega);rw [decide_eq_false (fun h=>h1 h.1)];rw [hp] at o1;rw [hp,hq] at LB0 LG0_0 ⊢;clear t1 t2 hp hq h1 hi hj;have F:=Hd LB0.out;have q0:=LG0_0.out.cell 0;have q1:=LG0_0.out.cell 1
  go_enter func87,ntmps87
  go_wp2
  go_ret
  exact⟨rfl,F.out⟩
theorem hull_walk(p1 p2 q1 q2 a b:Nat)(k:Int)(w:World)(hB:∀ W,Rt 138 #[Zf p1 p2,Zf q1 q2] (.tuple #[Zf p1 p2,Zf q1 q2,.int .i64 k]) W)
  (m1:∀ W ts t,(Builtin.min_ ts t (Zv p1 q1)).run prog W=.ok (.float .f64 a) W)(m2:∀ W ts t,(Builtin.max_ ts t (Zv p2 q2)).run prog W=.ok (.float .f64 b) W):
  Rt 63 #[Zf p1 p2,Zf q1 q2] (Zf a b) w:=by
 have HB:=Hd hB;have M1:=Hd m1;have M2:=Hd m2;clear hB m1 m2;obtain⟨LB0,LG0_0,LG1_0,LR⟩:=bx3 w (Zv p1 p2) 28 (Zv q1 q2) 28 (Zv 0 0) 28;have LR0:=Hd (HasBlk.of (n:=2) LR.out rfl rfl);clear LR
 go_enter func63,ntmps63
 obtain⟨q0_0,q0_1⟩:=LG0_0.out.c2;obtain⟨q1_0,q1_1⟩:=LG1_0.out.c2;go_wp2_with fail;refine cx (HB.out _) fun w1 hb1=>?_;have LB1:=stB LB0 hb1 LB0.out.size;have LR1:=stR LR0 hb1;have LG0_1:=stG LG0_0 hb1;have LG1_1:=stG LG1_0 hb1;clear LB0 LR0 LG0_0 LG1_0;clear hb1 HB q0_0 q0_1 q1_0 q1_1;obtain⟨q0_0,q0_1⟩:=LG0_1.out.c2;obtain⟨q1_0,q1_1⟩:=LG1_1.out.c2;have f00:=LG0_1.out.frozen 0;have f01:=LG0_1.out.frozen 1;have f10:=LG1_1.out.frozen 0;have f11:=LG1_1.out.frozen 1
 go_upto_region 2 with fail
 clear q0_0 q0_1 q1_0 q1_1 f00 f01 f10 f11;have LB2:=Hd (below_sets (w0:=w) (show w.heap.size<=w.heap.size by omega) [.float .f64 p1,.float .f64 p2] 0 w1 LB1.out);have LR2:=Hd (LR1.out.other (r:=w.heap.size) (by omega) 0 [.float .f64 p1,.float .f64 p2]);have LG0_2:=Hd (show Blk (sets w1 w.heap.size 0 [.float .f64 p1,.float .f64 p2]) w.heap.size 28 (Zv p1 p2) from by have hbs:=Blk.sets [.float .f64 p1,.float .f64 p2] 0 w1 _ LG0_1.out;simpa [laid] using hbs);have LG1_2:=Hd (LG1_1.out.other (r:=w.heap.size) (by omega) 0 [.float .f64 p1,.float .f64 p2]);clear LB1 LR1 LG0_1 LG1_1;have LB3:=Hd (below_sets (w0:=w) (show w.heap.size<=(w.heap.size+1) by omega) [.float .f64 q1,.float .f64 q2] 0 (sets w1 w.heap.size 0 [.float .f64 p1,.float .f64 p2]) LB2.out);have LR3:=Hd (LR2.out.other (r:=(w.heap.size+1)) (by omega) 0 [.float .f64 q1,.float .f64 q2]);have LG0_3:=Hd (LG0_2.out.other (r:=(w.heap.size+1)) (by omega) 0 [.float .f64 q1,.float .f64 q2]);have LG1_3:=Hd (show Blk (sets (sets w1 w.heap.size 0 [.float .f64 p1,.float .f64 p2]) (w.heap.size+1) 0 [.float .f64 q1,.float .f64 q2]) (w.heap.size+1) 28 (Zv q1 q2) from by have hbs:=Blk.sets [.float .f64 q1,.float .f64 q2] 0 (sets w1 w.heap.size 0 [.float .f64 p1,.float .f64 p2]) _ LG1_2.out;simpa [laid] using hbs);clear LB2 LR2 LG0_2 LG1_2
 obtain⟨W2,hW2⟩:∃ W,sets (sets w1 w.heap.size 0 [.float .f64 p1,.float .f64 p2]) (w.heap.size+1) 0 [.float .f64 q1,.float .f64 q2]=W:=⟨_,rfl⟩
 rw [hW2] at LB3 LR3 LG0_3 LG1_3
 simp only [sets] at hW2
 rw [hW2];clear hW2;obtain⟨q0_0,q0_1⟩:=LG0_3.out.c2;obtain⟨q1_0,q1_1⟩:=LG1_3.out.c2;have m1:=M1.out;have m2:=M2.out;obtain⟨ha0,hf0,ha1,hf1⟩:=LR3.out.sf2;obtain⟨hk0,hk1⟩:=LR3.out.sc2 (.float .f64 a) (.float .f64 b);have F:=Hd (below_sets (w0:=w) (r:=(w.heap.size+2)) (by omega) [.float .f64 a,.float .f64 b] 0 _ LB3.out)
 simp [sets] at hk0 hk1
 go_wp2;refine bodyPost_ret (v:=Zf a b) (by simp [results,results63,go_sem,hk0,hk1]) rfl ?_
 exact⟨rfl,F.out⟩
theorem hullf(i j i' j':Int)(w:World)(h:Iv i j)(h':Iv i' j'):
  Rt 63 #[Zf (pat i) (pat j),.agg #[.float .f64 (pat i'),.float .f64 (pat j')]] (Zf (pat (min i i')) (pat (max j j'))) w:=
 hull_walk _ _ _ _ _ _ _ w (fun W=>both_any _ _ _ _ _ _ W (fun W=>readf_idx i j W h) (fun W=>readf_idx i' j' W h') (em_idx h) (em_idx h')) (fun W ts t=>run_minf h.lo h'.lo W ts t) (fun W ts t=>run_maxf h.hi h'.hi W ts t)
end
section
attribute [local go_sem] run_store_float run_negf
end
section
open Go.RowKit
end
section
attribute [local go_sem] run_store_float run_negf
theorem copyone_pos(w:World):Calls prog 167 (Zv 4607182418800017408 9218868437227405312) w fun e w'=>e=.returned (.float .f64 4607182418800017408)/\w=w':=by
 have a1:bits .andNot .u64 4607182418800017408 9223372036854775808=4607182418800017408:=by decide
 have a2:bits .and .u64 9218868437227405312 9223372036854775808=0:=by decide
 have a3:bits .or .u64 4607182418800017408 0=4607182418800017408:=by decide
 have f1:∀ W:World,(callFunc 73 #[.float .f64 4607182418800017408]).run prog W=.ok (.value (.int .u64 4607182418800017408)) W:=fun W=>run_bitsof 4607182418800017408 W;have f2:∀ W:World,(callFunc 73 #[.float .f64 9218868437227405312]).run prog W=.ok (.value (.int .u64 9218868437227405312)) W:=fun W=>run_bitsof 9218868437227405312 W;have f3:∀ W:World,(callFunc 74 #[.int .u64 4607182418800017408]).run prog W=.ok (.value (.float .f64 4607182418800017408)) W:=fun W=>run_frombits 4607182418800017408 W
 go_enter func167,ntmps167
 go_wp2
 go_ret
 exact⟨rfl,rfl⟩
theorem point_pos(w:World):Rt 100 #[.float .f64 9218868437227405312] (.agg #[.int .i64 (1),.bool false,.slice none 0 0,.int .i64 0]) w:=by
 have HI0:=fun W=>isinff 9218868437227405312 W (by omega) (by decide);rw [decide_eq_true (show rungOf 9218868437227405312=M by decide)] at HI0;have HI:=Hd HI0;have HC:=Hd fun W=>copyone_pos W;clear HI0;have hc:∀ W,(convert 26 3 (.float .f64 4607182418800017408)).run prog W=.ok (.int .i64 (1)) W:=fun W=>run_convert_float_int W 26 3 .f64 .i64 4607182418800017408 (1) (by rw [Tryz.underlying26];rfl) Tryz.underlying3 (by kernel_rfl);obtain⟨LB0,LR⟩:=bx1 w #[.int .i64 0,.bool false,.slice none 0 0,.int .i64 0] 97;have LR0:=Hd (HasBlk.of (n:=4) LR.out rfl rfl);clear LR
 go_enter func100,ntmps100
 go_wp2_with fail;refine cy (HI.out _) ?_;clear HI;go_wp2_with fail;refine cy (HC.out _) ?_;clear HC;obtain⟨ha0,hf0,ha1,hf1,ha2,hf2,ha3,hf3⟩:=LR0.out.sf4;obtain⟨hk0,hk1,hk2,hk3⟩:=LR0.out.sc4 (.int .i64 (1)) (.bool false) (.slice none 0 0) (.int .i64 0);have F:=Hd (below_sets (w0:=w) (r:=w.heap.size) (by omega) [.int .i64 (1),.bool false,.slice none 0 0,.int .i64 0] 0 _ LB0.out)
 simp [sets] at hk0 hk1 hk2 hk3
 go_wp2;refine bodyPost_ret (v:=.agg #[.int .i64 (1),.bool false,.slice none 0 0,.int .i64 0]) (by simp [results,results100,go_sem,hk0,hk1,hk2,hk3]) rfl ?_
 exact⟨rfl,below_alloc _ _⟩
theorem copyone_neg(w:World):Calls prog 167 (Zv 4607182418800017408 18442240474082181120) w fun e w'=>e=.returned (.float .f64 13830554455654793216)/\w=w':=by
 have a1:bits .andNot .u64 4607182418800017408 9223372036854775808=4607182418800017408:=by decide
 have a2:bits .and .u64 18442240474082181120 9223372036854775808=9223372036854775808:=by decide
 have a3:bits .or .u64 4607182418800017408 9223372036854775808=13830554455654793216:=by decide
 have f1:∀ W:World,(callFunc 73 #[.float .f64 4607182418800017408]).run prog W=.ok (.value (.int .u64 4607182418800017408)) W:=fun W=>run_bitsof 4607182418800017408 W;have f2:∀ W:World,(callFunc 73 #[.float .f64 18442240474082181120]).run prog W=.ok (.value (.int .u64 18442240474082181120)) W:=fun W=>run_bitsof 18442240474082181120 W;have f3:∀ W:World,(callFunc 74 #[.int .u64 13830554455654793216]).run prog W=.ok (.value (.float .f64 13830554455654793216)) W:=fun W=>run_frombits 13830554455654793216 W
 go_enter func167,ntmps167
 go_wp2
 go_ret
 exact⟨rfl,rfl⟩
theorem point_neg(w:World):Rt 100 #[.float .f64 18442240474082181120] (.agg #[.int .i64 (-1),.bool false,.slice none 0 0,.int .i64 0]) w:=by
 have HI0:=fun W=>isinff 18442240474082181120 W (by omega) (by decide);rw [decide_eq_true (show rungOf 18442240474082181120=M by decide)] at HI0;have HI:=Hd HI0;have HC:=Hd fun W=>copyone_neg W;clear HI0;have hc:∀ W,(convert 26 3 (.float .f64 13830554455654793216)).run prog W=.ok (.int .i64 (-1)) W:=fun W=>run_convert_float_int W 26 3 .f64 .i64 13830554455654793216 (-1) (by rw [Tryz.underlying26];rfl) Tryz.underlying3 (by kernel_rfl);obtain⟨LB0,LR⟩:=bx1 w #[.int .i64 0,.bool false,.slice none 0 0,.int .i64 0] 97;have LR0:=Hd (HasBlk.of (n:=4) LR.out rfl rfl);clear LR
 go_enter func100,ntmps100
 go_wp2_with fail;refine cy (HI.out _) ?_;clear HI;go_wp2_with fail;refine cy (HC.out _) ?_;clear HC;obtain⟨ha0,hf0,ha1,hf1,ha2,hf2,ha3,hf3⟩:=LR0.out.sf4;obtain⟨hk0,hk1,hk2,hk3⟩:=LR0.out.sc4 (.int .i64 (-1)) (.bool false) (.slice none 0 0) (.int .i64 0);have F:=Hd (below_sets (w0:=w) (r:=w.heap.size) (by omega) [.int .i64 (-1),.bool false,.slice none 0 0,.int .i64 0] 0 _ LB0.out)
 simp [sets] at hk0 hk1 hk2 hk3
 go_wp2;refine bodyPost_ret (v:=.agg #[.int .i64 (-1),.bool false,.slice none 0 0,.int .i64 0]) (by simp [results,results100,go_sem,hk0,hk1,hk2,hk3]) rfl ?_
 exact⟨rfl,below_alloc _ _⟩
def NewExI(w:World)(s:Int)(x:Rat)(e:Ending)(w':World):Prop:=
 ∃ (g:Bool) (A:Option Addr) (n c:Nat) (E:Int),e=.returned (.agg #[.int .i64 s,.bool g,.slice A n c,.int .i64 E])/\ExI w' s g A n c E x/\Below w.heap.size w w'
theorem point_gen(i:Int)(w:World)(h:-(M:Int)<=i/\i<=M):Calls prog 100 #[.float .f64 (pat i)] w (NewExI w (es i) (ex i)):=by
 have hM:=M_val
 by_cases h1:i=M
 ·subst h1;rw [es_max,pat_max];refine (point_pos w).mono ?_;rintro e w' ⟨rfl,hb⟩
  exact⟨false,none,0,0,0,rfl,⟨.inr (.inl rfl),fun h=>by omega⟩,hb⟩
 ·by_cases h2:i=-(M:Int)
  ·subst h2;rw [es_min,pat_min];refine (point_neg w).mono ?_;rintro e w' ⟨rfl,hb⟩
   exact⟨false,none,0,0,0,rfl,⟨.inr (.inr rfl),fun h=>by omega⟩,hb⟩
  ·rw [es_mid (by omega) (by omega),ex_mid (by omega) (by omega)]
   have hf:fin (pat i):=by show rungOf (pat i)<M;rw [rung_pat h.1 h.2];omega
   obtain⟨neg,S,x,k1,k2,k3,k4,k5⟩:=point_any (pat i) (pat_lt h.1 h.2) hf;rw [idx_pat h.1 h.2] at k4;refine (k5 w).mono ?_;rintro e w' ⟨A,n,c,rfl,hu,hb⟩
   exact⟨neg,A,n,c,x,rfl,⟨.inl rfl,fun _=>⟨S,hu,Nat.le_trans (blen_le_iff.2 (show S<2^53 from k1)) (by omega),k2,k3,k4⟩⟩,hb⟩
end
section
attribute [local go_sem] run_store_float
end
theorem ov_rng{s:Int}{x:Rat}{j:Int}(hs:s=0\/s=1\/s=-1):(-(M:Int)<=(ov s x j).1/\(ov s x j).1<=M)/\(-(M:Int)<=(ov s x j).2/\(ov s x j).2<=M):=by
 have hM:=M_val;unfold ov;have a:=rndI_down (x / fl j);have b:=rndI_up (x / fl j)
 split
 ·rcases hs with h | h | h<;>subst h<;>dsimp only<;>omega
 ·split<;>dsimp only<;>omega
structure NumOk (s1:Int) (x1:Rat) (s2:Int) (x2:Rat):Prop where
 a1:s1=0\/s1=-1
 a2:s1≠0->x1=0
 b1:s2=0\/s2=1
 b2:s2≠0->x2=0
 le:s1=0->s2=0->x1<=x2
def PF(b1 b2:Int)(s1:Int)(x1:Rat)(s2:Int)(x2:Rat)(i j:Int):Int × Int:=
 if b2<=0 then ((M:Int),-(M:Int)) else pf (qA s1 x1 b1 b2).1 (qA s1 x1 b1 b2).2.1 (qA s1 x1 b1 b2).2.2 (qB s2 x2 b1 b2).1 (qB s2 x2 b1 b2).2.1 (qB s2 x2 b1 b2).2.2 i j
def fa(b1 b2:Int)(s1:Int)(x1:Rat)(s2:Int)(x2:Rat)(i j:Int):Int × Int:=
 if (b1<=0/\0<=b2)/\esx s1 x1<=0/\0<=esx s2 x2 then (i,j)
 else (min (PF b1 b2 s1 x1 s2 x2 i j).1 (-(PF (-b2) (-b1) s1 x1 s2 x2 (-j) (-i)).2),max (PF b1 b2 s1 x1 s2 x2 i j).2 (-(PF (-b2) (-b1) s1 x1 s2 x2 (-j) (-i)).1))
theorem mirror_idx(i j:Int)(w:World)(h:Iv i j):Rt 85 #[Zf (pat i) (pat j)] (Zf (pat (-j)) (pat (-i))) w:=by
 have h2:=mirrorf (pat i) (pat j) w (pat_lt h.lo.1 h.lo.2) (pat_lt h.hi.1 h.hi.2);rw [rd_pat h] at h2
 exact h2
section
def NewPcF(w:World)(F:Int->Int->Int × Int)(e:Ending)(w':World):Prop:=
 ∃ o s1 g1 A1 n1 c1 B1 m1 d1 N1 o1 s2 g2 A2 n2 c2 B2 m2 d2 N2 o2,
  e=.returned (.agg #[.bool o,.int .i64 s1,.bool g1,.slice A1 n1 c1,.slice B1 m1 d1,.int .i64 N1,.bool o1,.int .i64 s2,.bool g2,.slice A2 n2 c2,.slice B2 m2 d2,.int .i64 N2,.bool o2])/\PcW w' o s1 g1 A1 n1 c1 B1 m1 d1 N1 o1 s2 g2 A2 n2 c2 B2 m2 d2 N2 o2 F/\Below w.heap.size w w'
theorem NewPiece.up{w w':World}{K K':Nat}{o:Bool}{s:Int}{x:Rat}{N:Int}{p:Bool}{s':Int}{x':Rat}{N':Int}{p':Bool}{e:Ending}(h:NewPiece w K o s x N p s' x' N' p' e w')(hk:K<=K'):NewPiece w K' o s x N p s' x' N' p' e w':=by
 obtain⟨g,A,n,c,B,m,d,g',A',n',c',B',m',d',rfl,h1,h2,hb⟩:=h
 exact⟨g,A,n,c,B,m,d,g',A',n',c',B',m',d',rfl,h1.mono hk,h2.mono hk,hb⟩
def ngF(F:Int->Int->Int × Int):Int->Int->Int × Int:=fun i j=>(-(F (-j) (-i)).2,-(F (-j) (-i)).1)
def PcV(w:World)(o:Bool)(s1:Int)(g1:Bool)(A1:Option Addr)(n1 c1:Nat)(B1:Option Addr)(m1 d1:Nat)(N1:Int)(o1:Bool)(s2:Int)(g2:Bool)(A2:Option Addr)(n2 c2:Nat)(B2:Option Addr)(m2 d2:Nat)(N2:Int)(o2:Bool)(F:Int->Int->Int × Int):Prop:=
 PcW w o s1 g1 A1 n1 c1 B1 m1 d1 N1 o1 s2 g2 A2 n2 c2 B2 m2 d2 N2 o2 F/\∀ W,Below w.heap.size w W ->
  Calls prog 109 #[.agg #[.bool o,.int .i64 s1,.bool g1,.slice A1 n1 c1,.slice B1 m1 d1,.int .i64 N1,.bool o1,.int .i64 s2,.bool g2,.slice A2 n2 c2,.slice B2 m2 d2,.int .i64 N2,.bool o2]] W (NewPcF W (ngF F))
section
variable {w w':World} {K:Nat} {o:Bool} {s1:Int} {g1:Bool} {A1:Option Addr} {n1 c1:Nat} {B1:Option Addr} {m1 d1:Nat} {N1:Int} {o1:Bool} {s2:Int} {g2:Bool} {A2:Option Addr} {n2 c2:Nat} {B2:Option Addr} {m2 d2:Nat} {N2:Int} {o2:Bool} {x1 x2:Rat} {F:Int->Int->Int × Int}
theorem PcV.below(h:PcV w o s1 g1 A1 n1 c1 B1 m1 d1 N1 o1 s2 g2 A2 n2 c2 B2 m2 d2 N2 o2 F)(hb:Below w.heap.size w w'):PcV w' o s1 g1 A1 n1 c1 B1 m1 d1 N1 o1 s2 g2 A2 n2 c2 B2 m2 d2 N2 o2 F:=
 ⟨h.1.below hb,fun W hW=>h.2 W (hb.trans (hW.mono hb.size))⟩
end
end
theorem ec_swp(s:Int)(x:Rat)(t:Int)(y:Rat):ec s x t y=- ec t y s x:=by
 unfold ec
 by_cases h:s=t
 ·subst h;rw [if_pos rfl,if_pos rfl]
  split
  ·exact rc_swap x y
  ·rfl
 ·rw [if_neg h,if_neg (show ¬ t=s by omega)]
  by_cases h1:s<t
  ·rw [if_pos h1,if_neg (by omega)]
  ·rw [if_neg h1,if_pos (by omega)];rfl
theorem holds_none(f1 f2 K:Nat)(i1 j1:Int)(g2:Bool)(A2:Option Addr)(n2 c2:Nat)(B2:Option Addr)(m2 d2:Nat)(v:Rat)(w:World)(hO1:∀ W,Calls prog 83 #[.agg #[.int .u64 (f1:Int),.int .u64 (f2:Int)]] W (NewSetI W i1 j1))
  (hN:∀ W o1 s1 g1 A1 n1 c1 B1 m1 d1 s51 g51 A51 n51 c51 B51 m51 d51,SetOf W (.agg #[.bool o1,.int .i64 s1,.bool g1,.slice A1 n1 c1,.slice B1 m1 d1,.int .i64 s51,.bool g51,.slice A51 n51 c51,.slice B51 m51 d51]) i1 j1->o1=true)
  (hr:RatW w K g2 (.slice A2 n2 c2) (.slice B2 m2 d2) v):
  Rt 34 #[.agg #[.int .u64 (f1:Int),.int .u64 (f2:Int)],Zg g2 A2 n2 c2 B2 m2 d2] (.bool false) w:=by
 have HO1:=Hd hO1;have HN:=Hd hN;clear hO1 hN;have LL:=li2 w #[.int .u64 (f1:Int),.int .u64 (f2:Int)] 24 (Zr g2 A2 n2 c2 B2 m2 d2) 42;have HR:=Hd (hr.below LL.out.b);clear hr
 go_enter func34,ntmps34
 obtain⟨q1_0,q1_1⟩:=(LL.out.blk 0 rfl).c2;go_wp2_with fail;refine (HO1.out _).mono ?_;rintro e wk ⟨o1,s1,g1,A1,n1,c1,B1,m1,d1,s51,g51,A51,n51,c51,B51,m51,d51,rfl,hs1,hb⟩;replace LL:=stL LL hb;replace HR:=Hd (HR.out.below hb);clear hb q1_0 q1_1 HO1;have HS1:=Hd hs1;clear hs1
 obtain rfl:o1=true:=HN.out _ _ _ _ _ _ _ _ _ _ _ _ _ _ _ _ _ _ HS1.out
 clear HN
 go_upto_region 2 with fail
 have hl_j5:=LL.out.lts;generalize hwn:World.alloc wk _=wn;replace HR:=Hd (HR.out.below (below_allocE hwn));replace HS1:=Hd (HS1.out.below (below_allocE hwn));replace LL:=Hd (LL.out.newE hwn)
 simp only [List.cons_append,List.nil_append] at LL
 simp only [List.mem_cons,List.not_mem_nil,or_false,forall_eq_or_imp,forall_eq,false_imp_iff,implies_true,and_true] at hl_j5
 clear hwn;generalize wk.heap.size=j5 at LL hl_j5 ⊢;obtain⟨q2_0,q2_1,q2_2⟩:=(LL.out.blk 1 rfl).c3
 go_upto_region 3 with fail
 clear q2_0 q2_1 q2_2;have hl_j6:=LL.out.lts;generalize hwn:World.alloc wn _=wn;replace HR:=Hd (HR.out.below (below_allocE hwn));replace HS1:=Hd (HS1.out.below (below_allocE hwn));replace LL:=Hd (LL.out.newE hwn)
 simp only [List.cons_append,List.nil_append] at LL
 simp only [List.mem_cons,List.not_mem_nil,or_false,forall_eq_or_imp,forall_eq,false_imp_iff,implies_true,and_true] at hl_j6
 clear hwn;generalize wn.heap.size=j6 at LL hl_j6 ⊢;obtain⟨q3_0,q3_1,q3_2,q3_3,q3_4,q3_5,q3_6,q3_7,q3_8⟩:=(LL.out.blk 2 rfl).c9;go_wp2
 go_ret
 exact⟨rfl,LL.out.b⟩
theorem holds_lo(f1 f2 K:Nat)(i1 j1 t1:Int)(g2:Bool)(A2:Option Addr)(n2 c2:Nat)(B2:Option Addr)(m2 d2:Nat)(v:Rat)(w:World)(hO1:∀ W,Calls prog 83 #[.agg #[.int .u64 (f1:Int),.int .u64 (f2:Int)]] W (NewSetI W i1 j1))
  (hN:∀ W o1 s1 g1 A1 n1 c1 B1 m1 d1 s51 g51 A51 n51 c51 B51 m51 d51,SetOf W (.agg #[.bool o1,.int .i64 s1,.bool g1,.slice A1 n1 c1,.slice B1 m1 d1,.int .i64 s51,.bool g51,.slice A51 n51 c51,.slice B51 m51 d51]) i1 j1->o1=false)
  (hC1:∀ W o1 s1 g1 A1 n1 c1 B1 m1 d1 s51 g51 A51 n51 c51 B51 m51 d51,SetOf W (.agg #[.bool o1,.int .i64 s1,.bool g1,.slice A1 n1 c1,.slice B1 m1 d1,.int .i64 s51,.bool g51,.slice A51 n51 c51,.slice B51 m51 d51]) i1 j1->RatW W K g2 (.slice A2 n2 c2) (.slice B2 m2 d2) v->Rt 94 #[.agg #[.int .i64 s1,.bool g1,.slice A1 n1 c1,.slice B1 m1 d1],.agg #[.int .i64 0,.bool g2,.slice A2 n2 c2,.slice B2 m2 d2]] (.int .i64 t1) W)(h1:decide (t1<=0)=false)
  (hr:RatW w K g2 (.slice A2 n2 c2) (.slice B2 m2 d2) v):
  Rt 34 #[.agg #[.int .u64 (f1:Int),.int .u64 (f2:Int)],Zg g2 A2 n2 c2 B2 m2 d2] (.bool false) w:=by
 have HO1:=Hd hO1;have HN:=Hd hN;have HC1:=Hd hC1;have H1:=Hd h1;clear hO1 hN hC1 h1;have LL:=li2 w #[.int .u64 (f1:Int),.int .u64 (f2:Int)] 24 (Zr g2 A2 n2 c2 B2 m2 d2) 42;have HR:=Hd (hr.below LL.out.b);clear hr
 go_enter func34,ntmps34
 obtain⟨q1_0,q1_1⟩:=(LL.out.blk 0 rfl).c2;go_wp2_with fail;refine (HO1.out _).mono ?_;rintro e wk ⟨o1,s1,g1,A1,n1,c1,B1,m1,d1,s51,g51,A51,n51,c51,B51,m51,d51,rfl,hs1,hb⟩;replace LL:=stL LL hb;replace HR:=Hd (HR.out.below hb);clear hb q1_0 q1_1 HO1;have HS1:=Hd hs1;clear hs1
 obtain rfl:o1=false:=HN.out _ _ _ _ _ _ _ _ _ _ _ _ _ _ _ _ _ _ HS1.out
 clear HN
 go_upto_region 2 with fail
 have hl_j5:=LL.out.lts;generalize hwn:World.alloc wk _=wn;replace HR:=Hd (HR.out.below (below_allocE hwn));replace HS1:=Hd (HS1.out.below (below_allocE hwn));replace LL:=Hd (LL.out.newE hwn)
 simp only [List.cons_append,List.nil_append] at LL
 simp only [List.mem_cons,List.not_mem_nil,or_false,forall_eq_or_imp,forall_eq,false_imp_iff,implies_true,and_true] at hl_j5
 clear hwn;generalize wk.heap.size=j5 at LL hl_j5 ⊢;obtain⟨q2_0,q2_1,q2_2⟩:=(LL.out.blk 1 rfl).c3
 go_upto_region 3 with fail
 clear q2_0 q2_1 q2_2;have hl_j6:=LL.out.lts;generalize hwn:World.alloc wn _=wn;replace HR:=Hd (HR.out.below (below_allocE hwn));replace HS1:=Hd (HS1.out.below (below_allocE hwn));replace LL:=Hd (LL.out.newE hwn)
 simp only [List.cons_append,List.nil_append] at LL
 simp only [List.mem_cons,List.not_mem_nil,or_false,forall_eq_or_imp,forall_eq,false_imp_iff,implies_true,and_true] at hl_j6
 clear hwn;generalize wn.heap.size=j6 at LL hl_j6 ⊢;have CC:=Hd (HC1.out _ _ _ _ _ _ _ _ _ _ _ _ _ _ _ _ _ _ HS1.out HR.out);have h1:=H1.out;obtain⟨q3_0,q3_1,q3_2,q3_3,q3_4,q3_5,q3_6,q3_7,q3_8⟩:=(LL.out.blk 2 rfl).c9;obtain⟨q4_0,q4_1,q4_2,q4_3⟩:=(LL.out.blk 3 rfl).c4;go_wp2_with fail;refine CC.out.mono ?_;rintro e wk ⟨rfl,hb⟩;replace LL:=stL LL hb;replace HR:=Hd (HR.out.below hb);replace HS1:=Hd (HS1.out.below hb);clear hb q3_0 q3_1 q3_2 q3_3 q3_4 q3_5 q3_6 q3_7 q3_8 q4_0 q4_1 q4_2 q4_3 CC HC1;go_wp2
 go_ret
 exact⟨rfl,LL.out.b⟩
theorem holds_all(f1 f2 K:Nat)(i1 j1 t1 t2:Int)(r:Bool)(g2:Bool)(A2:Option Addr)(n2 c2:Nat)(B2:Option Addr)(m2 d2:Nat)(v:Rat)(w:World)(hO1:∀ W,Calls prog 83 #[.agg #[.int .u64 (f1:Int),.int .u64 (f2:Int)]] W (NewSetI W i1 j1))
  (hN:∀ W o1 s1 g1 A1 n1 c1 B1 m1 d1 s51 g51 A51 n51 c51 B51 m51 d51,SetOf W (.agg #[.bool o1,.int .i64 s1,.bool g1,.slice A1 n1 c1,.slice B1 m1 d1,.int .i64 s51,.bool g51,.slice A51 n51 c51,.slice B51 m51 d51]) i1 j1->o1=false)
  (hC1:∀ W o1 s1 g1 A1 n1 c1 B1 m1 d1 s51 g51 A51 n51 c51 B51 m51 d51,SetOf W (.agg #[.bool o1,.int .i64 s1,.bool g1,.slice A1 n1 c1,.slice B1 m1 d1,.int .i64 s51,.bool g51,.slice A51 n51 c51,.slice B51 m51 d51]) i1 j1->RatW W K g2 (.slice A2 n2 c2) (.slice B2 m2 d2) v->Rt 94 #[.agg #[.int .i64 s1,.bool g1,.slice A1 n1 c1,.slice B1 m1 d1],.agg #[.int .i64 0,.bool g2,.slice A2 n2 c2,.slice B2 m2 d2]] (.int .i64 t1) W)(h1:decide (t1<=0)=true)
  (hC2:∀ W o1 s1 g1 A1 n1 c1 B1 m1 d1 s51 g51 A51 n51 c51 B51 m51 d51,SetOf W (.agg #[.bool o1,.int .i64 s1,.bool g1,.slice A1 n1 c1,.slice B1 m1 d1,.int .i64 s51,.bool g51,.slice A51 n51 c51,.slice B51 m51 d51]) i1 j1->RatW W K g2 (.slice A2 n2 c2) (.slice B2 m2 d2) v->Rt 94 #[.agg #[.int .i64 0,.bool g2,.slice A2 n2 c2,.slice B2 m2 d2],.agg #[.int .i64 s51,.bool g51,.slice A51 n51 c51,.slice B51 m51 d51]] (.int .i64 t2) W)(h2:decide (t2<=0)=r)
  (hr:RatW w K g2 (.slice A2 n2 c2) (.slice B2 m2 d2) v):
  Rt 34 #[.agg #[.int .u64 (f1:Int),.int .u64 (f2:Int)],Zg g2 A2 n2 c2 B2 m2 d2] (.bool r) w:=by
 have HO1:=Hd hO1;have HN:=Hd hN;have HC1:=Hd hC1;have H1:=Hd h1;have HC2:=Hd hC2;have H2:=Hd h2;clear hO1 hN hC1 h1 hC2 h2;have LL:=li2 w #[.int .u64 (f1:Int),.int .u64 (f2:Int)] 24 (Zr g2 A2 n2 c2 B2 m2 d2) 42;have HR:=Hd (hr.below LL.out.b);clear hr
 go_enter func34,ntmps34
 obtain⟨q1_0,q1_1⟩:=(LL.out.blk 0 rfl).c2;go_wp2_with fail;refine (HO1.out _).mono ?_;rintro e wk ⟨o1,s1,g1,A1,n1,c1,B1,m1,d1,s51,g51,A51,n51,c51,B51,m51,d51,rfl,hs1,hb⟩;replace LL:=stL LL hb;replace HR:=Hd (HR.out.below hb);clear hb q1_0 q1_1 HO1;have HS1:=Hd hs1;clear hs1
 obtain rfl:o1=false:=HN.out _ _ _ _ _ _ _ _ _ _ _ _ _ _ _ _ _ _ HS1.out
 clear HN
 go_upto_region 2 with fail
 have hl_j5:=LL.out.lts;generalize hwn:World.alloc wk _=wn;replace HR:=Hd (HR.out.below (below_allocE hwn));replace HS1:=Hd (HS1.out.below (below_allocE hwn));replace LL:=Hd (LL.out.newE hwn)
 simp only [List.cons_append,List.nil_append] at LL
 simp only [List.mem_cons,List.not_mem_nil,or_false,forall_eq_or_imp,forall_eq,false_imp_iff,implies_true,and_true] at hl_j5
 clear hwn;generalize wk.heap.size=j5 at LL hl_j5 ⊢;obtain⟨q2_0,q2_1,q2_2⟩:=(LL.out.blk 1 rfl).c3
 go_upto_region 3 with fail
 clear q2_0 q2_1 q2_2;have hl_j6:=LL.out.lts;generalize hwn:World.alloc wn _=wn;replace HR:=Hd (HR.out.below (below_allocE hwn));replace HS1:=Hd (HS1.out.below (below_allocE hwn));replace LL:=Hd (LL.out.newE hwn)
 simp only [List.cons_append,List.nil_append] at LL
 simp only [List.mem_cons,List.not_mem_nil,or_false,forall_eq_or_imp,forall_eq,false_imp_iff,implies_true,and_true] at hl_j6
 clear hwn;generalize wn.heap.size=j6 at LL hl_j6 ⊢;have CC:=Hd (HC1.out _ _ _ _ _ _ _ _ _ _ _ _ _ _ _ _ _ _ HS1.out HR.out);have h1:=H1.out;obtain⟨q3_0,q3_1,q3_2,q3_3,q3_4,q3_5,q3_6,q3_7,q3_8⟩:=(LL.out.blk 2 rfl).c9;obtain⟨q4_0,q4_1,q4_2,q4_3⟩:=(LL.out.blk 3 rfl).c4;go_wp2_with fail;refine CC.out.mono ?_;rintro e wk ⟨rfl,hb⟩;replace LL:=stL LL hb;replace HR:=Hd (HR.out.below hb);replace HS1:=Hd (HS1.out.below hb);clear hb q3_0 q3_1 q3_2 q3_3 q3_4 q3_5 q3_6 q3_7 q3_8 q4_0 q4_1 q4_2 q4_3 CC HC1;have CC:=Hd (HC2.out _ _ _ _ _ _ _ _ _ _ _ _ _ _ _ _ _ _ HS1.out HR.out);have h2:=H2.out;obtain⟨q5_0,q5_1,q5_2,q5_3,q5_4,q5_5,q5_6,q5_7,q5_8⟩:=(LL.out.blk 2 rfl).c9;obtain⟨q6_0,q6_1,q6_2,q6_3⟩:=(LL.out.blk 3 rfl).c4;go_wp2_with fail;refine CC.out.mono ?_;rintro e wk ⟨rfl,hb⟩;replace LL:=stL LL hb;replace HR:=Hd (HR.out.below hb);replace HS1:=Hd (HS1.out.below hb);clear hb q5_0 q5_1 q5_2 q5_3 q5_4 q5_5 q5_6 q5_7 q5_8 q6_0 q6_1 q6_2 q6_3 CC HC2;go_wp2
 go_ret
 exact⟨by first | rw [h2] | rfl,LL.out.b⟩
def hd(i j:Int)(v:Rat):Bool:=decide (i<=rndI (-1) v) && decide (rndI 1 v<=j)
theorem hd_true{i j:Int}{v:Rat}:hd i j v=true↔i<=rndI (-1) v/\rndI 1 v<=j:=by unfold hd;simp
theorem hd_false{i j:Int}{v:Rat}(h:¬ (i<=rndI (-1) v/\rndI 1 v<=j)):hd i j v=false:=by
 cases e:hd i j v
 ·rfl
 ·exact absurd (hd_true.1 e) h
theorem holds_any(f1 f2 K:Nat)(g:Bool)(A:Option Addr)(n c:Nat)(B:Option Addr)(m d:Nat)(v:Rat)(w:World)(h1:L64 f1)(h2:L64 f2)(hr:RatW w K g (.slice A n c) (.slice B m d) v)(hK:34<=K)(hK2:K<=1073741824):
  Rt 34 #[.agg #[.int .u64 (f1:Int),.int .u64 (f2:Int)],Zg g A n c B m d] (.bool (hd (rd f1 f2).1 (rd f1 f2).2 v)) w:=by
 have hM:=M_val;have hv:=rd_iv f1 f2;have hO:=fun W=>of_i f1 f2 W h1 h2;have b1:=rndI_down v;have b2:=rndI_up v
 obtain⟨⟨i,j⟩,r2⟩:∃ z,rd f1 f2=z:=⟨_,rfl⟩
 rw [r2] at hv hO ⊢
 dsimp only at *
 by_cases h0:j<i
 ·have e:hd i j v=false:=hd_false (by rcases hv with h | h<;>omega);rw [e];refine holds_none f1 f2 K i j g A n c B m d v w hO ?_ hr;intro W o1 s1 g1 A1 n1 c1 B1 m1 d1 s51 g51 A51 n51 c51 B51 m51 d51 hs
  rcases hs with ⟨-,-,s,x,t,y,g2,A2,n2,c2,B2,m2,d2,g',A',n',c',B',m',d',e,-,-⟩ | ⟨hne,-⟩
  ·cases e;rfl
  ·omega
 ·have hne:=ne_or hv h0;unfold Ne at hne
  have hN:∀ W o1 s1 g1 A1 n1 c1 B1 m1 d1 s51 g51 A51 n51 c51 B51 m51 d51,SetOf W (.agg #[.bool o1,.int .i64 s1,.bool g1,.slice A1 n1 c1,.slice B1 m1 d1,.int .i64 s51,.bool g51,.slice A51 n51 c51,.slice B51 m51 d51]) i j->o1=false:=by
   intro W o1 s1 g1 A1 n1 c1 B1 m1 d1 s51 g51 A51 n51 c51 B51 m51 d51 hs
   rcases hs with ⟨e1,e2,-⟩ | ⟨-,g2,A2,n2,c2,B2,m2,d2,g',A',n',c',B',m',d',e,-,-⟩
   ·omega
   ·cases e;rfl
  have hC1:∀ W o1 s1 g1 A1 n1 c1 B1 m1 d1 s51 g51 A51 n51 c51 B51 m51 d51,SetOf W (.agg #[.bool o1,.int .i64 s1,.bool g1,.slice A1 n1 c1,.slice B1 m1 d1,.int .i64 s51,.bool g51,.slice A51 n51 c51,.slice B51 m51 d51]) i j->RatW W K g (.slice A n c) (.slice B m d) v ->
    Rt 94 #[.agg #[.int .i64 s1,.bool g1,.slice A1 n1 c1,.slice B1 m1 d1],.agg #[.int .i64 0,.bool g,.slice A n c,.slice B m d]] (.int .i64 (ec (es i) (ex i) 0 v)) W:=by
   intro W o1 s1 g1 A1 n1 c1 B1 m1 d1 s51 g51 A51 n51 c51 B51 m51 d51 hs hw
   rcases hs with ⟨e1,e2,-⟩ | ⟨-,g2,A2,n2,c2,B2,m2,d2,g',A',n',c',B',m',d',e,q1,q2⟩
   ·omega
   ·cases e
    exact ecmp_w K _ g1 A1 n1 c1 B1 m1 d1 _ 0 g A n c B m d v W (q1.w.mono hK) hw hK2
  have hC2:∀ W o1 s1 g1 A1 n1 c1 B1 m1 d1 s51 g51 A51 n51 c51 B51 m51 d51,SetOf W (.agg #[.bool o1,.int .i64 s1,.bool g1,.slice A1 n1 c1,.slice B1 m1 d1,.int .i64 s51,.bool g51,.slice A51 n51 c51,.slice B51 m51 d51]) i j->RatW W K g (.slice A n c) (.slice B m d) v ->
    Rt 94 #[.agg #[.int .i64 0,.bool g,.slice A n c,.slice B m d],.agg #[.int .i64 s51,.bool g51,.slice A51 n51 c51,.slice B51 m51 d51]] (.int .i64 (ec 0 v (es j) (ex j))) W:=by
   intro W o1 s1 g1 A1 n1 c1 B1 m1 d1 s51 g51 A51 n51 c51 B51 m51 d51 hs hw
   rcases hs with ⟨e1,e2,-⟩ | ⟨-,g2,A2,n2,c2,B2,m2,d2,g',A',n',c',B',m',d',e,q1,q2⟩
   ·omega
   ·cases e
    exact ecmp_w K 0 g A n c B m d v _ g51 A51 n51 c51 B51 m51 d51 _ W hw (q2.w.mono hK) hK2
  have k1:=ec_hi (i:=i) (s:=0) (x:=v) (by omega) (.inl rfl);have k2:=ec_lo (j:=j) (s:=0) (x:=v) (by omega) (.inl rfl);rw [dn_zero] at k1;rw [up_zero] at k2
  by_cases c1:ec (es i) (ex i) 0 v<=0
  ·have e:decide (ec 0 v (es j) (ex j)<=0)=hd i j v:=by
    have sw:=ec_swp 0 v (es j) (ex j)
    by_cases c2:ec 0 v (es j) (ex j)<=0
    ·rw [decide_eq_true c2,(hd_true (i:=i) (j:=j) (v:=v)).2 ⟨by omega,by omega⟩]
    ·rw [decide_eq_false c2,hd_false (by omega)]
   exact holds_all f1 f2 K i j _ _ _ g A n c B m d v w hO hN hC1 (decide_eq_true c1) hC2 e hr
  ·have e:hd i j v=false:=hd_false (by omega);rw [e]
   exact holds_lo f1 f2 K i j _ g A n c B m d v w hO hN hC1 (decide_eq_false c1) hr
theorem kept_walk(f1 f2 K:Nat)(r:Bool)(g2:Bool)(A2:Option Addr)(n2 c2:Nat)(B2:Option Addr)(m2 d2:Nat)(v:Rat)(w:World)(hH:∀ W,RatW W K g2 (.slice A2 n2 c2) (.slice B2 m2 d2) v->Rt 34 #[.agg #[.int .u64 (f1:Int),.int .u64 (f2:Int)],Zg g2 A2 n2 c2 B2 m2 d2] (.bool r) W)(hr:RatW w K g2 (.slice A2 n2 c2) (.slice B2 m2 d2) v):
  Rt 37 #[Zg g2 A2 n2 c2 B2 m2 d2,Zf f1 f2] (.bool r) w:=by
 have HO:=Hd fun W=>law_out f1 f2 W;have HH:=Hd hH;clear hH;have LL:=li2 w (Zr g2 A2 n2 c2 B2 m2 d2) 42 (Zv f1 f2) 28;have HR:=Hd (hr.below LL.out.b);clear hr
 go_enter func37,ntmps37
 go_wp2_with fail;refine regL LL (fun hHeld=>?_);clear LL;replace HR:=Hd (HR.out.below (Below.refl _ _).drew);generalize World.drew _=wk at hHeld HR ⊢;refine tkb 0 (fun _ h=>(h.blk 1 rfl).c2) ?_;refine tkb 2 (fun _ h=>(h.blk 0 rfl).c3) ?_;refine rcs 1 (HO.out _) ?_;clear hHeld;intro wk hb1 hHeld;replace HR:=Hd (HR.out.below hb1);clear hb1;refine rcs 3 (HH.out _ HR.out) ?_;clear hHeld;intro wk hb2 hHeld;replace HR:=Hd (HR.out.below hb2);clear hb2;refine tks 4 ?_;refine wpAnyH_done (by kernel_rfl) ?_ _;have LL:=Hd hHeld;clear hHeld;go_wp2
 go_ret
 exact⟨rfl,LL.out.b⟩
theorem kept_any(i j:Int)(K:Nat)(g2:Bool)(A2:Option Addr)(n2 c2:Nat)(B2:Option Addr)(m2 d2:Nat)(v:Rat)(w:World)(hi:-(M:Int)<=i/\i<=M)(hj:-(M:Int)<=j/\j<=M)(hv:Iv i j)(hr:RatW w K g2 (.slice A2 n2 c2) (.slice B2 m2 d2) v)(hK:34<=K)(hK2:K<=1073741824):
  Rt 37 #[Zg g2 A2 n2 c2 B2 m2 d2,Zf (pat i) (pat j)] (.bool (hd i j v)) w:=by
 have k:=fun W (h:RatW W K g2 (.slice A2 n2 c2) (.slice B2 m2 d2) v)=>holds_any (pat i) (pat j) K g2 A2 n2 c2 B2 m2 d2 v W (pat_lt hi.1 hi.2) (pat_lt hj.1 hj.2) h hK hK2;rw [rd_pat hv] at k
 exact kept_walk _ _ K _ _ _ _ _ _ _ _ v w k hr
theorem RatI.setsE{W W':World}{g:Bool}{A:Option Addr}{n c:Nat}{B:Option Addr}{d:Nat}{z:Int}{r:Nat}{t:TypeId}{cs:Array Value}{i:Nat}{vs:List Value}(h:RatI W g A n c B d z)(hb:Blk W r t cs)(hc:NoWd cs)(e:Go.Proofs.YthlmlmfebpjgdaaGreatDoor.sets W r i vs=W'):RatI W' g A n c B d z:=e ▸ h.sets hb hc i vs
theorem rounds_walk(K:Nat)(g:Bool)(A:Option Addr)(n c:Nat)(B:Option Addr)(m d:Nat)(away od lo:Bool)(h s Z:Int)(y:Rat)(w:World)
  (hI:∀ W,Below w.heap.size w W->Calls prog 46 #[Zg g A n c B m d] W (NewI W Z))(hZ:∀ g1 A1 n1 c1 B1 d1 W,RatI W g1 A1 n1 c1 B1 d1 Z->RatV W K g1 (.slice A1 n1 c1) (.slice B1 1 d1) (Z:Rat))
  (hO:∀ W,Calls prog 51 #[.int .i64 1] W (NewRatS W 1 1))(hA:∀ g1 A1 n1 c1 B1 d1 g2 A2 n2 c2 B2 m2 d2 W,RatI W g1 A1 n1 c1 B1 d1 Z->RatV W 1 g2 (.slice A2 n2 c2) (.slice B2 m2 d2) 1->Calls prog 35 #[Zg g1 A1 n1 c1 B1 1 d1,Zg g2 A2 n2 c2 B2 m2 d2] W (NewRatS W K ((Z:Rat)+1)))
  (hH:∀ W,Below w.heap.size w W->Rt 133 #[Zg g A n c B m d] (.int .i64 h) W)(hD:∀ g1 A1 n1 c1 B1 d1 W,RatI W g1 A1 n1 c1 B1 d1 Z->Rt 134 #[Zg g1 A1 n1 c1 B1 1 d1] (.bool od) W)(hS:∀ W,Below w.heap.size w W->Rt 42 #[Zg g A n c B m d] (.int .i64 s) W)
  (hc:(h=-1/\lo=true)\/(h=0/\away=false/\od=false/\lo=true)\/(h=0/\away=false/\od=true/\lo=false)\/(h=0/\away=true/\s=-1/\lo=true)\/(h=0/\away=true/\s=0/\lo=false)\/(h=0/\away=true/\s=1/\lo=false)\/(h=1/\lo=false))(hy1:lo=true->y=(Z:Rat))(hy0:lo=false->y=(Z:Rat)+1):
  Calls prog 58 #[Zg g A n c B m d,.bool away] w (NewRatS w K y):=by
 have HI:=Hd hI;have HZ:=Hd hZ;have HO:=Hd hO;have HA:=Hd hA;have HH:=Hd hH;have HD:=Hd hD;have HS:=Hd hS;have HC:=Hd hc;have HY1:=Hd hy1;have HY0:=Hd hy0;clear hI hZ hO hA hH hD hS hc hy1 hy0;have LL:=li2 w (Zr g A n c B m d) 42 (Zr false none 0 0 none 0 0) 42
 go_enter func58,ntmps58
 obtain⟨q1_0,q1_1,q1_2⟩:=(LL.out.blk 0 rfl).c3;go_wp2_with fail;refine (HI.out _ LL.out.b).mono ?_;rintro e wk ⟨g5,A5,n5,c5,B5,d5,rfl,hr5,hb⟩;replace LL:=stL LL hb;clear hb q1_0 q1_1 q1_2 HI;have HR5:=Hd hr5;clear hr5
 go_upto_region 2 with fail
 have hl_j5:=LL.out.lts;generalize hwn:World.alloc wk _=wn;replace HR5:=Hd (HR5.out.below (below_allocE hwn));replace LL:=Hd (LL.out.newE hwn)
 simp only [List.cons_append,List.nil_append] at LL
 simp only [List.mem_cons,List.not_mem_nil,or_false,forall_eq_or_imp,forall_eq,false_imp_iff,implies_true,and_true] at hl_j5
 clear hwn;generalize wk.heap.size=j5 at LL hl_j5 ⊢
 go_cut [6] from 10 to 12 (fun s6 wx=>∃ (j6:Nat) (g6:Bool) (A6:Option Addr) (n6 c6:Nat) (B6:Option Addr) (m6 d6:Nat),s6=.pointer (some ⟨j6,0,none⟩)/\(w.heap.size+1<j6/\j5<j6)/\Lies w wx [(w.heap.size,42,(Zr g A n c B m d)),((w.heap.size+1),42,(Zr false none 0 0 none 0 0)),(j5,42,(Zr g5 A5 n5 c5 B5 1 d5)),(j6,42,(Zr g6 A6 n6 c6 B6 m6 d6))] []/\RatI wx g5 A5 n5 c5 B5 d5 Z/\RatV wx K g6 (.slice A6 n6 c6) (.slice B6 m6 d6) ((Z:Rat)+1))
 case first=>
  refine regL LL (fun hHeld=>?_);clear LL;replace HR5:=Hd (HR5.out.below (Below.refl _ _).drew);generalize World.drew _=wk at hHeld HR5 ⊢;refine tkb 0 (fun _ h=>(h.blk 2 rfl).c3) ?_
  repeat' first
   | (have hx:=hC1;clear hx;go_simp;refine (HO.out _).mono ?_;rintro e wk ⟨g7,A7,n7,c7,B7,m7,d7,rfl,hr7,hb1⟩;go_wp2_with fail;refine hC1.out _ _ (hHeld.keep hb1) (fun _=>?_);clear hC1 KK hHeld;rename_i hHeld;(try simp only [Act.put,lay]);replace HR5:=Hd (HR5.out.below hb1);(try replace HR6:=Hd (HR6.out.below hb1));(try replace B_j6:=B_j6.keep hb1);have HR7:=Hd hr7;clear hr7;clear hb1;have mk1:=True.intro)
   | (have hx:=hC2;clear hx;go_simp;refine (HA.out _ _ _ _ _ _ _ _ _ _ _ _ _ _ HR5.out HR7.out).mono ?_;rintro e wk ⟨g6,A6,n6,c6,B6,m6,d6,rfl,hr6,hb2⟩;go_wp2_with fail;refine hC2.out _ _ (hHeld.keep hb2) (fun _=>?_);clear hC2 KK hHeld;rename_i hHeld;(try simp only [Act.put,lay]);replace HR5:=Hd (HR5.out.below hb2);(try replace HR7:=Hd (HR7.out.below hb2));(try replace B_j6:=B_j6.keep hb2);have HR6:=Hd hr6;clear hr6;clear hb2;have mk2:=True.intro)
   | (have hx:=hA3;clear hx;go_simp;have hl_j6:=hHeld.lts;refine hA3.out _ _ (hHeld.alloc _) (fun _=>?_);clear hA3 KK hHeld;rename_i hHeld;(try simp only [Act.put,lay]);generalize hwn:World.alloc wk _=wn at hHeld ⊢;have B_j6:=Blk.newE hwn;replace HR5:=Hd (HR5.out.below (below_allocE hwn));(try replace HR7:=Hd (HR7.out.below (below_allocE hwn)));(try replace HR6:=Hd (HR6.out.below (below_allocE hwn)));simp only [List.mem_cons,List.not_mem_nil,or_false,forall_eq_or_imp,forall_eq,false_imp_iff,implies_true,and_true] at hl_j6;clear hwn;generalize hg:wk.heap.size=j6 at B_j6 hl_j6 ⊢;clear hg;obtain⟨wk,rfl⟩:∃ X,X=wn:=⟨_,rfl⟩;have mk3:=True.intro)
   | (have hx:=hS4;clear hx;have qz0:=B_j6.ce 0 rfl;have fz0:=B_j6.frozen 0;have qz1:=B_j6.ce 1 rfl;have fz1:=B_j6.frozen 1;have qz2:=B_j6.ce 2 rfl;have fz2:=B_j6.frozen 2;go_simp;have hsx:=hHeld.far [.bool g6,.slice A6 n6 c6,.slice B6 m6 d6] 0 (g:=j6) (by omega) (by simp<;>omega) (by simp<;>omega);generalize hwn:sets wk j6 0 _=wn at hsx;refine hS4.out _ _ (by have e:=hwn;simp only [sets,Nat.reduceAdd] at e;rw [e];exact hsx) (fun _=>?_);clear hS4 KK hHeld hsx;rename_i hHeld;(try simp only [Act.put,lay]);replace HR5:=Hd (HR5.out.setsE B_j6 (nowd rfl) hwn);(try replace HR7:=Hd (HR7.out.dropE B_j6 (nowd rfl) hwn));(try replace HR6:=Hd (HR6.out.setsE B_j6 (nowd rfl) hwn));replace B_j6:=B_j6.setsE hwn;simp only [laid,lay,Nat.reduceAdd] at B_j6;simp only [sets,Nat.reduceAdd] at hwn;rw [hwn] at hHeld ⊢;clear hwn qz0 fz0 qz1 fz1 qz2 fz2;obtain⟨wk,rfl⟩:∃ X,X=wn:=⟨_,rfl⟩;have mk4:=True.intro)
   | (have hx:=mk1;have hx:=mk2;have hx:=mk3;have hx:=mk4;refine wpAnyH_done (by kernel_rfl) ?_ _;clear hx mk1 mk2 mk3 mk4;go_wp2_with fail;go_meet;exact⟨j6,g6,A6,n6,c6,B6,m6,d6,rfl,⟨by omega,by omega⟩,hHeld.put B_j6,HR5.out,HR6.out⟩)
   | (have hx:=mk1;have hx:=mk2;have hx:=mk3;refine rdy 4 (fun KK hS4=>?_))
   | (have hx:=mk1;have hx:=mk3;refine rdy 2 (fun KK hC2=>?_))
   | (have hx:=mk1;have hx:=mk2;refine rdy 3 (fun KK hA3=>?_))
   | (have hx:=mk3;refine rdy 1 (fun KK hC1=>?_))
   | (have hx:=mk1;refine rd2 2 3 (fun KK hC2=>?_) (fun KK hA3=>?_))
   | (refine rd2 1 3 (fun KK hC1=>?_) (fun KK hA3=>?_))
 case rest=>
 obtain⟨j6,g6,A6,n6,c6,B6,m6,d6,rfl,hgs,hcl,hr5,hr6⟩:=hcut;rename World=>wx;clear LL HO HA HR5;have LL:=Hd hcl;clear hcl;have HR5:=Hd hr5;clear hr5;have HR6:=Hd hr6;clear hr6;obtain⟨q2_0,q2_1,q2_2⟩:=(LL.out.blk 0 rfl).c3;go_wp2_with fail;refine cx (HH.out _ LL.out.b) fun wk hb=>?_;replace LL:=stL LL hb;replace HR5:=Hd (HR5.out.below hb);replace HR6:=Hd (HR6.out.below hb);clear hb q2_0 q2_1 q2_2 HH
 go_upto_region 4 with fail
 rcases HC.out with ⟨rfl,rfl⟩ | ⟨rfl,rfl,rfl,rfl⟩ | ⟨rfl,rfl,rfl,rfl⟩ | ⟨rfl,rfl,rfl,rfl⟩ | ⟨rfl,rfl,rfl,rfl⟩ | ⟨rfl,rfl,rfl,rfl⟩ | ⟨rfl,rfl⟩
 ·skip;clear HC
  obtain rfl:=HY1.out (by trivial)
  have HV:=Hd (HZ.out _ _ _ _ _ _ _ HR5.out);obtain⟨q3_0,q3_1,q3_2⟩:=(LL.out.blk 2 rfl).c3;replace LL:=Hd (LL.out.loose1 rfl);obtain⟨ha4_0,hf4_0,ha4_1,hf4_1,ha4_2,hf4_2⟩:=(LL.out.has 0 rfl).sf3;have LF:=Hd (LL.out.wr [.bool g5,.slice A5 n5 c5,.slice B5 1 d5]);obtain⟨hk4_0,hk4_1,hk4_2⟩:=(LF.out.blk 3 rfl).c3
  simp [sets] at hk4_0 hk4_1 hk4_2
  have FR:=Hd ((LL.out.has 0 rfl).rat HV.out [.bool g5,.slice A5 n5 c5,.slice B5 1 d5]);clear LL;go_wp2;refine bodyPost_ret (v:=Zg g5 A5 n5 c5 B5 1 d5) (by simp [results,results58,go_sem,hk4_0,hk4_1,hk4_2]) rfl ?_
  exact⟨g5,A5,n5,c5,B5,1,d5,rfl,FR.out,LF.out.b⟩
 ·skip;obtain⟨q3_0,q3_1,q3_2⟩:=(LL.out.blk 2 rfl).c3;go_wp2_with fail;refine cx (HD.out _ _ _ _ _ _ _ HR5.out) fun wk hb=>?_;replace LL:=stL LL hb;replace HR5:=Hd (HR5.out.below hb);replace HR6:=Hd (HR6.out.below hb);clear hb q3_0 q3_1 q3_2;clear HC
  obtain rfl:=HY1.out (by trivial)
  have HV:=Hd (HZ.out _ _ _ _ _ _ _ HR5.out);obtain⟨q4_0,q4_1,q4_2⟩:=(LL.out.blk 2 rfl).c3;replace LL:=Hd (LL.out.loose1 rfl);obtain⟨ha4_0,hf4_0,ha4_1,hf4_1,ha4_2,hf4_2⟩:=(LL.out.has 0 rfl).sf3;have LF:=Hd (LL.out.wr [.bool g5,.slice A5 n5 c5,.slice B5 1 d5]);obtain⟨hk4_0,hk4_1,hk4_2⟩:=(LF.out.blk 3 rfl).c3
  simp [sets] at hk4_0 hk4_1 hk4_2
  have FR:=Hd ((LL.out.has 0 rfl).rat HV.out [.bool g5,.slice A5 n5 c5,.slice B5 1 d5]);clear LL;go_wp2;refine bodyPost_ret (v:=Zg g5 A5 n5 c5 B5 1 d5) (by simp [results,results58,go_sem,hk4_0,hk4_1,hk4_2]) rfl ?_
  exact⟨g5,A5,n5,c5,B5,1,d5,rfl,FR.out,LF.out.b⟩
 ·skip;obtain⟨q3_0,q3_1,q3_2⟩:=(LL.out.blk 2 rfl).c3;go_wp2_with fail;refine cx (HD.out _ _ _ _ _ _ _ HR5.out) fun wk hb=>?_;replace LL:=stL LL hb;replace HR5:=Hd (HR5.out.below hb);replace HR6:=Hd (HR6.out.below hb);clear hb q3_0 q3_1 q3_2;clear HC
  obtain rfl:=HY0.out (by trivial)
  have HV:=HR6;obtain⟨q4_0,q4_1,q4_2⟩:=(LL.out.blk 3 rfl).c3;replace LL:=Hd (LL.out.loose1 rfl);obtain⟨ha4_0,hf4_0,ha4_1,hf4_1,ha4_2,hf4_2⟩:=(LL.out.has 0 rfl).sf3;have LF:=Hd (LL.out.wr [.bool g6,.slice A6 n6 c6,.slice B6 m6 d6]);obtain⟨hk4_0,hk4_1,hk4_2⟩:=(LF.out.blk 3 rfl).c3
  simp [sets] at hk4_0 hk4_1 hk4_2
  have FR:=Hd ((LL.out.has 0 rfl).rat HV.out [.bool g6,.slice A6 n6 c6,.slice B6 m6 d6]);clear LL;go_wp2;refine bodyPost_ret (v:=Zg g6 A6 n6 c6 B6 m6 d6) (by simp [results,results58,go_sem,hk4_0,hk4_1,hk4_2]) rfl ?_
  exact⟨g6,A6,n6,c6,B6,m6,d6,rfl,FR.out,LF.out.b⟩
 ·skip;obtain⟨q3_0,q3_1,q3_2⟩:=(LL.out.blk 0 rfl).c3;go_wp2_with fail;refine cx (HS.out _ LL.out.b) fun wk hb=>?_;replace LL:=stL LL hb;replace HR5:=Hd (HR5.out.below hb);replace HR6:=Hd (HR6.out.below hb);clear hb q3_0 q3_1 q3_2;clear HC
  obtain rfl:=HY1.out (by trivial)
  have HV:=Hd (HZ.out _ _ _ _ _ _ _ HR5.out);obtain⟨q4_0,q4_1,q4_2⟩:=(LL.out.blk 2 rfl).c3;replace LL:=Hd (LL.out.loose1 rfl);obtain⟨ha4_0,hf4_0,ha4_1,hf4_1,ha4_2,hf4_2⟩:=(LL.out.has 0 rfl).sf3;have LF:=Hd (LL.out.wr [.bool g5,.slice A5 n5 c5,.slice B5 1 d5]);obtain⟨hk4_0,hk4_1,hk4_2⟩:=(LF.out.blk 3 rfl).c3
  simp [sets] at hk4_0 hk4_1 hk4_2
  have FR:=Hd ((LL.out.has 0 rfl).rat HV.out [.bool g5,.slice A5 n5 c5,.slice B5 1 d5]);clear LL;go_wp2;refine bodyPost_ret (v:=Zg g5 A5 n5 c5 B5 1 d5) (by simp [results,results58,go_sem,hk4_0,hk4_1,hk4_2]) rfl ?_
  exact⟨g5,A5,n5,c5,B5,1,d5,rfl,FR.out,LF.out.b⟩
 ·skip;obtain⟨q3_0,q3_1,q3_2⟩:=(LL.out.blk 0 rfl).c3;go_wp2_with fail;refine cx (HS.out _ LL.out.b) fun wk hb=>?_;replace LL:=stL LL hb;replace HR5:=Hd (HR5.out.below hb);replace HR6:=Hd (HR6.out.below hb);clear hb q3_0 q3_1 q3_2;clear HC
  obtain rfl:=HY0.out (by trivial)
  have HV:=HR6;obtain⟨q4_0,q4_1,q4_2⟩:=(LL.out.blk 3 rfl).c3;replace LL:=Hd (LL.out.loose1 rfl);obtain⟨ha4_0,hf4_0,ha4_1,hf4_1,ha4_2,hf4_2⟩:=(LL.out.has 0 rfl).sf3;have LF:=Hd (LL.out.wr [.bool g6,.slice A6 n6 c6,.slice B6 m6 d6]);obtain⟨hk4_0,hk4_1,hk4_2⟩:=(LF.out.blk 3 rfl).c3
  simp [sets] at hk4_0 hk4_1 hk4_2
  have FR:=Hd ((LL.out.has 0 rfl).rat HV.out [.bool g6,.slice A6 n6 c6,.slice B6 m6 d6]);clear LL;go_wp2;refine bodyPost_ret (v:=Zg g6 A6 n6 c6 B6 m6 d6) (by simp [results,results58,go_sem,hk4_0,hk4_1,hk4_2]) rfl ?_
  exact⟨g6,A6,n6,c6,B6,m6,d6,rfl,FR.out,LF.out.b⟩
 ·skip;obtain⟨q3_0,q3_1,q3_2⟩:=(LL.out.blk 0 rfl).c3;go_wp2_with fail;refine cx (HS.out _ LL.out.b) fun wk hb=>?_;replace LL:=stL LL hb;replace HR5:=Hd (HR5.out.below hb);replace HR6:=Hd (HR6.out.below hb);clear hb q3_0 q3_1 q3_2;clear HC
  obtain rfl:=HY0.out (by trivial)
  have HV:=HR6;obtain⟨q4_0,q4_1,q4_2⟩:=(LL.out.blk 3 rfl).c3;replace LL:=Hd (LL.out.loose1 rfl);obtain⟨ha4_0,hf4_0,ha4_1,hf4_1,ha4_2,hf4_2⟩:=(LL.out.has 0 rfl).sf3;have LF:=Hd (LL.out.wr [.bool g6,.slice A6 n6 c6,.slice B6 m6 d6]);obtain⟨hk4_0,hk4_1,hk4_2⟩:=(LF.out.blk 3 rfl).c3
  simp [sets] at hk4_0 hk4_1 hk4_2
  have FR:=Hd ((LL.out.has 0 rfl).rat HV.out [.bool g6,.slice A6 n6 c6,.slice B6 m6 d6]);clear LL;go_wp2;refine bodyPost_ret (v:=Zg g6 A6 n6 c6 B6 m6 d6) (by simp [results,results58,go_sem,hk4_0,hk4_1,hk4_2]) rfl ?_
  exact⟨g6,A6,n6,c6,B6,m6,d6,rfl,FR.out,LF.out.b⟩
 ·skip;clear HC
  obtain rfl:=HY0.out (by trivial)
  have HV:=HR6;obtain⟨q3_0,q3_1,q3_2⟩:=(LL.out.blk 3 rfl).c3;replace LL:=Hd (LL.out.loose1 rfl);obtain⟨ha4_0,hf4_0,ha4_1,hf4_1,ha4_2,hf4_2⟩:=(LL.out.has 0 rfl).sf3;have LF:=Hd (LL.out.wr [.bool g6,.slice A6 n6 c6,.slice B6 m6 d6]);obtain⟨hk4_0,hk4_1,hk4_2⟩:=(LF.out.blk 3 rfl).c3
  simp [sets] at hk4_0 hk4_1 hk4_2
  have FR:=Hd ((LL.out.has 0 rfl).rat HV.out [.bool g6,.slice A6 n6 c6,.slice B6 m6 d6]);clear LL;go_wp2;refine bodyPost_ret (v:=Zg g6 A6 n6 c6 B6 m6 d6) (by simp [results,results58,go_sem,hk4_0,hk4_1,hk4_2]) rfl ?_
  exact⟨g6,A6,n6,c6,B6,m6,d6,rfl,FR.out,LF.out.b⟩
theorem rc_val(a b:Rat):(a<b->rc a b=-1)/\(a=b->rc a b=0)/\(b<a->rc a b=1):=by
 unfold rc;refine⟨fun h=>if_pos h,fun h=>?_,fun h=>?_⟩
 ·rw [if_neg (by grind),if_neg (by grind)]
 ·rw [if_neg (by grind),if_pos h]
theorem rsg_val(a:Rat):(a<0->rsg a=-1)/\(a=0->rsg a=0)/\(0<a->rsg a=1):=by
 unfold rsg;refine⟨fun h=>?_,fun h=>if_pos h,fun h=>?_⟩
 ·rw [if_neg (by grind),if_pos h]
 ·rw [if_neg (by grind),if_neg (by grind)]
theorem rounds_w(K:Nat)(g:Bool)(A:Option Addr)(n c:Nat)(B:Option Addr)(m d:Nat)(x:Rat)(away:Bool)(w:World)(h:RatW w K g (.slice A n c) (.slice B m d) x)(hK:K<=30000):
  Calls prog 58 #[Zg g A n c B m d,.bool away] w (NewRatS w (2*(K+1)+1) (rK (if away=true then 5 else 4) x:Rat)):=by
 have hf:=h.floor_abs;have f0:=Rat.floor_le x;have f1:=Rat.lt_floor_add_one x
 obtain⟨y,hy⟩:∃ y,(rK (if away=true then 5 else 4) x:Rat)=y:=⟨_,rfl⟩
 obtain⟨fr,hfr⟩:∃ t,x - x.floor=t:=⟨_,rfl⟩
 have rv:=rc_val ((x - x.floor)*2) 1;have sv:=rsg_val x
 have v4:rK 4 x=x.floor+if (1/2:Rat)<x - x.floor\/x - x.floor=1/2/\x.floor % 2=1 then 1 else 0:=rfl
 have v5:rK 5 x=x.floor+if (1/2:Rat)<x - x.floor\/x - x.floor=1/2/\0<=x then 1 else 0:=rfl
 rw [hfr] at rv v4 v5
 have low:∀ {P:Prop} [Decidable P],¬ P->((x.floor+if P then 1 else 0:Int):Rat)=(x.floor:Rat):=fun hp=>by rw [if_neg hp,Int.add_zero]
 have upp:∀ {P:Prop} [Decidable P],P->((x.floor+if P then 1 else 0:Int):Rat)=(x.floor:Rat)+1:=fun hp=>by rw [if_pos hp,Rat.intCast_add];rfl
 have key:∃ lo:Bool,((rc (fr*2) 1=-1/\lo=true)\/(rc (fr*2) 1=0/\away=false/\decide (x.floor % 2=1)=false/\lo=true)\/(rc (fr*2) 1=0/\away=false/\decide (x.floor % 2=1)=true/\lo=false)\/(rc (fr*2) 1=0/\away=true/\rsg x=-1/\lo=true)\/(rc (fr*2) 1=0/\away=true/\rsg x=0/\lo=false)\/(rc (fr*2) 1=0/\away=true/\rsg x=1/\lo=false)\/(rc (fr*2) 1=1/\lo=false))/\(lo=true->y=(x.floor:Rat))/\(lo=false->y=(x.floor:Rat)+1):=by
  by_cases a:fr*2<1
  ·refine⟨true,.inl ⟨rv.1 a,rfl⟩,fun _=>?_,fun e=>by cases e⟩;rw [<- hy]
   cases away
   ·show (rK 4 x:Rat)=_;rw [v4];exact low (by grind)
   ·show (rK 5 x:Rat)=_;rw [v5];exact low (by grind)
  ·by_cases b:fr*2=1
   ·have e:=rv.2.1 b
    have e2:fr=1/2:=by grind
    cases away
    ·by_cases o:x.floor % 2=1
     ·refine⟨false,.inr (.inr (.inl ⟨e,rfl,decide_eq_true o,rfl⟩)),fun e=>by (cases e),fun _=>?_⟩;rw [<- hy];show (rK 4 x:Rat)=_;rw [v4];exact upp (.inr ⟨e2,o⟩)
     ·refine⟨true,.inr (.inl ⟨e,rfl,decide_eq_false o,rfl⟩),fun _=>?_,fun e=>by (cases e)⟩;rw [<- hy];show (rK 4 x:Rat)=_;rw [v4];exact low (by grind)
    ·by_cases o:x<0
     ·refine⟨true,.inr (.inr (.inr (.inl ⟨e,rfl,sv.1 o,rfl⟩))),fun _=>?_,fun e=>by (cases e)⟩;rw [<- hy];show (rK 5 x:Rat)=_;rw [v5];exact low (by grind)
     ·by_cases o2:x=0
      ·refine⟨false,.inr (.inr (.inr (.inr (.inl ⟨e,rfl,sv.2.1 o2,rfl⟩)))),fun e=>by (cases e),fun _=>?_⟩;rw [<- hy];show (rK 5 x:Rat)=_;rw [v5];exact upp (.inr ⟨e2,by grind⟩)
      ·refine⟨false,.inr (.inr (.inr (.inr (.inr (.inl ⟨e,rfl,sv.2.2 (by grind),rfl⟩))))),fun e=>by (cases e),fun _=>?_⟩;rw [<- hy];show (rK 5 x:Rat)=_;rw [v5];exact upp (.inr ⟨e2,by grind⟩)
   ·refine⟨false,.inr (.inr (.inr (.inr (.inr (.inr ⟨rv.2.2 (by grind),rfl⟩))))),fun e=>by (cases e),fun _=>?_⟩;rw [<- hy]
    cases away
    ·show (rK 4 x:Rat)=_;rw [v4];exact upp (.inl (by grind))
    ·show (rK 5 x:Rat)=_;rw [v5];exact upp (.inl (by grind))
 obtain⟨lo,hc,y1,y0⟩:=key;rw [hy]
 refine rounds_walk _ g A n c B m d away _ lo _ _ _ y w (fun W hW=>integer_w K g A n c B m d x W (h.below hW) (by omega)) (fun g1 A1 n1 c1 B1 d1 W hr=>(hr.rat (by omega) hf).mono (by omega))
  (fun W=>(int_nat 1 W (by omega)).mono fun _ _ h=>h.s)
  (fun g1 A1 n1 c1 B1 d1 g2 A2 n2 c2 B2 m2 d2 W hr h2=>(radd_w (K+1) g1 _ _ _ g2 _ _ _ W (hr.rat (by omega) hf).w (h2.w.mono (by omega)) (by omega)).mono fun _ _ h=>h.s)
  (fun W hW=>half_w K g A n c B m d x W (h.below hW) (by omega)) (fun g1 A1 n1 c1 B1 d1 W hr=>oddl_any hr) (fun W hW=>rsign_w K g _ _ x W (h.below hW) (by omega)) ?_ y1 y0
 rw [hfr]
 exact hc
end Go.Proofs.YthlmlmfebpjgdaaGreatDoor
