/-
Walks: package rel, Intersect.
Walks: package rel, both, Intersect, of intervals that are not read yet.
-/
import Derived.Test.YtfcpabgampebaaaGreatM03
import Derived.Test.YtfcpabgampebaaaGreatPBothT
import Derived.Test.YtfcpabgampebaaaGreatPMinusT
import Derived.Deep.DeepCutAuto
set_option linter.unusedSimpArgs false
set_option linter.unusedVariables false
set_option maxHeartbeats 12800000
namespace Go.Proofs.YtfcpabgampebaaaGreat
open Go.RowKit
attribute [local go_sem] run_store_float run_eqf
theorem run_maxf{i j:Int}(h1:-(M:Int)≤i∧i≤M)(h2:-(M:Int)≤j∧j≤M)(W:World)(ts:Array TypeId)(t:TypeId):(Builtin.max_ ts t #[.float .f64 (pat i),.float .f64 (pat j)]).run Tryz.prog W=.ok (.float .f64 (pat (max i j))) W:=by
 have ho:=order_pat h1.1 h1.2 h2.1 h2.2
 have e:(Builtin.max_ ts t #[.float .f64 (pat i),.float .f64 (pat j)])=Builtin.max2 (.float .f64 (pat i)) (.float .f64 (pat j)):=by simp [Builtin.max_]
 rw [e];unfold Builtin.max2
 dsimp only
 rw [ho]
 rcases Int.lt_trichotomy i j with h | h | h
 ·rw [show compare i j=.lt from Int.compare_eq_lt.2 h,show max i j=j from by omega];rfl
 ·subst h;rw [show compare i i=.eq from Int.compare_eq_eq.2 rfl,show max i i=i from by omega]
  simp
 ·rw [show compare i j=.gt from Int.compare_eq_gt.2 h,show max i j=i from by omega];rfl
theorem run_minf{i j:Int}(h1:-(M:Int)≤i∧i≤M)(h2:-(M:Int)≤j∧j≤M)(W:World)(ts:Array TypeId)(t:TypeId):(Builtin.min_ ts t #[.float .f64 (pat i),.float .f64 (pat j)]).run Tryz.prog W=.ok (.float .f64 (pat (min i j))) W:=by
 have ho:=order_pat h1.1 h1.2 h2.1 h2.2
 have e:(Builtin.min_ ts t #[.float .f64 (pat i),.float .f64 (pat j)])=Builtin.min2 (.float .f64 (pat i)) (.float .f64 (pat j)):=by simp [Builtin.min_]
 rw [e];unfold Builtin.min2
 dsimp only
 rw [ho]
 rcases Int.lt_trichotomy i j with h | h | h
 ·rw [show compare i j=.lt from Int.compare_eq_lt.2 h,show min i j=i from by omega];rfl
 ·subst h;rw [show compare i i=.eq from Int.compare_eq_eq.2 rfl,show min i i=i from by omega]
  simp
 ·rw [show compare i j=.gt from Int.compare_eq_gt.2 h,show min i j=j from by omega];rfl
theorem em_idx{i j:Int}(h:Iv i j):Em (decide (j<i)) (pat i) (pat j):=by
 have hM:M=9218868437227405312:=rfl;have o1:=order_pat h.lo.1 h.lo.2 (show -(M:Int)≤(M:Int) by omega) (Int.le_refl _);have o2:=order_pat h.hi.1 h.hi.2 (Int.le_refl _) (show -(M:Int)≤(M:Int) by omega);rw [pat_max] at o1;rw [pat_min] at o2;unfold Iv at h;refine⟨fun e=>?_,fun e=>?_⟩
 ·have e:=of_decide_eq_true e;rw [o1,o2]
  exact⟨by rw [show compare i (M:Int)=.eq from Int.compare_eq_eq.2 (by omega)],by rw [show compare j (-(M:Int))=.eq from Int.compare_eq_eq.2 (by omega)]⟩
 ·have e:=of_decide_eq_false e;rw [o1,show compare i (M:Int)=.lt from Int.compare_eq_lt.2 (by omega)]
def it(i j i' j':Int):Int × Int:=if j<i∨j'<i'∨min j j'<max i i' then ((M:Int),-(M:Int)) else (max i i',min j j')
theorem it_iv{i j i' j':Int}(h:Iv i j)(h':Iv i' j'):Iv (it i j i' j').1 (it i j i' j').2:=by
 unfold it
 split
 ·exact Iv.none
 ·unfold Iv at *;rw [M_val] at *
  dsimp only
  omega
end Go.Proofs.YtfcpabgampebaaaGreat
namespace Go.Proofs.YtfcpabgampebaaaGreat
open Go.RowKit
attribute [local go_sem] run_store_float run_eqf
set_option maxRecDepth 8000 in
theorem both_gen(u1 u2 v1 v2 p1 p2 q1 q2:Nat)(a b:Bool)(w:World)(hx:∀ W,Calls Tryz.prog 71 #[.agg #[.float .f64 u1,.float .f64 u2]] W fun e w'=>e=.returned (.agg #[.float .f64 p1,.float .f64 p2])∧Below W.heap.size W w')(hy:∀ W,Calls Tryz.prog 71 #[.agg #[.float .f64 v1,.float .f64 v2]] W fun e w'=>e=.returned (.agg #[.float .f64 q1,.float .f64 q2])∧Below W.heap.size W w')(ha:Em a p1 p2)(hb:Em b q1 q2):
  Calls Tryz.prog 45 #[.agg #[.float .f64 u1,.float .f64 u2],.agg #[.float .f64 v1,.float .f64 v2]] w fun e w'=>e=.returned (.tuple #[.agg #[.float .f64 p1,.float .f64 p2],.agg #[.float .f64 q1,.float .f64 q2],.int .i64 ((if a then 1 else 0)+(if b then 2 else 0))])∧Below w.heap.size w w':=by
 have HE:=Hd emptyf
 have o01:bits .or .i64 0 1=1:=by decide
 have o02:bits .or .i64 0 2=2:=by decide
 have o12:bits .or .i64 1 2=3:=by decide
 have HX:=Hd hx;have HY:=Hd hy;have HA:=Hd ha;have HB:=Hd hb;clear hx hy ha hb;have LL:=li4 w #[.float .f64 u1,.float .f64 u2] 27 #[.float .f64 v1,.float .f64 v2] 27 #[.float .f64 0,.float .f64 0] 27 #[.float .f64 0,.float .f64 0] 27
 go_enter Tryz.func45,Tryz.ntmps45
 have PB2:=Hd (LL.out.blk 0 rfl);have PB3:=Hd (LL.out.blk 1 rfl)
 go_upto_region 1 with fail
 go_cut [7] (fun s7 wx=>s7=undef∧Lies w wx [((w.heap.size+2),27,#[.float .f64 0,.float .f64 0]),((w.heap.size+3),27,#[.float .f64 0,.float .f64 0]),((w.heap.size+1),27,#[.float .f64 q1,.float .f64 q2]),(w.heap.size,27,#[.float .f64 p1,.float .f64 p2])] [])
 case first=>
  replace LL:=Hd (LL.out.loose 0 rfl rfl)
  simp only [List.eraseIdx,List.size_toArray,List.length_cons,List.length_nil,Nat.zero_add,Nat.reduceAdd] at LL
  replace LL:=Hd (LL.out.loose 0 rfl rfl)
  simp only [List.eraseIdx,List.size_toArray,List.length_cons,List.length_nil,Nat.zero_add,Nat.reduceAdd] at LL
  refine regL LL (fun hHeld=>?_);clear LL
  obtain⟨wk,hwk⟩:∃ X,(((((w.alloc (.cells #[.float .f64 u1,.float .f64 u2] 27)).alloc (.cells #[.float .f64 v1,.float .f64 v2] 27)).alloc (.cells #[.float .f64 0,.float .f64 0] 27)).alloc (.cells #[.float .f64 0,.float .f64 0] 27))).drew=X:=⟨_,rfl⟩
  replace PB2:=Hd PB2.out.drew;replace PB3:=Hd PB3.out.drew;rw [hwk] at hHeld PB2 PB3 ⊢;clear hwk
  repeat' first
   | (have hx:=hR0;clear hx;have BXo:=PB2.out;obtain⟨qr0,qr1⟩:=BXo.c2;go_simp;refine hR0.out _ _ hHeld (fun _=>?_);clear hR0 KK hHeld BXo qr0 qr1;rename_i hHeld;(try simp only [Act.put,lay]);have mk0:=True.intro)
   | (have hx:=hC1;clear hx;go_simp;refine (HX.out _).mono ?_;rintro e wk ⟨rfl,hb1⟩;go_wp2_with fail;refine hC1.out _ _ (hHeld.keep hb1) (fun _=>?_);clear hC1 KK hHeld;rename_i hHeld;(try simp only [Act.put,lay]);(try replace PB2:=Hd (PB2.out.keep hb1));(try replace PB3:=Hd (PB3.out.keep hb1));clear hb1;have mk1:=True.intro)
   | (have hx:=hR2;clear hx;have BXo:=PB3.out;obtain⟨qr0,qr1⟩:=BXo.c2;go_simp;refine hR2.out _ _ hHeld (fun _=>?_);clear hR2 KK hHeld BXo qr0 qr1;rename_i hHeld;(try simp only [Act.put,lay]);have mk2:=True.intro)
   | (have hx:=hC3;clear hx;go_simp;refine (HY.out _).mono ?_;rintro e wk ⟨rfl,hb2⟩;go_wp2_with fail;refine hC3.out _ _ (hHeld.keep hb2) (fun _=>?_);clear hC3 KK hHeld;rename_i hHeld;(try simp only [Act.put,lay]);(try replace PB2:=Hd (PB2.out.keep hb2));(try replace PB3:=Hd (PB3.out.keep hb2));clear hb2;have mk3:=True.intro)
   | (have hx:=hS4;clear hx;obtain⟨ha0,hf0,ha1,hf1⟩:=(hHeld.has 1 rfl).sf2;obtain⟨csx,hbx,-,hcx⟩:=hHeld.has 1 rfl;(try clear PB2);(try clear PB3);clear hbx hcx;go_simp;have HS_1:=(hHeld.has 1 rfl).laid [.float .f64 p1,.float .f64 p2] rfl;refine hS4.out _ _ (hHeld.over 1 rfl [.float .f64 p1,.float .f64 p2] rfl rfl (by first | omega | exact hHeld.le_of 1 rfl) (by simp<;>omega) (by simp<;>omega)) (fun _=>?_);clear hS4 KK hHeld;rename_i hHeld;(try simp only [Act.put,lay]);(try replace HS_0:=HS_0.other (r:=w.heap.size) (by omega) 0 [.float .f64 p1,.float .f64 p2]);replace hHeld:=(show Lies _ (sets wk w.heap.size 0 [.float .f64 p1,.float .f64 p2]) _ _ from hHeld);obtain⟨wk,hwn⟩:∃ X,sets wk w.heap.size 0 [.float .f64 p1,.float .f64 p2]=X:=⟨_,rfl⟩;rw [hwn] at hHeld HS_1;(try rw [hwn] at HS_0);simp only [sets] at hwn;rw [hwn];clear hwn ha0 hf0 ha1 hf1;have mk4:=True.intro)
   | (have hx:=hS5;clear hx;obtain⟨ha0,hf0,ha1,hf1⟩:=(hHeld.has 0 rfl).sf2;obtain⟨csx,hbx,-,hcx⟩:=hHeld.has 0 rfl;(try clear PB2);(try clear PB3);clear hbx hcx;go_simp;have HS_0:=(hHeld.has 0 rfl).laid [.float .f64 q1,.float .f64 q2] rfl;refine hS5.out _ _ (hHeld.over 0 rfl [.float .f64 q1,.float .f64 q2] rfl rfl (by first | omega | exact hHeld.le_of 0 rfl) (by simp<;>omega) (by simp<;>omega)) (fun _=>?_);clear hS5 KK hHeld;rename_i hHeld;(try simp only [Act.put,lay]);(try replace HS_1:=HS_1.other (r:=(w.heap.size+1)) (by omega) 0 [.float .f64 q1,.float .f64 q2]);replace hHeld:=(show Lies _ (sets wk (w.heap.size+1) 0 [.float .f64 q1,.float .f64 q2]) _ _ from hHeld);obtain⟨wk,hwn⟩:∃ X,sets wk (w.heap.size+1) 0 [.float .f64 q1,.float .f64 q2]=X:=⟨_,rfl⟩;rw [hwn] at hHeld HS_0;(try rw [hwn] at HS_1);simp only [sets] at hwn;rw [hwn];clear hwn ha0 hf0 ha1 hf1;have mk5:=True.intro)
   | (have hx:=mk0;have hx:=mk1;have hx:=mk2;have hx:=mk3;have hx:=mk4;have hx:=mk5;refine wpAnyH_done (by kernel_rfl) ?_ _;clear hx mk0 mk1 mk2 mk3 mk4 mk5;go_wp2_with fail;go_meet;exact⟨rfl,(hHeld.tight HS_0).tight HS_1⟩)
   | (have hx:=mk0;have hx:=mk1;have hx:=mk2;have hx:=mk3;have hx:=mk4;refine rdy 5 (fun KK hS5=>?_))
   | (have hx:=mk0;have hx:=mk1;have hx:=mk2;have hx:=mk3;refine rdy 4 (fun KK hS4=>?_))
   | (have hx:=mk0;have hx:=mk1;have hx:=mk2;refine rdy 3 (fun KK hC3=>?_))
   | (have hx:=mk0;have hx:=mk2;refine rdy 1 (fun KK hC1=>?_))
   | (have hx:=mk0;have hx:=mk1;refine rdy 2 (fun KK hR2=>?_))
   | (have hx:=mk2;refine rdy 0 (fun KK hR0=>?_))
   | (have hx:=mk0;refine rd2 1 2 (fun KK hC1=>?_) (fun KK hR2=>?_))
   | (refine rd2 0 2 (fun KK hR0=>?_) (fun KK hR2=>?_))
 case rest=>
 obtain⟨rfl,hcl⟩:=hcut;rename World=>wx;clear LL HX HY PB2 PB3;have LL:=Hd hcl;clear hcl;obtain⟨ha1,ha2⟩:=HA.out;obtain⟨hb1,hb2⟩:=HB.out;clear HA HB
 cases a<;>cases b
 ·skip;have e1:=ha2 rfl;have e3:=hb2 rfl;clear ha1 ha2 hb1 hb2;have E3:=Hd e3;clear e3;go_wp2_with fail;refine regL LL (fun hHeld=>?_);clear LL
  obtain⟨wk,hwk⟩:∃ X,(wx).drew=X:=⟨_,rfl⟩
  rw [hwk] at hHeld  ⊢;clear hwk;refine tk 0 ?_ (hv:=by intro W2 hSw;obtain⟨q0,q1⟩:=(hSw.blk 3 rfl).c2;go_simp;(try with_reducible rfl));(try simp only [Act.put,lay]);refine rdy 1 (fun KK hKK=>?_);go_simp;refine (HE.out _).mono ?_;rintro e wk ⟨rfl,hb1⟩;go_wp2_with fail;refine hKK.out _ _ (hHeld.keep hb1) (fun _=>?_);clear hKK KK hHeld;rename_i hHeld;(try simp only [Act.put,lay]);clear hb1;refine tk 2 ?_;(try simp only [Act.put,lay]);refine wpAnyH_done (by kernel_rfl) ?_ _;have LL:=Hd hHeld;clear hHeld;have e3:=E3.out;go_wp2_with fail;refine regL LL (fun hHeld=>?_);clear LL
  obtain⟨wk,hwk⟩:∃ X,(wk).drew=X:=⟨_,rfl⟩
  rw [hwk] at hHeld  ⊢;clear hwk;refine tk 0 ?_ (hv:=by intro W2 hSw;obtain⟨q0,q1⟩:=(hSw.blk 2 rfl).c2;go_simp;(try with_reducible rfl));(try simp only [Act.put,lay]);refine rdy 1 (fun KK hKK=>?_);go_simp;refine (HE.out _).mono ?_;rintro e wk ⟨rfl,hb1⟩;go_wp2_with fail;refine hKK.out _ _ (hHeld.keep hb1) (fun _=>?_);clear hKK KK hHeld;rename_i hHeld;(try simp only [Act.put,lay]);clear hb1;refine tk 2 ?_;(try simp only [Act.put,lay]);refine wpAnyH_done (by kernel_rfl) ?_ _;have LL:=Hd hHeld;clear hHeld;clear e1;go_wp2_with fail;clear e3;replace LL:=Hd (LL.out.loose 0 rfl rfl)
  simp only [List.eraseIdx,List.size_toArray,List.length_cons,List.length_nil,Nat.zero_add,Nat.reduceAdd] at LL
  replace LL:=Hd (LL.out.loose 0 rfl rfl)
  simp only [List.eraseIdx,List.size_toArray,List.length_cons,List.length_nil,Nat.zero_add,Nat.reduceAdd] at LL
  refine regL LL (fun hHeld=>?_);clear LL
  obtain⟨wk,hwk⟩:∃ X,(wk).drew=X:=⟨_,rfl⟩
  rw [hwk] at hHeld  ⊢;clear hwk;refine tk 0 ?_ (hv:=by intro W2 hSw;obtain⟨q0,q1⟩:=(hSw.blk 1 rfl).c2;go_simp;(try with_reducible rfl));(try simp only [Act.put,lay]);refine tk 1 ?_ (hv:=by intro W2 hSw;obtain⟨q0,q1⟩:=(hSw.blk 0 rfl).c2;go_simp;(try with_reducible rfl));(try simp only [Act.put,lay]);refine tk 2 ?_;(try simp only [Act.put,lay]);refine rdy 3 (fun KK hKK=>?_);obtain⟨ha0,hf0,ha1,hf1⟩:=(hHeld.has 1 rfl).sf2;go_simp;have HS_1:=(hHeld.has 1 rfl).laid [.float .f64 p1,.float .f64 p2] rfl;refine hKK.out _ _ (hHeld.over 1 rfl [.float .f64 p1,.float .f64 p2] rfl rfl (by first | omega | exact hHeld.le_of 1 rfl) (by simp<;>omega) (by simp<;>omega)) (fun _=>?_);clear hKK KK hHeld;rename_i hHeld;(try simp only [Act.put,lay])
  replace hHeld:=(show Lies _ (sets wk (w.heap.size+2) 0 [.float .f64 p1,.float .f64 p2]) _ _ from hHeld)
  obtain⟨wk,hwn⟩:∃ X,sets wk (w.heap.size+2) 0 [.float .f64 p1,.float .f64 p2]=X:=⟨_,rfl⟩
  rw [hwn] at hHeld  HS_1
  simp only [sets] at hwn
  rw [hwn];clear hwn;refine rdy 4 (fun KK hKK=>?_);obtain⟨ha0,hf0,ha1,hf1⟩:=(hHeld.has 0 rfl).sf2;go_simp;have HS_0:=(hHeld.has 0 rfl).laid [.float .f64 q1,.float .f64 q2] rfl;refine hKK.out _ _ (hHeld.over 0 rfl [.float .f64 q1,.float .f64 q2] rfl rfl (by first | omega | exact hHeld.le_of 0 rfl) (by simp<;>omega) (by simp<;>omega)) (fun _=>?_);clear hKK KK hHeld;rename_i hHeld;(try simp only [Act.put,lay]);replace HS_1:=HS_1.other (r:=(w.heap.size+3)) (by omega) 0 [.float .f64 q1,.float .f64 q2];refine tk 5 ?_;(try simp only [Act.put,lay]);refine wpAnyH_done (by kernel_rfl) ?_ _;have LB:=Hd hHeld.b;clear hHeld;obtain⟨hk4_0,hk4_1⟩:=HS_1.c2;clear HS_1;obtain⟨hk5_0,hk5_1⟩:=HS_0.c2;clear HS_0
  simp [sets] at hk4_0 hk4_1 hk5_0 hk5_1
  go_wp2;refine bodyPost_ret (v:=.tuple #[.agg #[.float .f64 p1,.float .f64 p2],.agg #[.float .f64 q1,.float .f64 q2],.int .i64 0]) (by simp [results,Tryz.results45,go_sem,hk4_0,hk4_1,hk5_0,hk5_1]) rfl ?_
  exact⟨rfl,LB.out⟩
 ·skip;have e1:=ha2 rfl;obtain⟨e3,e4⟩:=hb1 rfl;clear ha1 ha2 hb1 hb2;have E3:=Hd e3;have E4:=Hd e4;clear e3 e4;go_wp2_with fail;refine regL LL (fun hHeld=>?_);clear LL
  obtain⟨wk,hwk⟩:∃ X,(wx).drew=X:=⟨_,rfl⟩
  rw [hwk] at hHeld  ⊢;clear hwk;refine tk 0 ?_ (hv:=by intro W2 hSw;obtain⟨q0,q1⟩:=(hSw.blk 3 rfl).c2;go_simp;(try with_reducible rfl));(try simp only [Act.put,lay]);refine rdy 1 (fun KK hKK=>?_);go_simp;refine (HE.out _).mono ?_;rintro e wk ⟨rfl,hb1⟩;go_wp2_with fail;refine hKK.out _ _ (hHeld.keep hb1) (fun _=>?_);clear hKK KK hHeld;rename_i hHeld;(try simp only [Act.put,lay]);clear hb1;refine tk 2 ?_;(try simp only [Act.put,lay]);refine wpAnyH_done (by kernel_rfl) ?_ _;have LL:=Hd hHeld;clear hHeld;have e3:=E3.out;have e4:=E4.out;go_wp2_with fail;refine regL LL (fun hHeld=>?_);clear LL
  obtain⟨wk,hwk⟩:∃ X,(wk).drew=X:=⟨_,rfl⟩
  rw [hwk] at hHeld  ⊢;clear hwk;refine tk 0 ?_ (hv:=by intro W2 hSw;obtain⟨q0,q1⟩:=(hSw.blk 2 rfl).c2;go_simp;(try with_reducible rfl));(try simp only [Act.put,lay]);refine rdy 1 (fun KK hKK=>?_);go_simp;refine (HE.out _).mono ?_;rintro e wk ⟨rfl,hb1⟩;go_wp2_with fail;refine hKK.out _ _ (hHeld.keep hb1) (fun _=>?_);clear hKK KK hHeld;rename_i hHeld;(try simp only [Act.put,lay]);clear hb1;refine tk 2 ?_;(try simp only [Act.put,lay]);refine wpAnyH_done (by kernel_rfl) ?_ _;have LL:=Hd hHeld;clear hHeld;clear e1;go_wp2_with fail;clear e3 e4;replace LL:=Hd (LL.out.loose 0 rfl rfl)
  simp only [List.eraseIdx,List.size_toArray,List.length_cons,List.length_nil,Nat.zero_add,Nat.reduceAdd] at LL
  replace LL:=Hd (LL.out.loose 0 rfl rfl)
  simp only [List.eraseIdx,List.size_toArray,List.length_cons,List.length_nil,Nat.zero_add,Nat.reduceAdd] at LL
  refine regL LL (fun hHeld=>?_);clear LL
  obtain⟨wk,hwk⟩:∃ X,(wk).drew=X:=⟨_,rfl⟩
  rw [hwk] at hHeld  ⊢;clear hwk;refine tk 0 ?_ (hv:=by intro W2 hSw;obtain⟨q0,q1⟩:=(hSw.blk 1 rfl).c2;go_simp;(try with_reducible rfl));(try simp only [Act.put,lay]);refine tk 1 ?_ (hv:=by intro W2 hSw;obtain⟨q0,q1⟩:=(hSw.blk 0 rfl).c2;go_simp;(try with_reducible rfl));(try simp only [Act.put,lay]);refine tk 2 ?_;(try simp only [Act.put,lay]);refine rdy 3 (fun KK hKK=>?_);obtain⟨ha0,hf0,ha1,hf1⟩:=(hHeld.has 1 rfl).sf2;go_simp;have HS_1:=(hHeld.has 1 rfl).laid [.float .f64 p1,.float .f64 p2] rfl;refine hKK.out _ _ (hHeld.over 1 rfl [.float .f64 p1,.float .f64 p2] rfl rfl (by first | omega | exact hHeld.le_of 1 rfl) (by simp<;>omega) (by simp<;>omega)) (fun _=>?_);clear hKK KK hHeld;rename_i hHeld;(try simp only [Act.put,lay])
  replace hHeld:=(show Lies _ (sets wk (w.heap.size+2) 0 [.float .f64 p1,.float .f64 p2]) _ _ from hHeld)
  obtain⟨wk,hwn⟩:∃ X,sets wk (w.heap.size+2) 0 [.float .f64 p1,.float .f64 p2]=X:=⟨_,rfl⟩
  rw [hwn] at hHeld  HS_1
  simp only [sets] at hwn
  rw [hwn];clear hwn;refine rdy 4 (fun KK hKK=>?_);obtain⟨ha0,hf0,ha1,hf1⟩:=(hHeld.has 0 rfl).sf2;go_simp;have HS_0:=(hHeld.has 0 rfl).laid [.float .f64 q1,.float .f64 q2] rfl;refine hKK.out _ _ (hHeld.over 0 rfl [.float .f64 q1,.float .f64 q2] rfl rfl (by first | omega | exact hHeld.le_of 0 rfl) (by simp<;>omega) (by simp<;>omega)) (fun _=>?_);clear hKK KK hHeld;rename_i hHeld;(try simp only [Act.put,lay]);replace HS_1:=HS_1.other (r:=(w.heap.size+3)) (by omega) 0 [.float .f64 q1,.float .f64 q2];refine tk 5 ?_;(try simp only [Act.put,lay]);refine wpAnyH_done (by kernel_rfl) ?_ _;have LB:=Hd hHeld.b;clear hHeld;obtain⟨hk4_0,hk4_1⟩:=HS_1.c2;clear HS_1;obtain⟨hk5_0,hk5_1⟩:=HS_0.c2;clear HS_0
  simp [sets] at hk4_0 hk4_1 hk5_0 hk5_1
  go_wp2;refine bodyPost_ret (v:=.tuple #[.agg #[.float .f64 p1,.float .f64 p2],.agg #[.float .f64 q1,.float .f64 q2],.int .i64 2]) (by simp [results,Tryz.results45,go_sem,hk4_0,hk4_1,hk5_0,hk5_1]) rfl ?_
  exact⟨rfl,LB.out⟩
 ·skip;obtain⟨e1,e2⟩:=ha1 rfl;have e3:=hb2 rfl;clear ha1 ha2 hb1 hb2;have E3:=Hd e3;clear e3;go_wp2_with fail;refine regL LL (fun hHeld=>?_);clear LL
  obtain⟨wk,hwk⟩:∃ X,(wx).drew=X:=⟨_,rfl⟩
  rw [hwk] at hHeld  ⊢;clear hwk;refine tk 0 ?_ (hv:=by intro W2 hSw;obtain⟨q0,q1⟩:=(hSw.blk 3 rfl).c2;go_simp;(try with_reducible rfl));(try simp only [Act.put,lay]);refine rdy 1 (fun KK hKK=>?_);go_simp;refine (HE.out _).mono ?_;rintro e wk ⟨rfl,hb1⟩;go_wp2_with fail;refine hKK.out _ _ (hHeld.keep hb1) (fun _=>?_);clear hKK KK hHeld;rename_i hHeld;(try simp only [Act.put,lay]);clear hb1;refine tk 2 ?_;(try simp only [Act.put,lay]);refine wpAnyH_done (by kernel_rfl) ?_ _;have LL:=Hd hHeld;clear hHeld;have e3:=E3.out;go_wp2_with fail;refine regL LL (fun hHeld=>?_);clear LL
  obtain⟨wk,hwk⟩:∃ X,(wk).drew=X:=⟨_,rfl⟩
  rw [hwk] at hHeld  ⊢;clear hwk;refine tk 0 ?_ (hv:=by intro W2 hSw;obtain⟨q0,q1⟩:=(hSw.blk 2 rfl).c2;go_simp;(try with_reducible rfl));(try simp only [Act.put,lay]);refine rdy 1 (fun KK hKK=>?_);go_simp;refine (HE.out _).mono ?_;rintro e wk ⟨rfl,hb1⟩;go_wp2_with fail;refine hKK.out _ _ (hHeld.keep hb1) (fun _=>?_);clear hKK KK hHeld;rename_i hHeld;(try simp only [Act.put,lay]);clear hb1;refine tk 2 ?_;(try simp only [Act.put,lay]);refine wpAnyH_done (by kernel_rfl) ?_ _;have LL:=Hd hHeld;clear hHeld;clear e1 e2;go_wp2_with fail;clear e3;replace LL:=Hd (LL.out.loose 0 rfl rfl)
  simp only [List.eraseIdx,List.size_toArray,List.length_cons,List.length_nil,Nat.zero_add,Nat.reduceAdd] at LL
  replace LL:=Hd (LL.out.loose 0 rfl rfl)
  simp only [List.eraseIdx,List.size_toArray,List.length_cons,List.length_nil,Nat.zero_add,Nat.reduceAdd] at LL
  refine regL LL (fun hHeld=>?_);clear LL
  obtain⟨wk,hwk⟩:∃ X,(wk).drew=X:=⟨_,rfl⟩
  rw [hwk] at hHeld  ⊢;clear hwk;refine tk 0 ?_ (hv:=by intro W2 hSw;obtain⟨q0,q1⟩:=(hSw.blk 1 rfl).c2;go_simp;(try with_reducible rfl));(try simp only [Act.put,lay]);refine tk 1 ?_ (hv:=by intro W2 hSw;obtain⟨q0,q1⟩:=(hSw.blk 0 rfl).c2;go_simp;(try with_reducible rfl));(try simp only [Act.put,lay]);refine tk 2 ?_;(try simp only [Act.put,lay]);refine rdy 3 (fun KK hKK=>?_);obtain⟨ha0,hf0,ha1,hf1⟩:=(hHeld.has 1 rfl).sf2;go_simp;have HS_1:=(hHeld.has 1 rfl).laid [.float .f64 p1,.float .f64 p2] rfl;refine hKK.out _ _ (hHeld.over 1 rfl [.float .f64 p1,.float .f64 p2] rfl rfl (by first | omega | exact hHeld.le_of 1 rfl) (by simp<;>omega) (by simp<;>omega)) (fun _=>?_);clear hKK KK hHeld;rename_i hHeld;(try simp only [Act.put,lay])
  replace hHeld:=(show Lies _ (sets wk (w.heap.size+2) 0 [.float .f64 p1,.float .f64 p2]) _ _ from hHeld)
  obtain⟨wk,hwn⟩:∃ X,sets wk (w.heap.size+2) 0 [.float .f64 p1,.float .f64 p2]=X:=⟨_,rfl⟩
  rw [hwn] at hHeld  HS_1
  simp only [sets] at hwn
  rw [hwn];clear hwn;refine rdy 4 (fun KK hKK=>?_);obtain⟨ha0,hf0,ha1,hf1⟩:=(hHeld.has 0 rfl).sf2;go_simp;have HS_0:=(hHeld.has 0 rfl).laid [.float .f64 q1,.float .f64 q2] rfl;refine hKK.out _ _ (hHeld.over 0 rfl [.float .f64 q1,.float .f64 q2] rfl rfl (by first | omega | exact hHeld.le_of 0 rfl) (by simp<;>omega) (by simp<;>omega)) (fun _=>?_);clear hKK KK hHeld;rename_i hHeld;(try simp only [Act.put,lay]);replace HS_1:=HS_1.other (r:=(w.heap.size+3)) (by omega) 0 [.float .f64 q1,.float .f64 q2];refine tk 5 ?_;(try simp only [Act.put,lay]);refine wpAnyH_done (by kernel_rfl) ?_ _;have LB:=Hd hHeld.b;clear hHeld;obtain⟨hk4_0,hk4_1⟩:=HS_1.c2;clear HS_1;obtain⟨hk5_0,hk5_1⟩:=HS_0.c2;clear HS_0
  simp [sets] at hk4_0 hk4_1 hk5_0 hk5_1
  go_wp2;refine bodyPost_ret (v:=.tuple #[.agg #[.float .f64 p1,.float .f64 p2],.agg #[.float .f64 q1,.float .f64 q2],.int .i64 1]) (by simp [results,Tryz.results45,go_sem,hk4_0,hk4_1,hk5_0,hk5_1]) rfl ?_
  exact⟨rfl,LB.out⟩
 ·skip;obtain⟨e1,e2⟩:=ha1 rfl;obtain⟨e3,e4⟩:=hb1 rfl;clear ha1 ha2 hb1 hb2;have E3:=Hd e3;have E4:=Hd e4;clear e3 e4;go_wp2_with fail;refine regL LL (fun hHeld=>?_);clear LL
  obtain⟨wk,hwk⟩:∃ X,(wx).drew=X:=⟨_,rfl⟩
  rw [hwk] at hHeld  ⊢;clear hwk;refine tk 0 ?_ (hv:=by intro W2 hSw;obtain⟨q0,q1⟩:=(hSw.blk 3 rfl).c2;go_simp;(try with_reducible rfl));(try simp only [Act.put,lay]);refine rdy 1 (fun KK hKK=>?_);go_simp;refine (HE.out _).mono ?_;rintro e wk ⟨rfl,hb1⟩;go_wp2_with fail;refine hKK.out _ _ (hHeld.keep hb1) (fun _=>?_);clear hKK KK hHeld;rename_i hHeld;(try simp only [Act.put,lay]);clear hb1;refine tk 2 ?_;(try simp only [Act.put,lay]);refine wpAnyH_done (by kernel_rfl) ?_ _;have LL:=Hd hHeld;clear hHeld;have e3:=E3.out;have e4:=E4.out;go_wp2_with fail;refine regL LL (fun hHeld=>?_);clear LL
  obtain⟨wk,hwk⟩:∃ X,(wk).drew=X:=⟨_,rfl⟩
  rw [hwk] at hHeld  ⊢;clear hwk;refine tk 0 ?_ (hv:=by intro W2 hSw;obtain⟨q0,q1⟩:=(hSw.blk 2 rfl).c2;go_simp;(try with_reducible rfl));(try simp only [Act.put,lay]);refine rdy 1 (fun KK hKK=>?_);go_simp;refine (HE.out _).mono ?_;rintro e wk ⟨rfl,hb1⟩;go_wp2_with fail;refine hKK.out _ _ (hHeld.keep hb1) (fun _=>?_);clear hKK KK hHeld;rename_i hHeld;(try simp only [Act.put,lay]);clear hb1;refine tk 2 ?_;(try simp only [Act.put,lay]);refine wpAnyH_done (by kernel_rfl) ?_ _;have LL:=Hd hHeld;clear hHeld;clear e1 e2;go_wp2_with fail;clear e3 e4;replace LL:=Hd (LL.out.loose 0 rfl rfl)
  simp only [List.eraseIdx,List.size_toArray,List.length_cons,List.length_nil,Nat.zero_add,Nat.reduceAdd] at LL
  replace LL:=Hd (LL.out.loose 0 rfl rfl)
  simp only [List.eraseIdx,List.size_toArray,List.length_cons,List.length_nil,Nat.zero_add,Nat.reduceAdd] at LL
  refine regL LL (fun hHeld=>?_);clear LL
  obtain⟨wk,hwk⟩:∃ X,(wk).drew=X:=⟨_,rfl⟩
  rw [hwk] at hHeld  ⊢;clear hwk;refine tk 0 ?_ (hv:=by intro W2 hSw;obtain⟨q0,q1⟩:=(hSw.blk 1 rfl).c2;go_simp;(try with_reducible rfl));(try simp only [Act.put,lay]);refine tk 1 ?_ (hv:=by intro W2 hSw;obtain⟨q0,q1⟩:=(hSw.blk 0 rfl).c2;go_simp;(try with_reducible rfl));(try simp only [Act.put,lay]);refine tk 2 ?_;(try simp only [Act.put,lay]);refine rdy 3 (fun KK hKK=>?_);obtain⟨ha0,hf0,ha1,hf1⟩:=(hHeld.has 1 rfl).sf2;go_simp;have HS_1:=(hHeld.has 1 rfl).laid [.float .f64 p1,.float .f64 p2] rfl;refine hKK.out _ _ (hHeld.over 1 rfl [.float .f64 p1,.float .f64 p2] rfl rfl (by first | omega | exact hHeld.le_of 1 rfl) (by simp<;>omega) (by simp<;>omega)) (fun _=>?_);clear hKK KK hHeld;rename_i hHeld;(try simp only [Act.put,lay])
  replace hHeld:=(show Lies _ (sets wk (w.heap.size+2) 0 [.float .f64 p1,.float .f64 p2]) _ _ from hHeld)
  obtain⟨wk,hwn⟩:∃ X,sets wk (w.heap.size+2) 0 [.float .f64 p1,.float .f64 p2]=X:=⟨_,rfl⟩
  rw [hwn] at hHeld  HS_1
  simp only [sets] at hwn
  rw [hwn];clear hwn;refine rdy 4 (fun KK hKK=>?_);obtain⟨ha0,hf0,ha1,hf1⟩:=(hHeld.has 0 rfl).sf2;go_simp;have HS_0:=(hHeld.has 0 rfl).laid [.float .f64 q1,.float .f64 q2] rfl;refine hKK.out _ _ (hHeld.over 0 rfl [.float .f64 q1,.float .f64 q2] rfl rfl (by first | omega | exact hHeld.le_of 0 rfl) (by simp<;>omega) (by simp<;>omega)) (fun _=>?_);clear hKK KK hHeld;rename_i hHeld;(try simp only [Act.put,lay]);replace HS_1:=HS_1.other (r:=(w.heap.size+3)) (by omega) 0 [.float .f64 q1,.float .f64 q2];refine tk 5 ?_;(try simp only [Act.put,lay]);refine wpAnyH_done (by kernel_rfl) ?_ _;have LB:=Hd hHeld.b;clear hHeld;obtain⟨hk4_0,hk4_1⟩:=HS_1.c2;clear HS_1;obtain⟨hk5_0,hk5_1⟩:=HS_0.c2;clear HS_0
  simp [sets] at hk4_0 hk4_1 hk5_0 hk5_1
  go_wp2;refine bodyPost_ret (v:=.tuple #[.agg #[.float .f64 p1,.float .f64 p2],.agg #[.float .f64 q1,.float .f64 q2],.int .i64 3]) (by simp [results,Tryz.results45,go_sem,hk4_0,hk4_1,hk5_0,hk5_1]) rfl ?_
  exact⟨rfl,LB.out⟩
set_option maxRecDepth 8000 in
theorem inter_in(u1 u2 v1 v2 p1 p2 q1 q2 m1 m2:Nat)(kk:Int)(w:World)(hB:∀ W,Calls Tryz.prog 45 #[.agg #[.float .f64 u1,.float .f64 u2],.agg #[.float .f64 v1,.float .f64 v2]] W fun e w'=>e=.returned (.tuple #[.agg #[.float .f64 p1,.float .f64 p2],.agg #[.float .f64 q1,.float .f64 q2],.int .i64 kk])∧Below W.heap.size W w')
  (hmx:∀ W ts t,(Builtin.max_ ts t #[.float .f64 p1,.float .f64 q1]).run Tryz.prog W=.ok (.float .f64 m1) W)(hmn:∀ W ts t,(Builtin.min_ ts t #[.float .f64 p2,.float .f64 q2]).run Tryz.prog W=.ok (.float .f64 m2) W)(hk:kk=0)(ho:(FloatKind.f64.format.order m1 m2 == some Ordering.gt)=false):
  Calls Tryz.prog 20 #[.agg #[.float .f64 u1,.float .f64 u2],.agg #[.float .f64 v1,.float .f64 v2]] w fun e w'=>e=.returned (.agg #[.float .f64 m1,.float .f64 m2])∧Below w.heap.size w w':=by
 have HB:=Hd hB;have HMX:=Hd hmx;have HMN:=Hd hmn;have HO:=Hd ho;clear hB hmx hmn ho;subst hk;have LL:=li3 w #[.float .f64 u1,.float .f64 u2] 27 #[.float .f64 v1,.float .f64 v2] 27 #[.float .f64 0,.float .f64 0] 27
 go_enter Tryz.func20,Tryz.ntmps20
 obtain⟨q1_0,q1_1⟩:=(LL.out.blk 0 rfl).c2;obtain⟨q2_0,q2_1⟩:=(LL.out.blk 1 rfl).c2;go_wp2_with fail;refine (HB.out _).mono ?_;rintro e wk ⟨rfl,hb⟩;replace LL:=stL LL hb;clear hb q1_0 q1_1 q2_0 q2_1;obtain⟨q3_0,q3_1⟩:=(LL.out.blk 0 rfl).c2;obtain⟨q4_0,q4_1⟩:=(LL.out.blk 1 rfl).c2;have fz2_0:=(LL.out.blk 0 rfl).frozen 0;have fz2_1:=(LL.out.blk 0 rfl).frozen 1;have fz3_0:=(LL.out.blk 1 rfl).frozen 0;have fz3_1:=(LL.out.blk 1 rfl).frozen 1
 go_upto_region 2 with fail
 clear q3_0 q3_1 q4_0 q4_1 fz2_0 fz2_1 fz3_0 fz3_1;replace LL:=Hd (LL.out.part 0 rfl 0 [.float .f64 p1,.float .f64 p2] (by omega) (by simp<;>omega) (by simp<;>omega))
 simp only [List.eraseIdx,laid,List.cons_append,List.nil_append,List.setIfInBounds_toArray,List.set_cons_zero,List.set_cons_succ,Nat.zero_add,Nat.reduceAdd] at LL
 replace LL:=Hd (LL.out.part 0 rfl 0 [.float .f64 q1,.float .f64 q2] (by omega) (by simp<;>omega) (by simp<;>omega))
 simp only [List.eraseIdx,laid,List.cons_append,List.nil_append,List.setIfInBounds_toArray,List.set_cons_zero,List.set_cons_succ,Nat.zero_add,Nat.reduceAdd] at LL
 obtain⟨wn,hwn⟩:∃ X,(sets (sets wk w.heap.size 0 [.float .f64 p1,.float .f64 p2]) (w.heap.size+1) 0 [.float .f64 q1,.float .f64 q2])=X:=⟨_,rfl⟩
 rw [hwn] at LL
 simp only [sets,Nat.reduceAdd] at hwn
 rw [hwn];clear hwn;obtain⟨q5_0,q5_1⟩:=(LL.out.blk 1 rfl).c2;obtain⟨q6_0,q6_1⟩:=(LL.out.blk 2 rfl).c2;have hmx:=HMX.out;have hmn:=HMN.out
 go_upto_region 3 with fail
 clear hmx hmn q5_0 q5_1 q6_0 q6_1;obtain⟨j6,hg,hb_j6,hl_j6,hr_j6,-⟩:=LL.out.fresh 27 #[.float .f64 m1,.float .f64 m2]
 simp only [List.mem_cons,List.not_mem_nil,or_false,forall_eq_or_imp,forall_eq,false_imp_iff,implies_true] at hl_j6 hr_j6
 replace LL:=Hd (LL.out.new 27 #[.float .f64 m1,.float .f64 m2])
 simp only [List.cons_append,List.nil_append] at LL
 rw [hg] at LL ⊢;clear hg
 obtain⟨wn,hwn⟩:∃ X,wn.alloc (.cells #[.float .f64 m1,.float .f64 m2] 27)=X:=⟨_,rfl⟩
 rw [hwn] at LL  ⊢;clear hwn;obtain⟨q7_0,q7_1⟩:=(LL.out.blk 3 rfl).c2;have ho:=HO.out;replace LL:=Hd (LL.out.loose 0 rfl rfl)
 simp only [List.eraseIdx,List.size_toArray,List.length_cons,List.length_nil,Nat.zero_add,Nat.reduceAdd] at LL
 obtain⟨ha4_0,hf4_0,ha4_1,hf4_1⟩:=(LL.out.has 0 rfl).sf2;have LF:=Hd (LL.out.write [.float .f64 m1,.float .f64 m2] rfl (by omega) (by simp<;>omega) (by simp<;>omega));obtain⟨hk4_0,hk4_1⟩:=(LF.out.blk 3 rfl).c2
 simp [sets] at hk4_0 hk4_1
 clear LL;go_wp2;refine bodyPost_ret (v:=.agg #[.float .f64 m1,.float .f64 m2]) (by simp [results,Tryz.results20,go_sem,hk4_0,hk4_1]) rfl ?_
 exact⟨rfl,LF.out.b⟩
set_option maxRecDepth 8000 in
theorem inter_out(u1 u2 v1 v2 p1 p2 q1 q2 m1 m2:Nat)(kk:Int)(w:World)(hB:∀ W,Calls Tryz.prog 45 #[.agg #[.float .f64 u1,.float .f64 u2],.agg #[.float .f64 v1,.float .f64 v2]] W fun e w'=>e=.returned (.tuple #[.agg #[.float .f64 p1,.float .f64 p2],.agg #[.float .f64 q1,.float .f64 q2],.int .i64 kk])∧Below W.heap.size W w')
  (hmx:∀ W ts t,(Builtin.max_ ts t #[.float .f64 p1,.float .f64 q1]).run Tryz.prog W=.ok (.float .f64 m1) W)(hmn:∀ W ts t,(Builtin.min_ ts t #[.float .f64 p2,.float .f64 q2]).run Tryz.prog W=.ok (.float .f64 m2) W)(hk:kk≠0∨kk=0∧FloatKind.f64.format.order m1 m2=some Ordering.gt):
  Calls Tryz.prog 20 #[.agg #[.float .f64 u1,.float .f64 u2],.agg #[.float .f64 v1,.float .f64 v2]] w fun e w'=>e=.returned (.agg #[.float .f64 9218868437227405312,.float .f64 18442240474082181120])∧Below w.heap.size w w':=by
 have HB:=Hd hB;have HMX:=Hd hmx;have HMN:=Hd hmn;clear hB hmx hmn;have HE:=Hd emptyf
 rcases hk with hk | ⟨rfl,ho⟩
 ·skip;have LL:=li3 w #[.float .f64 u1,.float .f64 u2] 27 #[.float .f64 v1,.float .f64 v2] 27 #[.float .f64 0,.float .f64 0] 27;have HO:=Hd hk;clear hk
  go_enter Tryz.func20,Tryz.ntmps20
  obtain⟨q1_0,q1_1⟩:=(LL.out.blk 0 rfl).c2;obtain⟨q2_0,q2_1⟩:=(LL.out.blk 1 rfl).c2;go_wp2_with fail;refine (HB.out _).mono ?_;rintro e wk ⟨rfl,hb⟩;replace LL:=stL LL hb;clear hb q1_0 q1_1 q2_0 q2_1;obtain⟨q3_0,q3_1⟩:=(LL.out.blk 0 rfl).c2;obtain⟨q4_0,q4_1⟩:=(LL.out.blk 1 rfl).c2;have fz2_0:=(LL.out.blk 0 rfl).frozen 0;have fz2_1:=(LL.out.blk 0 rfl).frozen 1;have fz3_0:=(LL.out.blk 1 rfl).frozen 0;have fz3_1:=(LL.out.blk 1 rfl).frozen 1
  go_upto_region 2 with fail
  clear q3_0 q3_1 q4_0 q4_1 fz2_0 fz2_1 fz3_0 fz3_1;replace LL:=Hd (LL.out.part 0 rfl 0 [.float .f64 p1,.float .f64 p2] (by omega) (by simp<;>omega) (by simp<;>omega))
  simp only [List.eraseIdx,laid,List.cons_append,List.nil_append,List.setIfInBounds_toArray,List.set_cons_zero,List.set_cons_succ,Nat.zero_add,Nat.reduceAdd] at LL
  replace LL:=Hd (LL.out.part 0 rfl 0 [.float .f64 q1,.float .f64 q2] (by omega) (by simp<;>omega) (by simp<;>omega))
  simp only [List.eraseIdx,laid,List.cons_append,List.nil_append,List.setIfInBounds_toArray,List.set_cons_zero,List.set_cons_succ,Nat.zero_add,Nat.reduceAdd] at LL
  obtain⟨wn,hwn⟩:∃ X,(sets (sets wk w.heap.size 0 [.float .f64 p1,.float .f64 p2]) (w.heap.size+1) 0 [.float .f64 q1,.float .f64 q2])=X:=⟨_,rfl⟩
  rw [hwn] at LL
  simp only [sets,Nat.reduceAdd] at hwn
  rw [hwn];clear hwn;obtain⟨q5_0,q5_1⟩:=(LL.out.blk 1 rfl).c2;obtain⟨q6_0,q6_1⟩:=(LL.out.blk 2 rfl).c2;have hmx:=HMX.out;have hmn:=HMN.out
  go_upto_region 3 with fail
  clear hmx hmn q5_0 q5_1 q6_0 q6_1;obtain⟨j6,hg,hb_j6,hl_j6,hr_j6,-⟩:=LL.out.fresh 27 #[.float .f64 m1,.float .f64 m2]
  simp only [List.mem_cons,List.not_mem_nil,or_false,forall_eq_or_imp,forall_eq,false_imp_iff,implies_true] at hl_j6 hr_j6
  replace LL:=Hd (LL.out.new 27 #[.float .f64 m1,.float .f64 m2])
  simp only [List.cons_append,List.nil_append] at LL
  rw [hg] at LL ⊢;clear hg
  obtain⟨wn,hwn⟩:∃ X,wn.alloc (.cells #[.float .f64 m1,.float .f64 m2] 27)=X:=⟨_,rfl⟩
  rw [hwn] at LL  ⊢;clear hwn;have hk:=HO.out;obtain⟨q7_0,q7_1⟩:=(LL.out.blk 3 rfl).c2;go_wp2_with fail;refine (HE.out _).mono ?_;rintro e wk ⟨rfl,hb⟩;replace LL:=stL LL hb;clear hb q7_0 q7_1 hk;replace LL:=Hd (LL.out.loose 0 rfl rfl)
  simp only [List.eraseIdx,List.size_toArray,List.length_cons,List.length_nil,Nat.zero_add,Nat.reduceAdd] at LL
  obtain⟨ha4_0,hf4_0,ha4_1,hf4_1⟩:=(LL.out.has 0 rfl).sf2;have LF:=Hd (LL.out.write [.float .f64 9218868437227405312,.float .f64 18442240474082181120] rfl (by omega) (by simp<;>omega) (by simp<;>omega));obtain⟨hk4_0,hk4_1⟩:=(LF.out.blk 3 rfl).c2
  simp [sets] at hk4_0 hk4_1
  clear LL;go_wp2;refine bodyPost_ret (v:=.agg #[.float .f64 9218868437227405312,.float .f64 18442240474082181120]) (by simp [results,Tryz.results20,go_sem,hk4_0,hk4_1]) rfl ?_
  exact⟨rfl,LF.out.b⟩
 ·skip;have LL:=li3 w #[.float .f64 u1,.float .f64 u2] 27 #[.float .f64 v1,.float .f64 v2] 27 #[.float .f64 0,.float .f64 0] 27;have HO:=Hd ho;clear ho
  go_enter Tryz.func20,Tryz.ntmps20
  obtain⟨q1_0,q1_1⟩:=(LL.out.blk 0 rfl).c2;obtain⟨q2_0,q2_1⟩:=(LL.out.blk 1 rfl).c2;go_wp2_with fail;refine (HB.out _).mono ?_;rintro e wk ⟨rfl,hb⟩;replace LL:=stL LL hb;clear hb q1_0 q1_1 q2_0 q2_1;obtain⟨q3_0,q3_1⟩:=(LL.out.blk 0 rfl).c2;obtain⟨q4_0,q4_1⟩:=(LL.out.blk 1 rfl).c2;have fz2_0:=(LL.out.blk 0 rfl).frozen 0;have fz2_1:=(LL.out.blk 0 rfl).frozen 1;have fz3_0:=(LL.out.blk 1 rfl).frozen 0;have fz3_1:=(LL.out.blk 1 rfl).frozen 1
  go_upto_region 2 with fail
  clear q3_0 q3_1 q4_0 q4_1 fz2_0 fz2_1 fz3_0 fz3_1;replace LL:=Hd (LL.out.part 0 rfl 0 [.float .f64 p1,.float .f64 p2] (by omega) (by simp<;>omega) (by simp<;>omega))
  simp only [List.eraseIdx,laid,List.cons_append,List.nil_append,List.setIfInBounds_toArray,List.set_cons_zero,List.set_cons_succ,Nat.zero_add,Nat.reduceAdd] at LL
  replace LL:=Hd (LL.out.part 0 rfl 0 [.float .f64 q1,.float .f64 q2] (by omega) (by simp<;>omega) (by simp<;>omega))
  simp only [List.eraseIdx,laid,List.cons_append,List.nil_append,List.setIfInBounds_toArray,List.set_cons_zero,List.set_cons_succ,Nat.zero_add,Nat.reduceAdd] at LL
  obtain⟨wn,hwn⟩:∃ X,(sets (sets wk w.heap.size 0 [.float .f64 p1,.float .f64 p2]) (w.heap.size+1) 0 [.float .f64 q1,.float .f64 q2])=X:=⟨_,rfl⟩
  rw [hwn] at LL
  simp only [sets,Nat.reduceAdd] at hwn
  rw [hwn];clear hwn;obtain⟨q5_0,q5_1⟩:=(LL.out.blk 1 rfl).c2;obtain⟨q6_0,q6_1⟩:=(LL.out.blk 2 rfl).c2;have hmx:=HMX.out;have hmn:=HMN.out
  go_upto_region 3 with fail
  clear hmx hmn q5_0 q5_1 q6_0 q6_1;obtain⟨j6,hg,hb_j6,hl_j6,hr_j6,-⟩:=LL.out.fresh 27 #[.float .f64 m1,.float .f64 m2]
  simp only [List.mem_cons,List.not_mem_nil,or_false,forall_eq_or_imp,forall_eq,false_imp_iff,implies_true] at hl_j6 hr_j6
  replace LL:=Hd (LL.out.new 27 #[.float .f64 m1,.float .f64 m2])
  simp only [List.cons_append,List.nil_append] at LL
  rw [hg] at LL ⊢;clear hg
  obtain⟨wn,hwn⟩:∃ X,wn.alloc (.cells #[.float .f64 m1,.float .f64 m2] 27)=X:=⟨_,rfl⟩
  rw [hwn] at LL  ⊢;clear hwn;have ho:=HO.out;obtain⟨q7_0,q7_1⟩:=(LL.out.blk 3 rfl).c2;go_wp2_with fail;refine (HE.out _).mono ?_;rintro e wk ⟨rfl,hb⟩;replace LL:=stL LL hb;clear hb q7_0 q7_1 ho;replace LL:=Hd (LL.out.loose 0 rfl rfl)
  simp only [List.eraseIdx,List.size_toArray,List.length_cons,List.length_nil,Nat.zero_add,Nat.reduceAdd] at LL
  obtain⟨ha4_0,hf4_0,ha4_1,hf4_1⟩:=(LL.out.has 0 rfl).sf2;have LF:=Hd (LL.out.write [.float .f64 9218868437227405312,.float .f64 18442240474082181120] rfl (by omega) (by simp<;>omega) (by simp<;>omega));obtain⟨hk4_0,hk4_1⟩:=(LF.out.blk 3 rfl).c2
  simp [sets] at hk4_0 hk4_1
  clear LL;go_wp2;refine bodyPost_ret (v:=.agg #[.float .f64 9218868437227405312,.float .f64 18442240474082181120]) (by simp [results,Tryz.results20,go_sem,hk4_0,hk4_1]) rfl ?_
  exact⟨rfl,LF.out.b⟩
theorem inter_gen(i j i' j':Int)(u1 u2 v1 v2:Nat)(w:World)(h:Iv i j)(h':Iv i' j')(r1:∀ W,Calls Tryz.prog 71 #[.agg #[.float .f64 u1,.float .f64 u2]] W fun e w'=>e=.returned (.agg #[.float .f64 (pat i),.float .f64 (pat j)])∧Below W.heap.size W w')
  (r2:∀ W,Calls Tryz.prog 71 #[.agg #[.float .f64 v1,.float .f64 v2]] W fun e w'=>e=.returned (.agg #[.float .f64 (pat i'),.float .f64 (pat j')])∧Below W.heap.size W w'):
  Calls Tryz.prog 20 #[.agg #[.float .f64 u1,.float .f64 u2],.agg #[.float .f64 v1,.float .f64 v2]] w fun e w'=>e=.returned (.agg #[.float .f64 (pat (it i j i' j').1),.float .f64 (pat (it i j i' j').2)])∧Below w.heap.size w w':=by
 have HB:=fun W=>both_gen u1 u2 v1 v2 (pat i) (pat j) (pat i') (pat j') _ _ W r1 r2 (em_idx h) (em_idx h');have hmx:=fun W ts t=>run_maxf h.lo h'.lo W ts t;have hmn:=fun W ts t=>run_minf h.hi h'.hi W ts t
 have bz1:-(M:Int)≤max i i'∧max i i'≤M:=by have:=h.lo;have:=h'.lo;omega
 have bz2:-(M:Int)≤min j j'∧min j j'≤M:=by have:=h.hi;have:=h'.hi;omega
 have ho:=order_pat bz1.1 bz1.2 bz2.1 bz2.2;unfold it
 by_cases hc:j<i∨j'<i'∨min j j'<max i i'
 ·rw [if_pos hc,pat_max,pat_min];refine inter_out _ _ _ _ _ _ _ _ _ _ _ w HB hmx hmn ?_
  by_cases c:j<i∨j'<i'
  ·refine .inl ?_
   rcases c with c | c
   ·rw [decide_eq_true c];cases decide (j'<i')<;>decide
   ·rw [decide_eq_true c];cases decide (j<i)<;>decide
  ·refine .inr ⟨?_,?_⟩
   ·rw [decide_eq_false (show ¬ j<i by omega),decide_eq_false (show ¬ j'<i' by omega)];rfl
   ·rw [ho,Int.compare_eq_gt.2 (by omega)]
 ·rw [if_neg hc];refine inter_in _ _ _ _ _ _ _ _ _ _ _ w HB hmx hmn ?_ ?_
  ·rw [decide_eq_false (show ¬ j<i by omega),decide_eq_false (show ¬ j'<i' by omega)];rfl
  ·rw [ho]
   rcases Int.lt_or_eq_of_le (show max i i'≤min j j' by omega) with k | k
   ·rw [Int.compare_eq_lt.2 k];rfl
   ·rw [Int.compare_eq_eq.2 k];rfl
end Go.Proofs.YtfcpabgampebaaaGreat
