/-
Lemmas for the statement: AbT SqT NmulT NpowT Irt.
-/
import Derived.Test.YthlmlmfebpjgdaaGreatDoorPAddT
import Derived.Test.YthlmlmfebpjgdaaGreatDoorM14
import Derived.Test.YthlmlmfebpjgdaaGreatDoorPPairT
import Derived.Test.YthlmlmfebpjgdaaGreatDoorPMinusT
import Derived.Deep.DeepCutAuto
import Derived.Test.YthlmlmfebpjgdaaGreatDoorPNwT
import Derived.Test.YthlmlmfebpjgdaaGreatDoorM01
import Derived.Test.YthlmlmfebpjgdaaGreatDoorPBothT
import Derived.Test.YthlmlmfebpjgdaaGreatDoorM11
import Derived.Lib.RabinKarpLaws
set_option linter.unusedSimpArgs false
set_option linter.unusedVariables false
set_option maxHeartbeats 12800000
namespace Go.Proofs.YthlmlmfebpjgdaaGreatDoor
section
open Go.RowKit
attribute [local go_sem] run_store_float
attribute [local go_sem] run_negf
set_option maxRecDepth 8000 in
theorem turned_walk(b1 b2 r1 r2:Nat)(w:World)(h1:∀ W,Rt 191 #[.float .f64 (Op.negFloat .f64 b2)] (.float .f64 r1) W)(h2:∀ W,Rt 191 #[.float .f64 (Op.negFloat .f64 b1)] (.float .f64 r2) W):
  Rt 173 #[.agg #[.float .f64 b1,.float .f64 b2]] (.agg #[.float .f64 r1,.float .f64 r2]) w:=by
 have H1:=Hd h1;have H2:=Hd h2;clear h1 h2;have LL:=li2 w #[.float .f64 b1,.float .f64 b2] 78 #[.float .f64 0,.float .f64 0] 78
 go_enter Tryz.func173,Tryz.ntmps173
 go_wp2_with fail;replace LL:=Hd (LL.out.loose1 rfl);refine regL LL (fun hHeld=>?_);clear LL;generalize World.drew _=wk at hHeld  ⊢;refine tks 0 ?_;refine tkb 1 (fun _ h=>(h.blk 0 rfl).c2) ?_;refine tks 2 ?_;refine tks 4 ?_;refine tkb 5 (fun _ h=>(h.blk 0 rfl).c2) ?_;refine tks 6 ?_;refine rdy 3 (fun KK hKK=>?_);go_simp;refine cs (H1.out _) ?_;clear hKK KK hHeld;intro wk hb1 hHeld;clear hb1;refine rdy 7 (fun KK hKK=>?_);go_simp;refine cs (H2.out _) ?_;clear hKK KK hHeld;intro wk hb2 hHeld;clear hb2;refine tks 8 ?_;refine rdy 9 (fun KK hKK=>?_);obtain⟨ha0,hf0,ha1,hf1⟩:=(hHeld.has 0 rfl).sf2;go_simp;have HS_0:=(hHeld.has 0 rfl).laid [.float .f64 r1,.float .f64 r2] rfl;refine hKK.out _ _ (hHeld.over 0 rfl [.float .f64 r1,.float .f64 r2] rfl rfl (by first | omega | exact hHeld.le_of 0 rfl) (by simp<;>omega) (by simp<;>omega)) (fun _=>?_);clear hKK KK hHeld;rename_i hHeld;(try simp only [Act.put,lay]);refine wpAnyH_done (by kernel_rfl) ?_ _;have LB:=Hd hHeld.b;clear hHeld;obtain⟨hk2_0,hk2_1⟩:=HS_0.c2;clear HS_0
 simp [sets] at hk2_0 hk2_1
 go_wp2;refine bodyPost_ret (v:=.agg #[.float .f64 r1,.float .f64 r2]) (by simp [results,Tryz.results173,go_sem,hk2_0,hk2_1]) rfl ?_
 exact⟨rfl,LB.out⟩
theorem turned_idx(k l:Int)(w:World)(hk:-(M:Int)<=k/\k<=M)(hl:-(M:Int)<=l/\l<=M):Rt 173 #[.agg #[.float .f64 (pat k),.float .f64 (pat l)]] (.agg #[.float .f64 (pat (-l)),.float .f64 (pat (-k))]) w:=by
 have n1:=negFloat_val (pat_lt hk.1 hk.2);have n2:=negFloat_val (pat_lt hl.1 hl.2);rw [idx_pat hk.1 hk.2,rung_pat hk.1 hk.2] at n1;rw [idx_pat hl.1 hl.2,rung_pat hl.1 hl.2] at n2;have p1:=fun W=>fplainf _ W n1.1 (by omega);have p2:=fun W=>fplainf _ W n2.1 (by omega);rw [n1.2.2] at p1;rw [n2.2.2] at p2
 exact turned_walk _ _ _ _ w (fun W=>(p2 W).mono fun e w' h=>⟨h.1,h.2 ▸ Below.refl _ _⟩) (fun W=>(p1 W).mono fun e w' h=>⟨h.1,h.2 ▸ Below.refl _ _⟩)
set_option maxRecDepth 8000 in
theorem twice_walk(x1 x2 p1 p2 q1 q2 s1 s2 t1 t2 l1 l2 u1 u2 r1 r2:Nat)(op:Bool)(w:World)(hc1:∀ W,Rt 77 #[.agg #[.float .f64 x1,.float .f64 x2],.agg #[.float .f64 p1,.float .f64 p2],.agg #[.float .f64 q1,.float .f64 q2],.bool op] (.agg #[.float .f64 l1,.float .f64 l2]) W)(ht1:∀ W,Rt 173 #[.agg #[.float .f64 q1,.float .f64 q2]] (.agg #[.float .f64 t1,.float .f64 t2]) W)(ht2:∀ W,Rt 173 #[.agg #[.float .f64 p1,.float .f64 p2]] (.agg #[.float .f64 s1,.float .f64 s2]) W)(hc2:∀ W,Rt 77 #[.agg #[.float .f64 x1,.float .f64 x2],.agg #[.float .f64 t1,.float .f64 t2],.agg #[.float .f64 s1,.float .f64 s2],.bool op] (.agg #[.float .f64 u1,.float .f64 u2]) W)
  (hu:∀ W,Rt 63 #[.agg #[.float .f64 l1,.float .f64 l2],.agg #[.float .f64 u1,.float .f64 u2]] (.agg #[.float .f64 r1,.float .f64 r2]) W):
  Rt 104 #[.agg #[.float .f64 x1,.float .f64 x2],.agg #[.float .f64 p1,.float .f64 p2],.agg #[.float .f64 q1,.float .f64 q2],.bool op] (.agg #[.float .f64 r1,.float .f64 r2]) w:=by
 have HC1:=Hd hc1;have HT1:=Hd ht1;have HT2:=Hd ht2;have HC2:=Hd hc2;have HU:=Hd hu;clear hc1 ht1 ht2 hc2 hu;have LL:=li4 w #[.float .f64 x1,.float .f64 x2] 28 #[.float .f64 p1,.float .f64 p2] 78 #[.float .f64 q1,.float .f64 q2] 78 #[.float .f64 0,.float .f64 0] 28
 go_enter Tryz.func104,Tryz.ntmps104
 go_wp2_with fail;replace LL:=Hd (LL.out.loose3 rfl);refine regL LL (fun hHeld=>?_);clear LL;generalize World.drew _=wk at hHeld  ⊢;refine tkb 0 (fun _ h=>(h.blk 0 rfl).c2) ?_;refine tkb 1 (fun _ h=>(h.blk 1 rfl).c2) ?_;refine tkb 2 (fun _ h=>(h.blk 2 rfl).c2) ?_;refine tks 3 ?_;refine tkb 5 (fun _ h=>(h.blk 0 rfl).c2) ?_;refine tkb 6 (fun _ h=>(h.blk 2 rfl).c2) ?_;refine tkb 8 (fun _ h=>(h.blk 1 rfl).c2) ?_;refine tks 10 ?_;refine rdy 4 (fun KK hKK=>?_);go_simp;refine cs (HC1.out _) ?_;clear hKK KK hHeld;intro wk hb1 hHeld;clear hb1;refine rdy 7 (fun KK hKK=>?_);go_simp;refine cs (HT1.out _) ?_;clear hKK KK hHeld;intro wk hb2 hHeld;clear hb2;refine rdy 9 (fun KK hKK=>?_);go_simp;refine cs (HT2.out _) ?_;clear hKK KK hHeld;intro wk hb3 hHeld;clear hb3;refine rdy 11 (fun KK hKK=>?_);go_simp;refine cs (HC2.out _) ?_;clear hKK KK hHeld;intro wk hb4 hHeld;clear hb4;refine rdy 12 (fun KK hKK=>?_);go_simp;refine cs (HU.out _) ?_;clear hKK KK hHeld;intro wk hb5 hHeld;clear hb5;refine rdy 13 (fun KK hKK=>?_);obtain⟨ha0,hf0,ha1,hf1⟩:=(hHeld.has 0 rfl).sf2;go_simp;have HS_0:=(hHeld.has 0 rfl).laid [.float .f64 r1,.float .f64 r2] rfl;refine hKK.out _ _ (hHeld.over 0 rfl [.float .f64 r1,.float .f64 r2] rfl rfl (by first | omega | exact hHeld.le_of 0 rfl) (by simp<;>omega) (by simp<;>omega)) (fun _=>?_);clear hKK KK hHeld;rename_i hHeld;(try simp only [Act.put,lay]);refine wpAnyH_done (by kernel_rfl) ?_ _;have LB:=Hd hHeld.b;clear hHeld;obtain⟨hk8_0,hk8_1⟩:=HS_0.c2;clear HS_0
 simp [sets] at hk8_0 hk8_1
 go_wp2;refine bodyPost_ret (v:=.agg #[.float .f64 r1,.float .f64 r2]) (by simp [results,Tryz.results104,go_sem,hk8_0,hk8_1]) rfl ?_
 exact⟨rfl,LB.out⟩
set_option maxRecDepth 8000 in
theorem absrev_none(b1 b2 c1 c2 A1 A2 x1 x2:Nat)(d1 d2:Bool)(w:World)(t1:∀ W,Rt 102 #[.agg #[.float .f64 b1,.float .f64 b2]] (.agg #[.float .f64 A1,.float .f64 A2]) W)(m1:Em d1 A1 A2)(t2:∀ W,Rt 102 #[.agg #[.float .f64 c1,.float .f64 c2]] (.agg #[.float .f64 x1,.float .f64 x2]) W)(m2:Em d2 x1 x2)(hnn:(d1 || d2)=true):
  Rt 50 #[.agg #[.float .f64 b1,.float .f64 b2],.agg #[.float .f64 c1,.float .f64 c2]] (.agg #[.float .f64 9218868437227405312,.float .f64 18442240474082181120]) w:=by
 have HE:=Hd emptyf;have HRD:=readL32 w #[.float .f64 0,.float .f64 0] 28 t1 m1 t2 m2 hnn;clear t1 m1 t2 m2 hnn
 go_enter Tryz.func50,Tryz.ntmps50
 go_wp2_with fail;refine HRD.out.mono ?_;rintro e wk ⟨rfl,hl⟩;have LL:=Hd hl;clear hl HRD;go_wp2_with fail;refine cx (HE.out _) fun wk hb=>?_;replace LL:=stL LL hb;clear hb;replace LL:=Hd (LL.out.loose2 rfl);obtain⟨ha4_0,hf4_0,ha4_1,hf4_1⟩:=(LL.out.has 0 rfl).sf2;have LF:=Hd (LL.out.write [.float .f64 9218868437227405312,.float .f64 18442240474082181120] rfl (by omega) (by simp<;>omega) (by simp<;>omega));obtain⟨hk4_0,hk4_1⟩:=(LF.out.blk 2 rfl).c2
 simp [sets] at hk4_0 hk4_1
 clear LL;go_wp2;refine bodyPost_ret (v:=.agg #[.float .f64 9218868437227405312,.float .f64 18442240474082181120]) (by simp [results,Tryz.results50,go_sem,hk4_0,hk4_1]) rfl ?_
 exact⟨rfl,LF.out.b⟩
set_option maxRecDepth 8000 in
theorem absrev_neg(b1 b2 c1 c2 A1 A2 x1 x2:Nat)(d1 d2:Bool)(w:World)(t1:∀ W,Rt 102 #[.agg #[.float .f64 b1,.float .f64 b2]] (.agg #[.float .f64 A1,.float .f64 A2]) W)(m1:Em d1 A1 A2)(t2:∀ W,Rt 102 #[.agg #[.float .f64 c1,.float .f64 c2]] (.agg #[.float .f64 x1,.float .f64 x2]) W)(m2:Em d2 x1 x2)(hnn:(d1 || d2)=false)(ho:FloatKind.f64.format.order A2 0=some .lt):
  Rt 50 #[.agg #[.float .f64 b1,.float .f64 b2],.agg #[.float .f64 c1,.float .f64 c2]] (.agg #[.float .f64 9218868437227405312,.float .f64 18442240474082181120]) w:=by
 have HE:=Hd emptyf;have HRD:=readL32 w #[.float .f64 0,.float .f64 0] 28 t1 m1 t2 m2 hnn;clear t1 m1 t2 m2 hnn
 go_enter Tryz.func50,Tryz.ntmps50
 go_wp2_with fail;refine HRD.out.mono ?_;rintro e wk ⟨rfl,hl⟩;have LL:=Hd hl;clear hl HRD;obtain⟨q1_0,q1_1⟩:=(LL.out.blk 0 rfl).c2;go_wp2_with fail;refine cx (HE.out _) fun wk hb=>?_;replace LL:=stL LL hb;clear hb q1_0 q1_1 ho;replace LL:=Hd (LL.out.loose2 rfl);obtain⟨ha4_0,hf4_0,ha4_1,hf4_1⟩:=(LL.out.has 0 rfl).sf2;have LF:=Hd (LL.out.write [.float .f64 9218868437227405312,.float .f64 18442240474082181120] rfl (by omega) (by simp<;>omega) (by simp<;>omega));obtain⟨hk4_0,hk4_1⟩:=(LF.out.blk 2 rfl).c2
 simp [sets] at hk4_0 hk4_1
 clear LL;go_wp2;refine bodyPost_ret (v:=.agg #[.float .f64 9218868437227405312,.float .f64 18442240474082181120]) (by simp [results,Tryz.results50,go_sem,hk4_0,hk4_1]) rfl ?_
 exact⟨rfl,LF.out.b⟩
set_option maxRecDepth 8000 in
theorem absrev_some(b1 b2 c1 c2 A1 A2 x1 x2 mx r1 r2:Nat)(d1 d2:Bool)(w:World)(t1:∀ W,Rt 102 #[.agg #[.float .f64 b1,.float .f64 b2]] (.agg #[.float .f64 A1,.float .f64 A2]) W)(m1:Em d1 A1 A2)(t2:∀ W,Rt 102 #[.agg #[.float .f64 c1,.float .f64 c2]] (.agg #[.float .f64 x1,.float .f64 x2]) W)(m2:Em d2 x1 x2)(hnn:(d1 || d2)=false)(ho:(FloatKind.f64.format.order A2 0 == some Ordering.lt)=false)
  (hmx:∀ W ts t,(Builtin.max_ ts t #[.float .f64 A1,.float .f64 0]).run Tryz.prog W=.ok (.float .f64 mx) W)(ht:∀ W,Rt 104 #[.agg #[.float .f64 x1,.float .f64 x2],.agg #[.float .f64 mx,.float .f64 mx],.agg #[.float .f64 A2,.float .f64 A2],.bool false] (.agg #[.float .f64 r1,.float .f64 r2]) W):
  Rt 50 #[.agg #[.float .f64 b1,.float .f64 b2],.agg #[.float .f64 c1,.float .f64 c2]] (.agg #[.float .f64 r1,.float .f64 r2]) w:=by
 have HP:=Hd fun W=>at_any mx W;have HQ:=Hd fun W=>at_any A2 W;have HT:=Hd ht;clear ht;have HRD:=readL32 w #[.float .f64 0,.float .f64 0] 28 t1 m1 t2 m2 hnn;clear t1 m1 t2 m2 hnn
 go_enter Tryz.func50,Tryz.ntmps50
 go_wp2_with fail;refine HRD.out.mono ?_;rintro e wk ⟨rfl,hl⟩;have LL:=Hd hl;clear hl HRD;obtain⟨q1_0,q1_1⟩:=(LL.out.blk 0 rfl).c2
 go_upto_region 3 with fail
 clear ho q1_0 q1_1;replace LL:=Hd (LL.out.loose2 rfl);refine regL LL (fun hHeld=>?_);clear LL;generalize World.drew _=wk at hHeld  ⊢;refine tkb 0 (fun _ h=>(h.blk 1 rfl).c2) ?_;refine tks 1 ?_;refine tkb 2 (fun _ h=>(h.blk 0 rfl).c2) ?_;refine tks 5 ?_;refine tkb 6 (fun _ h=>(h.blk 0 rfl).c2) ?_;refine rdy 3 (fun KK hKK=>?_);go_simp;refine hKK.out _ _ hHeld (fun _=>?_);clear hKK KK hHeld;rename_i hHeld;(try simp only [Act.put,lay]);refine rdy 4 (fun KK hKK=>?_);go_simp;refine cs (HP.out _) ?_;clear hKK KK hHeld;intro wk hb1 hHeld;clear hb1;refine rdy 7 (fun KK hKK=>?_);go_simp;refine cs (HQ.out _) ?_;clear hKK KK hHeld;intro wk hb2 hHeld;clear hb2;refine rdy 8 (fun KK hKK=>?_);go_simp;refine cs (HT.out _) ?_;clear hKK KK hHeld;intro wk hb3 hHeld;clear hb3;refine rdy 9 (fun KK hKK=>?_);obtain⟨ha0,hf0,ha1,hf1⟩:=(hHeld.has 0 rfl).sf2;go_simp;have HS_0:=(hHeld.has 0 rfl).laid [.float .f64 r1,.float .f64 r2] rfl;refine hKK.out _ _ (hHeld.over 0 rfl [.float .f64 r1,.float .f64 r2] rfl rfl (by first | omega | exact hHeld.le_of 0 rfl) (by simp<;>omega) (by simp<;>omega)) (fun _=>?_);clear hKK KK hHeld;rename_i hHeld;(try simp only [Act.put,lay]);refine wpAnyH_done (by kernel_rfl) ?_ _;have LB:=Hd hHeld.b;clear hHeld;obtain⟨hk4_0,hk4_1⟩:=HS_0.c2;clear HS_0
 simp [sets] at hk4_0 hk4_1
 go_wp2;refine bodyPost_ret (v:=.agg #[.float .f64 r1,.float .f64 r2]) (by simp [results,Tryz.results50,go_sem,hk4_0,hk4_1]) rfl ?_
 exact⟨rfl,LB.out⟩
def abr(i2 j2 i j:Int):Int × Int:=
 if j2<i2\/j<i\/j2<0 then ((M:Int),-(M:Int))
 else (min (ctO false i j (max i2 0) (max i2 0) j2 j2).1 (ctO false i j (-j2) (-j2) (-(max i2 0)) (-(max i2 0))).1,max (ctO false i j (max i2 0) (max i2 0) j2 j2).2 (ctO false i j (-j2) (-j2) (-(max i2 0)) (-(max i2 0))).2)
theorem ctO_iv{i j a b:Int}(h:Iv i j)(h0:¬ j<i)(ha:-(M:Int)<=a/\a<M)(hb:-(M:Int)<b/\b<=M)(hab:a<=b):Iv (ctO false i j a a b b).1 (ctO false i j a a b b).2:=by
 have hM:=M_val;unfold ctO
 by_cases c:b<i\/j<a
 ·rw [if_pos c];exact Iv.none
 ·rw [if_neg c,if_neg (show ¬ (false=true/\(a=0/\a=0/\j<=0\/b=0/\b=0/\0<=i)) from fun h=>by cases h.1)];unfold Iv at *
  dsimp only
  omega
theorem absrev_any(c1 c2 x y:Nat)(w:World)(hc1:c1<18446744073709551616)(hc2:c2<18446744073709551616)(hx:x<18446744073709551616)(hy:y<18446744073709551616):
  Rt 50 #[.agg #[.float .f64 c1,.float .f64 c2],.agg #[.float .f64 x,.float .f64 y]] (.agg #[.float .f64 (pat (abr (rd c1 c2).1 (rd c1 c2).2 (rd x y).1 (rd x y).2).1),.float .f64 (pat (abr (rd c1 c2).1 (rd c1 c2).2 (rd x y).1 (rd x y).2).2)]) w:=by
 have hM:=M_val;have v2:=rd_iv c1 c2;have v3:=rd_iv x y;have t2:=fun W=>readf c1 c2 W hc1 hc2;have t3:=fun W=>readf x y W hx hy
 obtain⟨⟨i2,j2⟩,r2⟩:∃ z,rd c1 c2=z:=⟨_,rfl⟩
 obtain⟨⟨i3,j3⟩,r3⟩:∃ z,rd x y=z:=⟨_,rfl⟩
 rw [r2] at v2 t2;rw [r3] at v3 t3;rw [r2,r3]
 dsimp only at *
 have m2:=em_idx v2;have m3:=em_idx v3;unfold abr
 by_cases hno:j2<i2\/j3<i3
 ·rw [if_pos (by omega),pat_max,pat_min]
  exact absrev_none _ _ _ _ _ _ _ _ _ _ w t2 m2 t3 m3 (by simp;omega)
 ·have hnn:(decide (j2<i2) || decide (j3<i3))=false:=by simp;omega
  by_cases h0:j2<0
  ·rw [if_pos (by omega),pat_max,pat_min]
   exact absrev_neg _ _ _ _ _ _ _ _ _ _ w t2 m2 t3 m3 hnn (ord0_lt v2.hi h0)
  ·rw [if_neg (by omega)];have n2:=ne_or v2 (by omega);unfold Ne at n2;have hmx:=fun W ts t=>run_maxf v2.lo (show -(M:Int)<=0/\(0:Int)<=M by omega) W ts t;rw [pat_zero] at hmx
   have oo:(FloatKind.f64.format.order (pat j2) 0 == some Ordering.lt)=false:=by
    by_cases h:j2=0
    ·rw [ord0_eq h];rfl
    ·rw [ord0_gt v2.hi (by omega)];rfl
   have ka:-(M:Int)<=max i2 0/\max i2 0<=M:=by omega
   have kn:-(M:Int)<=-max i2 0/\-max i2 0<=M:=by omega
   have kj:-(M:Int)<=-j2/\-j2<=M:=by omega
   refine absrev_some _ _ _ _ _ _ _ _ _ _ _ _ _ w t2 m2 t3 m3 hnn oo hmx fun W=>?_
   exact twice_walk _ _ _ _ _ _ _ _ _ _ _ _ _ _ _ _ false W (fun W=>rcut2_any false i3 j3 (max i2 0) (max i2 0) j2 j2 W v3.lo v3.hi ka ka v2.hi v2.hi) (fun W=>turned_idx j2 j2 W v2.hi v2.hi) (fun W=>turned_idx _ _ W ka ka) (fun W=>rcut2_any false i3 j3 (-j2) (-j2) (-max i2 0) (-max i2 0) W v3.lo v3.hi kj kj kn kn)
    (fun W=>hullf _ _ _ _ W (ctO_iv v3 (by omega) (by omega) (by omega) (by omega)) (ctO_iv v3 (by omega) (by omega) (by omega) (by omega)))
end
section
open Go.RowKit
attribute [local go_sem] run_store_float run_negf
set_option maxRecDepth 8000 in
theorem revroot_walk(x n r1 r2:Nat)(w:World)(h1:∀ W,Rt 174 #[.int .i64 (-1),.float .f64 x,.int .i64 (n:Int)] (.float .f64 r1) W)(h2:∀ W,Rt 174 #[.int .i64 1,.float .f64 x,.int .i64 (n:Int)] (.float .f64 r2) W):
  Rt 105 #[.float .f64 x,.int .i64 (n:Int)] (.agg #[.float .f64 r1,.float .f64 r2]) w:=by
 have H1:=Hd h1;have H2:=Hd h2;clear h1 h2;have LL:=li1 w #[.float .f64 0,.float .f64 0] 78
 go_enter Tryz.func105,Tryz.ntmps105
 go_wp2_with fail;refine cx (H1.out _) fun wk hb=>?_;replace LL:=stL LL hb;clear hb;go_wp2_with fail;refine cx (H2.out _) fun wk hb=>?_;replace LL:=stL LL hb;clear hb;replace LL:=Hd (LL.out.loose0 rfl);obtain⟨ha4_0,hf4_0,ha4_1,hf4_1⟩:=(LL.out.has 0 rfl).sf2;have LF:=Hd (LL.out.write [.float .f64 r1,.float .f64 r2] rfl (by omega) (by simp<;>omega) (by simp<;>omega));obtain⟨hk4_0,hk4_1⟩:=(LF.out.blk 0 rfl).c2
 simp [sets] at hk4_0 hk4_1
 clear LL;go_wp2;refine bodyPost_ret (v:=.agg #[.float .f64 r1,.float .f64 r2]) (by simp [results,Tryz.results105,go_sem,hk4_0,hk4_1]) rfl ?_
 exact⟨rfl,LF.out.b⟩
set_option maxRecDepth 8000 in
theorem pown_none(n b1 b2 c1 c2 A1 A2 x1 x2:Nat)(d1 d2:Bool)(w:World)(t1:∀ W,Rt 102 #[.agg #[.float .f64 b1,.float .f64 b2]] (.agg #[.float .f64 A1,.float .f64 A2]) W)(m1:Em d1 A1 A2)(t2:∀ W,Rt 102 #[.agg #[.float .f64 c1,.float .f64 c2]] (.agg #[.float .f64 x1,.float .f64 x2]) W)(m2:Em d2 x1 x2)(hn:1<=n)(hn2:n<=1024)(hnn:(d1 || d2)=true):
  Rt 39 #[.int .i64 (n:Int),.agg #[.float .f64 b1,.float .f64 b2],.agg #[.float .f64 c1,.float .f64 c2]] (.agg #[.float .f64 9218868437227405312,.float .f64 18442240474082181120]) w:=by
 have HE:=Hd emptyf
 have n1:¬ (n:Int) < -1024:=by omega
 have n2:¬ (1024:Int)<(n:Int):=by omega
 clear hn hn2;have HRD:=readL32 w #[.float .f64 0,.float .f64 0] 28 t1 m1 t2 m2 hnn;clear t1 m1 t2 m2 hnn
 go_enter Tryz.func39,Tryz.ntmps39
 go_wp2_with fail;refine HRD.out.mono ?_;rintro e wk ⟨rfl,hl⟩;have LL:=Hd hl;clear hl HRD;go_wp2_with fail;refine cx (HE.out _) fun wk hb=>?_;replace LL:=stL LL hb;clear hb;replace LL:=Hd (LL.out.loose2 rfl);obtain⟨ha6_0,hf6_0,ha6_1,hf6_1⟩:=(LL.out.has 0 rfl).sf2;have LF:=Hd (LL.out.write [.float .f64 9218868437227405312,.float .f64 18442240474082181120] rfl (by omega) (by simp<;>omega) (by simp<;>omega));obtain⟨hk6_0,hk6_1⟩:=(LF.out.blk 2 rfl).c2
 simp [sets] at hk6_0 hk6_1
 clear LL;go_wp2;refine bodyPost_ret (v:=.agg #[.float .f64 9218868437227405312,.float .f64 18442240474082181120]) (by simp [results,Tryz.results39,go_sem,hk6_0,hk6_1]) rfl ?_
 exact⟨rfl,LF.out.b⟩
set_option maxRecDepth 8000 in
theorem pown_neg(n b1 b2 c1 c2 A1 A2 x1 x2:Nat)(d1 d2:Bool)(w:World)(t1:∀ W,Rt 102 #[.agg #[.float .f64 b1,.float .f64 b2]] (.agg #[.float .f64 A1,.float .f64 A2]) W)(m1:Em d1 A1 A2)(t2:∀ W,Rt 102 #[.agg #[.float .f64 c1,.float .f64 c2]] (.agg #[.float .f64 x1,.float .f64 x2]) W)(m2:Em d2 x1 x2)(hn:1<=n)(hn2:n<=1024)(hp:n % 2=0)(hnn:(d1 || d2)=false)(ho:FloatKind.f64.format.order A2 0=some .lt):
  Rt 39 #[.int .i64 (n:Int),.agg #[.float .f64 b1,.float .f64 b2],.agg #[.float .f64 c1,.float .f64 c2]] (.agg #[.float .f64 9218868437227405312,.float .f64 18442240474082181120]) w:=by
 have HE:=Hd emptyf
 have n1:¬ (n:Int) < -1024:=by omega
 have n2:¬ (1024:Int)<(n:Int):=by omega
 have n3:((n:Int) == 0)=false:=by simp;omega
 have n4:¬ (n:Int)<0:=by omega
 have n5:(n:Int) % 2=0:=by omega
 clear hn hn2 hp;have HRD:=readL32 w #[.float .f64 0,.float .f64 0] 28 t1 m1 t2 m2 hnn;clear t1 m1 t2 m2 hnn
 go_enter Tryz.func39,Tryz.ntmps39
 go_wp2_with fail;refine HRD.out.mono ?_;rintro e wk ⟨rfl,hl⟩;have LL:=Hd hl;clear hl HRD;obtain⟨q1_0,q1_1⟩:=(LL.out.blk 0 rfl).c2;go_wp2_with fail;refine cx (HE.out _) fun wk hb=>?_;replace LL:=stL LL hb;clear hb q1_0 q1_1 ho;replace LL:=Hd (LL.out.loose2 rfl);obtain⟨ha6_0,hf6_0,ha6_1,hf6_1⟩:=(LL.out.has 0 rfl).sf2;have LF:=Hd (LL.out.write [.float .f64 9218868437227405312,.float .f64 18442240474082181120] rfl (by omega) (by simp<;>omega) (by simp<;>omega));obtain⟨hk6_0,hk6_1⟩:=(LF.out.blk 2 rfl).c2
 simp [sets] at hk6_0 hk6_1
 clear LL;go_wp2;refine bodyPost_ret (v:=.agg #[.float .f64 9218868437227405312,.float .f64 18442240474082181120]) (by simp [results,Tryz.results39,go_sem,hk6_0,hk6_1]) rfl ?_
 exact⟨rfl,LF.out.b⟩
set_option maxRecDepth 8000 in
theorem pown_even(n b1 b2 c1 c2 A1 A2 x1 x2 mx p1 p2 q1 q2 r1 r2:Nat)(o:Ordering)(d1 d2:Bool)(w:World)(t1:∀ W,Rt 102 #[.agg #[.float .f64 b1,.float .f64 b2]] (.agg #[.float .f64 A1,.float .f64 A2]) W)(m1:Em d1 A1 A2)(t2:∀ W,Rt 102 #[.agg #[.float .f64 c1,.float .f64 c2]] (.agg #[.float .f64 x1,.float .f64 x2]) W)(m2:Em d2 x1 x2)(hn:1<=n)(hn2:n<=1024)(hp:n % 2=0)(hnn:(d1 || d2)=false)(ho:FloatKind.f64.format.order A2 0=some o)(hoo:o=.eq\/o=.gt)
  (hmx:∀ W ts t,(Builtin.max_ ts t #[.float .f64 A1,.float .f64 0]).run Tryz.prog W=.ok (.float .f64 mx) W)(h1:∀ W,Rt 105 #[.float .f64 mx,.int .i64 (n:Int)] (.agg #[.float .f64 p1,.float .f64 p2]) W)(h2:∀ W,Rt 105 #[.float .f64 A2,.int .i64 (n:Int)] (.agg #[.float .f64 q1,.float .f64 q2]) W)(ht:∀ W,Rt 104 #[.agg #[.float .f64 x1,.float .f64 x2],.agg #[.float .f64 p1,.float .f64 p2],.agg #[.float .f64 q1,.float .f64 q2],.bool false] (.agg #[.float .f64 r1,.float .f64 r2]) W):
  Rt 39 #[.int .i64 (n:Int),.agg #[.float .f64 b1,.float .f64 b2],.agg #[.float .f64 c1,.float .f64 c2]] (.agg #[.float .f64 r1,.float .f64 r2]) w:=by
 have n1:¬ (n:Int) < -1024:=by omega
 have n2:¬ (1024:Int)<(n:Int):=by omega
 have n3:((n:Int) == 0)=false:=by simp;omega
 have n4:¬ (n:Int)<0:=by omega
 have n5:(n:Int) % 2=0:=by omega
 clear hn hn2 hp;have H1:=Hd h1;have H2:=Hd h2;have HT:=Hd ht;clear h1 h2 ht
 rcases hoo with rfl | rfl
 all_goals
  have HRD:=readL32 w #[.float .f64 0,.float .f64 0] 28 t1 m1 t2 m2 hnn;clear t1 m1 t2 m2 hnn
  go_enter Tryz.func39,Tryz.ntmps39
  go_wp2_with fail;refine HRD.out.mono ?_;rintro e wk ⟨rfl,hl⟩;have LL:=Hd hl;clear hl HRD;obtain⟨q1_0,q1_1⟩:=(LL.out.blk 0 rfl).c2
  go_upto_region 12 with fail
  clear ho q1_0 q1_1;replace LL:=Hd (LL.out.loose2 rfl);refine regL LL (fun hHeld=>?_);clear LL;generalize World.drew _=wk at hHeld  ⊢;refine tkb 0 (fun _ h=>(h.blk 1 rfl).c2) ?_;refine tks 1 ?_;refine tkb 2 (fun _ h=>(h.blk 0 rfl).c2) ?_;refine tks 4 ?_;refine tks 6 ?_;refine tkb 7 (fun _ h=>(h.blk 0 rfl).c2) ?_;refine tks 8 ?_;refine rdy 3 (fun KK hKK=>?_);go_simp;refine hKK.out _ _ hHeld (fun _=>?_);clear hKK KK hHeld;rename_i hHeld;(try simp only [Act.put,lay]);refine rdy 5 (fun KK hKK=>?_);go_simp;refine cs (H1.out _) ?_;clear hKK KK hHeld;intro wk hb1 hHeld;clear hb1;refine rdy 9 (fun KK hKK=>?_);go_simp;refine cs (H2.out _) ?_;clear hKK KK hHeld;intro wk hb2 hHeld;clear hb2;refine rdy 10 (fun KK hKK=>?_);go_simp;refine cs (HT.out _) ?_;clear hKK KK hHeld;intro wk hb3 hHeld;clear hb3;refine rdy 11 (fun KK hKK=>?_);obtain⟨ha0,hf0,ha1,hf1⟩:=(hHeld.has 0 rfl).sf2;go_simp;have HS_0:=(hHeld.has 0 rfl).laid [.float .f64 r1,.float .f64 r2] rfl;refine hKK.out _ _ (hHeld.over 0 rfl [.float .f64 r1,.float .f64 r2] rfl rfl (by first | omega | exact hHeld.le_of 0 rfl) (by simp<;>omega) (by simp<;>omega)) (fun _=>?_);clear hKK KK hHeld;rename_i hHeld;(try simp only [Act.put,lay]);refine wpAnyH_done (by kernel_rfl) ?_ _;have LB:=Hd hHeld.b;clear hHeld;obtain⟨hk6_0,hk6_1⟩:=HS_0.c2;clear HS_0
  simp [sets] at hk6_0 hk6_1
  go_wp2;refine bodyPost_ret (v:=.agg #[.float .f64 r1,.float .f64 r2]) (by simp [results,Tryz.results39,go_sem,hk6_0,hk6_1]) rfl ?_
  exact⟨rfl,LB.out⟩
set_option maxRecDepth 8000 in
theorem pown_odd(n b1 b2 c1 c2 A1 A2 x1 x2 p1 p2 q1 q2 r1 r2:Nat)(d1 d2:Bool)(w:World)(t1:∀ W,Rt 102 #[.agg #[.float .f64 b1,.float .f64 b2]] (.agg #[.float .f64 A1,.float .f64 A2]) W)(m1:Em d1 A1 A2)(t2:∀ W,Rt 102 #[.agg #[.float .f64 c1,.float .f64 c2]] (.agg #[.float .f64 x1,.float .f64 x2]) W)(m2:Em d2 x1 x2)(hn:1<=n)(hn2:n<=1024)(hp:n % 2=1)(hnn:(d1 || d2)=false)
  (h1:∀ W,Rt 105 #[.float .f64 A1,.int .i64 (n:Int)] (.agg #[.float .f64 p1,.float .f64 p2]) W)(h2:∀ W,Rt 105 #[.float .f64 A2,.int .i64 (n:Int)] (.agg #[.float .f64 q1,.float .f64 q2]) W)(ht:∀ W,Rt 77 #[.agg #[.float .f64 x1,.float .f64 x2],.agg #[.float .f64 p1,.float .f64 p2],.agg #[.float .f64 q1,.float .f64 q2],.bool false] (.agg #[.float .f64 r1,.float .f64 r2]) W):
  Rt 39 #[.int .i64 (n:Int),.agg #[.float .f64 b1,.float .f64 b2],.agg #[.float .f64 c1,.float .f64 c2]] (.agg #[.float .f64 r1,.float .f64 r2]) w:=by
 have n1:¬ (n:Int) < -1024:=by omega
 have n2:¬ (1024:Int)<(n:Int):=by omega
 have n3:((n:Int) == 0)=false:=by simp;omega
 have n4:¬ (n:Int)<0:=by omega
 have n5:(n:Int) % 2=1:=by omega
 clear hn hn2 hp;have H1:=Hd h1;have H2:=Hd h2;have HT:=Hd ht;clear h1 h2 ht;have HRD:=readL32 w #[.float .f64 0,.float .f64 0] 28 t1 m1 t2 m2 hnn;clear t1 m1 t2 m2 hnn
 go_enter Tryz.func39,Tryz.ntmps39
 go_wp2_with fail;refine HRD.out.mono ?_;rintro e wk ⟨rfl,hl⟩;have LL:=Hd hl;clear hl HRD
 go_upto_region 13 with fail
 replace LL:=Hd (LL.out.loose2 rfl);refine regL LL (fun hHeld=>?_);clear LL;generalize World.drew _=wk at hHeld  ⊢;refine tkb 0 (fun _ h=>(h.blk 1 rfl).c2) ?_;refine tks 1 ?_;refine tkb 2 (fun _ h=>(h.blk 0 rfl).c2) ?_;refine tks 3 ?_;refine tks 5 ?_;refine tkb 6 (fun _ h=>(h.blk 0 rfl).c2) ?_;refine tks 7 ?_;refine rdy 4 (fun KK hKK=>?_);go_simp;refine cs (H1.out _) ?_;clear hKK KK hHeld;intro wk hb1 hHeld;clear hb1;refine rdy 8 (fun KK hKK=>?_);go_simp;refine cs (H2.out _) ?_;clear hKK KK hHeld;intro wk hb2 hHeld;clear hb2;refine rdy 9 (fun KK hKK=>?_);go_simp;refine cs (HT.out _) ?_;clear hKK KK hHeld;intro wk hb3 hHeld;clear hb3;refine rdy 10 (fun KK hKK=>?_);obtain⟨ha0,hf0,ha1,hf1⟩:=(hHeld.has 0 rfl).sf2;go_simp;have HS_0:=(hHeld.has 0 rfl).laid [.float .f64 r1,.float .f64 r2] rfl;refine hKK.out _ _ (hHeld.over 0 rfl [.float .f64 r1,.float .f64 r2] rfl rfl (by first | omega | exact hHeld.le_of 0 rfl) (by simp<;>omega) (by simp<;>omega)) (fun _=>?_);clear hKK KK hHeld;rename_i hHeld;(try simp only [Act.put,lay]);refine wpAnyH_done (by kernel_rfl) ?_ _;have LB:=Hd hHeld.b;clear hHeld;obtain⟨hk6_0,hk6_1⟩:=HS_0.c2;clear HS_0
 simp [sets] at hk6_0 hk6_1
 go_wp2;refine bodyPost_ret (v:=.agg #[.float .f64 r1,.float .f64 r2]) (by simp [results,Tryz.results39,go_sem,hk6_0,hk6_1]) rfl ?_
 exact⟨rfl,LB.out⟩
set_option maxRecDepth 8000 in
theorem sqr_walk(b1 b2 c1 c2 r1 r2:Nat)(w:World)(h:∀ W,Rt 39 #[.int .i64 2,.agg #[.float .f64 b1,.float .f64 b2],.agg #[.float .f64 c1,.float .f64 c2]] (.agg #[.float .f64 r1,.float .f64 r2]) W):
  Rt 14 #[.agg #[.float .f64 b1,.float .f64 b2],.agg #[.float .f64 c1,.float .f64 c2]] (.agg #[.float .f64 r1,.float .f64 r2]) w:=by
 have H:=Hd h;clear h;have LL:=li3 w #[.float .f64 b1,.float .f64 b2] 28 #[.float .f64 c1,.float .f64 c2] 28 #[.float .f64 0,.float .f64 0] 28
 go_enter Tryz.func14,Tryz.ntmps14
 obtain⟨q1_0,q1_1⟩:=(LL.out.blk 0 rfl).c2;obtain⟨q2_0,q2_1⟩:=(LL.out.blk 1 rfl).c2;go_wp2_with fail;refine cx (H.out _) fun wk hb=>?_;replace LL:=stL LL hb;clear hb q1_0 q1_1 q2_0 q2_1;replace LL:=Hd (LL.out.loose2 rfl);obtain⟨ha4_0,hf4_0,ha4_1,hf4_1⟩:=(LL.out.has 0 rfl).sf2;have LF:=Hd (LL.out.write [.float .f64 r1,.float .f64 r2] rfl (by omega) (by simp<;>omega) (by simp<;>omega));obtain⟨hk4_0,hk4_1⟩:=(LF.out.blk 2 rfl).c2
 simp [sets] at hk4_0 hk4_1
 clear LL;go_wp2;refine bodyPost_ret (v:=.agg #[.float .f64 r1,.float .f64 r2]) (by simp [results,Tryz.results14,go_sem,hk4_0,hk4_1]) rfl ?_
 exact⟨rfl,LF.out.b⟩
end
section
open Go.RowKit
theorem nmul_in(A B:Option Addr)(p c q d:Nat)(xs ys:List Nat)(w:World)(hx:U32s w A p c xs)(hy:U32s w B q d ys)(hs1:p<=8589934592)(hs2:q<=8589934592):
  Calls Tryz.prog 252 #[.slice A p c,.slice B q d] w fun e w'=>∃ (D:Option Addr) (n' c':Nat) (ls:List Nat),e=.returned (.slice D n' c')/\U32s w' D n' c' ls/\num ls=num xs*num ys/\n'=p+q/\Below w.heap.size w w':=by
 have HX:=Hd hx;have HY:=Hd hy;have l1:=wlen_le xs;have l2:=wlen_le ys;rw [hx.len] at l1;rw [hy.len] at l2;have HP:=Hd l1;have HQ:=Hd l2;clear hx hy l1 l2;have hmk:=fun W=>make_u32 (N:=(p:Int)+(q:Int)) (n:=p+q) (by omega) (by omega) W
 go_enter Tryz.func252,Tryz.ntmps252
 go_wp2
 go_loopw [6,7,20] (fun _ _ jv wr=>∃ (j:Nat) (ls:List Nat),jv=.int .i64 j/\j<=q/\TimesOut xs ys ls p q j/\Arr wr w.heap.size ls/\Below w.heap.size w wr) (fun _ _ jv _=>q - (intOf jv).toNat)
 case atStart=>exact⟨0,_,rfl,Nat.zero_le _,TimesOut.start _ _ _ _,Arr.zeros _ _,below_alloc _ _⟩
 case round=>
  obtain⟨j,ls,rfl,hj,hinv,harr,hb⟩:=hrel;have HI:=Hd hinv;have HA:=Hd harr;clear hinv harr hmk;have hbs:=hb.size
  by_cases hlt:j<q
  ·obtain⟨ad',e,hc'⟩:=(HY.out.below hb).cell (j:=j) (by omega)
   cases e
   have hy1:=HY.out.lt j
   by_cases hy0:ys[j]?.getD 0=0
   ·rw [hy0] at hc';have HZ:=Hd hy0;clear hy0;go_wp2
    go_roundw
    case rel=>exact⟨j+1,ls,by go_num,hlt,HI.out.skip HZ.out,HA.out,hb⟩
    case measure=>simp [intOf];omega
   ·obtain⟨y,hy⟩:∃ y,ys[j]?.getD 0=y:=⟨_,rfl⟩
    rw [hy] at hc' hy1 hy0;have HYY:=Hd hy
    have hy2:((y:Int) == 0)=false:=by simp;omega
    clear hy hy0
    obtain⟨wo,rfl⟩:∃ wo:World,wo=wr:=⟨_,rfl⟩
    have b0:(0:Int)<=(j:Int):=by omega
    have b1:(j:Int)<=(j:Int)+(p:Int)+1:=by omega
    have b2:(j:Int)+(p:Int)+1<=((p+q:Nat):Int):=by omega
    go_wp2
    go_loopw [8,10,11,37] (fun cv _ _ iv wr=>∃ (i k:Nat) (ls':List Nat),iv=.int .i64 i/\cv=.int .u64 k/\i<=p/\TimesIn xs ls' ls p q j i y k/\Arr wr w.heap.size ls'/\Below w.heap.size w wr) (fun _ _ _ iv _=>p - (intOf iv).toNat)
    case atStart=>exact⟨0,0,ls,rfl,rfl,Nat.zero_le _,TimesIn.start y HI.out,HA.out,hb⟩
    case round=>
     clear hb hbs HA hc';obtain⟨i,k,ls',rfl,rfl,hi,hin,harr,hb⟩:=hrel;have hk:=hin.2.2.2.1;have HIN:=Hd hin;have HA:=Hd harr;clear hin harr
     by_cases hlt2:i<p
     ·obtain⟨ad,e,hc⟩:=(HX.out.below hb).cell (j:=i) (by omega)
      cases e
      have hx1:=HX.out.lt i;have hc2:=HA.out.cell (j:=i+j) (by rw [HIN.out.2.1];omega);have hf2:=HA.out.frozen (i+j);have hl1:ls'[i+j]?.getD 0<4294967296:=HIN.out.1.get (i+j)
      obtain⟨x,hx⟩:∃ x,xs[i]?.getD 0=x:=⟨_,rfl⟩
      obtain⟨l,hl⟩:∃ l,ls'[i+j]?.getD 0=l:=⟨_,rfl⟩
      rw [hx] at hc hx1;rw [hl] at hc2 hl1;rw [Nat.add_comm i j] at hc2 hf2;have HXX:=Hd hx;have HLL:=Hd hl;clear hx hl;have hz1:x*y<=4294967295*4294967295:=Nat.mul_le_mul (by omega) (by omega)
      obtain⟨z,hz⟩:∃ z,x*y=z:=⟨_,rfl⟩
      rw [hz] at hz1
      have e1:(x:Int)*(y:Int)=(z:Int):=by rw [<- hz];simp
      have HZ:=Hd hz;clear hz
      have b3:(i:Int)<((p+1:Nat):Int):=by omega
      go_wp2
      go_roundw
      case rel=>
       refine⟨i+1,(k+l+z) / 4294967296,ls'.set (i+j) ((k+l+z) % 4294967296),by go_num,?_,by omega,?_,?_,hb.setCell (Nat.le_refl _) _⟩
       ·rw [show (k:Int)+((z:Int)+(l:Int))=((k+l+z:Nat):Int) from by omega];go_num
       ·exact HIN.out.step hlt2 hlt HX.out.w32 hy1 (by rw [HXX.out,HLL.out,HZ.out])
       ·have:=HA.out.set (i+j) ((k+l+z) % 4294967296);rw [show ((k:Int)+((z:Int)+(l:Int))) % 4294967296=(((k+l+z) % 4294967296:Nat):Int) from by omega,Nat.add_comm j i]
        exact this
      case measure=>simp [intOf];omega
     ·obtain rfl:i=p:=by omega
      have hc2:=HA.out.cell (j:=j+i) (by rw [HIN.out.2.1];omega);have hf2:=HA.out.frozen (j+i)
      have hk2:(k:Int) % 4294967296=(k:Int):=by omega
      have b3:(i:Int)<((i+1:Nat):Int):=by omega
      obtain⟨l,hl⟩:∃ l,ls'[j+i]?.getD 0=l:=⟨_,rfl⟩
      rw [hl] at hc2;clear hl;go_wp2
      go_roundw
      case rel=>
       exact⟨j+1,ls'.set (j+i) k,by go_num,hlt,HIN.out.done HI.out hlt HP.out HYY.out,HA.out.set _ _,hb.setCell (Nat.le_refl _) _⟩
      case measure=>simp [intOf];omega
  ·obtain rfl:j=q:=by omega
   have hnum:=HI.out.done HQ.out;have hu:=HA.out.u32s' HI.out.1 HI.out.2.1 (by omega);have HU:=Hd hu;clear hu;go_wp2
   go_ret
   exact⟨_,_,_,_,rfl,HU.out,hnum,rfl,hb⟩
theorem nmul_any(A B:Option Addr)(n c m d:Nat)(xs ys:List Nat)(w:World)(hx:U32s w A n c xs)(hy:U32s w B m d ys)(hl:wlen xs+wlen ys<=16384)(hbl:blen (num xs)+blen (num ys)<=524289):
  Calls Tryz.prog 229 #[.slice A n c,.slice B m d] w (NewU32E w (digs (num xs*num ys))):=by
 obtain⟨w1,hw1⟩:∃ w1,w.alloc (.cells #[.slice A n c,.slice B m d] 40)=w1:=⟨_,rfl⟩
 have hb1:Below w.heap.size w w1:=by rw [<- hw1];exact below_alloc w _
 have hx1:=hx.below hb1;have hy1:=hy.below hb1;have hlong:=long_two w.heap.size A n c xs B m d ys w1 hx1 (by rw [<- hw1];simp [World.cell?_alloc_new]) (by omega) hy1 (by rw [<- hw1];simp [World.cell?_alloc_new]) (by omega);have HLG:=Hd hlong;have HL1:=Hd (nlen_any A n c xs w1 hx1);have HL2:=Hd (nlen_any B m d ys w1 hy1);have HQ1:=Hd fun W (h:U32s W A n c xs)=>nwords_any A n c xs W h;have HQ2:=Hd fun W (h:U32s W B m d ys)=>nwords_any B m d ys W h;have cc1:=hx.cap;have cc2:=hy.cap;have n1:=hx.small;have n2:=hy.small;have l1:=wlen_le xs;have l2:=wlen_le ys;rw [hx.len] at l1;rw [hy.len] at l2;have e1:=num_trim xs;have e2:=num_trim ys;rw [trim_eq_take] at e1 e2;have HX0:=hx1.take l1;have HY0:=hy1.take l2
 obtain⟨p,hp⟩:∃ p,wlen xs=p:=⟨_,rfl⟩
 obtain⟨q,hq⟩:∃ p,wlen ys=p:=⟨_,rfl⟩
 obtain⟨b1,hB1⟩:∃ p,blen (num xs)=p:=⟨_,rfl⟩
 obtain⟨b2,hB2⟩:∃ p,blen (num ys)=p:=⟨_,rfl⟩
 rw [hp] at HQ1 l1 hl e1 HX0;rw [hq] at HQ2 l2 hl e2 HY0;rw [hB1] at HL1 hbl;rw [hB2] at HL2 hbl
 obtain⟨us,hus⟩:∃ l,xs.take p=l:=⟨_,rfl⟩
 obtain⟨vs,hvs⟩:∃ l,ys.take q=l:=⟨_,rfl⟩
 rw [hus] at e1 HX0;rw [hvs] at e2 HY0;rw [<- e1,<- e2];have hlt1:=num_lt HX0.w32;have hlt2:=num_lt HY0.w32;rw [HX0.len] at hlt1;rw [HY0.len] at hlt2
 have HM:=Hd (show ∀ W,U32s W A p c us->U32s W B q d vs->Calls Tryz.prog 252 #[.slice A p c,.slice B q d] W fun e w'=>∃ (D:Option Addr) (n' c':Nat) (ls:List Nat),e=.returned (.slice D n' c')/\U32s w' D n' c' ls/\num ls=num us*num vs/\wlen ls<=16384/\Below W.heap.size W w' from
  fun W h1 h2=>(nmul_in A B p c q d us vs W h1 h2 (by omega) (by omega)).mono fun e w' ⟨D,n',c',ls,he,hu,hv,hn,hb⟩=>
   ⟨D,n',c',ls,he,hu,hv,Nat.le_trans (wlen_lt hu.w32 (K:=p+q) (by
    rw [hv,Nat.mul_add,Nat.pow_add]
    exact Nat.lt_of_le_of_lt (Nat.mul_le_mul_left _ (Nat.le_of_lt hlt2)) ((Nat.mul_lt_mul_right (Nat.two_pow_pos _)).2 hlt1))) hl,hb⟩)
 have HF:=Hd fun W (D:Option Addr) (n' c':Nat) (ls:List Nat) (h:U32s W D n' c' ls) (hl:wlen ls<=16384)=>fit_any D n' c' ls W h hl;have HX1:=Hd hx1;have HY1:=Hd hy1;have HU1:=Hd HX0;have HU2:=Hd HY0;have HB1:=Hd hb1;have HW1:=Hd hw1
 have pc:p<=c:=by omega
 have qd:q<=d:=by omega
 have hbi:¬ ((524289:Int)<(b1:Int)+(b2:Int)):=by omega
 clear hx hy hx1 hy1 hlong hb1 hp hq e1 e2 HX0 HY0 hus hvs hw1 hlt1 hlt2 hB1 hB2
 go_enter Tryz.func229,Tryz.ntmps229
 go_wp2_with fail;rw [HW1.out];refine HLG.out.mono ?_;rintro e w' ⟨rfl,rfl⟩;go_wp2_with fail;refine HL1.out.mono ?_;rintro e w' ⟨rfl,rfl⟩;go_wp2_with fail;refine HL2.out.mono ?_;rintro e w' ⟨rfl,rfl⟩;have LL:=Hd (show Lies w1 w1 [] [] from⟨Below.refl _ _,by simp,by simp⟩)
 go_upto_region 3 with fail
 refine regL LL (fun hHeld=>?_);clear LL;replace HX1:=Hd (HX1.out.below (Below.refl _ _).drew);replace HY1:=Hd (HY1.out.below (Below.refl _ _).drew);replace HU1:=Hd (HU1.out.below (Below.refl _ _).drew);replace HU2:=Hd (HU2.out.below (Below.refl _ _).drew);generalize World.drew _=wk at hHeld HX1 HY1 HU1 HU2 ⊢;refine tks 0 ?_;refine tks 1 ?_;refine tks 4 ?_;refine tks 5 ?_;refine rdy 2 (fun KK hKK=>?_);go_simp;refine (HQ1.out _ HX1.out).mono ?_;rintro e wk ⟨rfl,rfl⟩;go_wp2_with fail;refine hKK.out _ _ (hHeld.keep (Below.refl _ _)) (fun _=>?_);clear hKK KK hHeld;rename_i hHeld;(try simp only [Act.put,lay]);replace HX1:=Hd (HX1.out.below (Below.refl _ _));replace HY1:=Hd (HY1.out.below (Below.refl _ _));replace HU1:=Hd (HU1.out.below (Below.refl _ _));replace HU2:=Hd (HU2.out.below (Below.refl _ _));(try replace HU:=Hd (HU.out.below (Below.refl _ _)));refine tks 3 ?_;refine rdy 6 (fun KK hKK=>?_);go_simp;refine (HQ2.out _ HY1.out).mono ?_;rintro e wk ⟨rfl,rfl⟩;go_wp2_with fail;refine hKK.out _ _ (hHeld.keep (Below.refl _ _)) (fun _=>?_);clear hKK KK hHeld;rename_i hHeld;(try simp only [Act.put,lay]);replace HX1:=Hd (HX1.out.below (Below.refl _ _));replace HY1:=Hd (HY1.out.below (Below.refl _ _));replace HU1:=Hd (HU1.out.below (Below.refl _ _));replace HU2:=Hd (HU2.out.below (Below.refl _ _));(try replace HU:=Hd (HU.out.below (Below.refl _ _)));refine tks 7 ?_;refine rdy 8 (fun KK hKK=>?_);go_simp;refine (HM.out _ HU1.out HU2.out).mono ?_
 rintro e wk ⟨D,n2,c2,ls,rfl,hu,hnum,hwl,hb⟩;go_wp2_with fail;refine hKK.out _ _ (hHeld.keep hb) (fun _=>?_);clear hKK KK hHeld;rename_i hHeld;(try simp only [Act.put,lay]);replace HX1:=Hd (HX1.out.below hb);replace HY1:=Hd (HY1.out.below hb);replace HU1:=Hd (HU1.out.below hb);replace HU2:=Hd (HU2.out.below hb);have HU:=Hd hu;clear hu;clear hb;refine rdy 9 (fun KK hKK=>?_);go_simp;refine (HF.out _ _ _ _ _ HU.out hwl).mono ?_;rintro e wk ⟨rfl,rfl⟩;go_wp2_with fail;refine hKK.out _ _ (hHeld.keep (Below.refl _ _)) (fun _=>?_);clear hKK KK hHeld;rename_i hHeld;(try simp only [Act.put,lay]);replace HX1:=Hd (HX1.out.below (Below.refl _ _));replace HY1:=Hd (HY1.out.below (Below.refl _ _));replace HU1:=Hd (HU1.out.below (Below.refl _ _));replace HU2:=Hd (HU2.out.below (Below.refl _ _));(try replace HU:=Hd (HU.out.below (Below.refl _ _)));refine tks 10 ?_;refine tks 11 ?_;refine tks 12 ?_;refine tks 13 ?_;refine wpAnyH_done (by kernel_rfl) ?_ _;have LL:=Hd hHeld;clear hHeld;go_wp2
 go_ret2
 have hd:=HU.out.cutd;rw [hnum] at hd
 exact⟨_,_,_,rfl,hd,HB1.out.trans (LL.out.b.mono HB1.out.size)⟩
end
section
open Go.RowKit
theorem npow_any(A:Option Addr)(n c N:Nat)(xs:List Nat)(w:World)(hx:U32s w A n c xs)(hl:wlen xs<=16384)(hN:N<=4096)(hb:blen (num xs)*N<=500000):
  Calls Tryz.prog 251 #[.slice A n c,.int .i64 (N:Int)] w (NewU32E w (digs (num xs ^ N))):=by
 obtain⟨w1,hw1⟩:∃ w1,w.alloc (.cells #[.slice A n c] 40)=w1:=⟨_,rfl⟩
 have hb1:Below w.heap.size w w1:=by rw [<- hw1];exact below_alloc w _
 have hx1:=hx.below hb1;have hlg:=long_one w.heap.size A n c xs w1 hx1 (by rw [<- hw1];simp [World.cell?_alloc_new]) hl;have hnn:=Nat.le_trans (digs_length_le (num_lt_wlen hx.w32)) hl;have hn0:=nnorm_any A n c xs w1 hx1;have hln:=fun W (hb:Below w1.heap.size w1 W)=>nlen_any A n c xs W (hx1.below hb)
 obtain⟨X,hX⟩:∃ X,num xs=X:=⟨_,rfl⟩
 rw [hX] at hb hnn hn0 hln ⊢
 obtain⟨K,hK⟩:∃ K,blen X=K:=⟨_,rfl⟩
 rw [hK] at hb hln
 have hXK:X<2^K:=by rw [<- hK];exact blen_le_iff.1 (Nat.le_refl _)
 have HLG:=Hd hlg;have HN:=Hd hn0;have HL:=Hd hln;have HB1:=Hd hb1;have HW1:=Hd hw1;have HK:=Hd hK;have HXK:=Hd hXK;have HNN:=Hd hnn;have HBB:=Hd hb;have HM:=Hd fun (W:World) (Ap Ax:Option Addr) (np cp nx cx P X:Nat) (h1:U32s W Ap np cp (digs P)) (h2:U32s W Ax nx cx (digs X)) (h3:np<=16384) (h4:nx<=16384)=>nmul_in Ap Ax np cp nx cx (digs P) (digs X) W h1 h2 (by omega) (by omega);have HC:=Hd fun (W:World) (D:Option Addr) (n c:Nat) (ls:List Nat) (h:U32s W D n c ls)=>cut_any D n c ls W h;have hAND:=fun (j:Nat) (hj:j<=4096)=>and_one j (by omega);have HAND:=Hd hAND;clear hx hx1 hlg hnn hn0 hln hX hK hXK hb hl hb1 hw1 hAND
 go_enter Tryz.func251,Tryz.ntmps251
 go_wp2_with fail;rw [HW1.out];refine HLG.out.mono ?_;rintro e w' ⟨rfl,rfl⟩;go_wp2_with fail;refine HN.out.mono ?_;rintro e w2 ⟨g,nn,rfl,hl2,ha,hg,hb2⟩;have hnn:=HNN.out;have HU:=Hd (ha.u32s' (W32.digs _) hl2 (by omega));have HNB:=Hd (show nn<=16384 by omega);have HB2:=Hd hb2;clear hl2 ha hg hb2 hnn HNN HN HLG;go_wp2_with fail;refine (HL.out _ HB2.out).mono ?_;rintro e w' ⟨rfl,rfl⟩;have HB3:=Hd (HB1.out.trans (HB2.out.mono HB1.out.size));clear HL HB1 HB2 HW1
 rcases Nat.eq_zero_or_pos N with h0 | h0
 ·subst h0;go_wp2
  go_ret2
  exact⟨_,1,1,rfl,by rw [Nat.pow_zero,digs_one];exact U32s.lit1 w2 117 (a:=1) (by omega),HB3.out.alloc HB3.out.size _⟩
 have hz:((N:Int) == 0)=false:=by simp;omega
 by_cases hK2:K<2
 ·have hk2:(K:Int)<2:=by omega
  have hXN:X ^ N=X:=by
   have h:=HXK.out;have h2:(2:Nat) ^ K<=2 ^ 1:=Nat.pow_le_pow_right (by omega) (by omega)
   rcases (show X=0\/X=1 by omega) with h | h
   ·rw [h,Nat.zero_pow h0]
   ·rw [h,Nat.one_pow]
  have HXI:=Hd hXN;clear hXN hK2;go_wp2
  go_ret2
  exact⟨_,nn,nn,rfl,by rw [HXI.out];exact HU.out,HB3.out⟩
 have hk2:¬ (K:Int)<2:=by omega
 have hX0:0<X:=by
  rcases Nat.eq_zero_or_pos X with h | h
  ·have:=HK.out;rw [h,blen_zero] at this;omega
  ·exact h
 have HX0:=Hd hX0
 have hq:N<=524288 / (K - 1):=by
  rw [Nat.le_div_iff_mul_le (by omega)];have:=HBB.out
  obtain⟨K1,rfl⟩:∃ K1,K=K1+1:=⟨K - 1,by omega⟩
  rw [Nat.mul_comm,Nat.add_sub_cancel];rw [Nat.add_mul,Nat.one_mul] at this
  omega
 obtain⟨K1,hK1⟩:∃ K1,K - 1=K1:=⟨_,rfl⟩
 rw [hK1] at hq
 obtain⟨Q,hQ⟩:∃ Q,524288 / K1=Q:=⟨_,rfl⟩
 rw [hQ] at hq
 have hKL:K<=524288:=by
  have:=HBB.out;have:=Nat.mul_le_mul_left K h0
  omega
 have hk3:wrap64 ((K:Int) - 1)=(K1:Int):=by unfold wrap64;omega
 have hk4:¬ (K1:Int)=0:=by omega
 have hq1:(524288:Int) / (K1:Int)=(Q:Int):=by rw [<- hQ];rfl
 have hq2:(524288:Int).tdiv (K1:Int)=(Q:Int):=by rw [Int.tdiv_eq_ediv_of_nonneg (by omega)];exact hq1
 have hq5:(524288:Int) / ((K:Int) - 1)=(Q:Int):=by rw [show ((K:Int) - 1)=(K1:Int) from by omega];exact hq1
 have hq3:¬ ((Q:Int)<(N:Int)):=by omega
 have hQ2:Q<=524288:=by rw [<- hQ];exact Nat.div_le_self _ _
 have hq4:wrap64 (Q:Int)=(Q:Int):=by unfold wrap64;omega
 clear hK1 hQ hq hQ2
 obtain⟨S,hS⟩:∃ S:Nat,S=15626:=⟨_,rfl⟩
 have HXN:=Hd (show X ^ N<2 ^ (32*S) from by
  calc X ^ N<=(2 ^ K) ^ N:=Nat.pow_le_pow_left (Nat.le_of_lt HXK.out) N
   _=2 ^ (K*N):=by rw [Nat.pow_mul]
   _<2 ^ (32*S):=Nat.pow_lt_pow_right (by omega) (by have:=HBB.out;omega))
 have HS:=Hd hS;clear hX0 hK2 hS HBB HXK HK;go_wp2
 simp only [show decide (Q<N)=false from decide_eq_false (by omega)]
 go_loopw [1,6,8] (fun jv xv pv wr=>∃ (j P Y:Nat) (Ap Ax:Option Addr) (np nx cp cx:Nat),jv=.int .i64 j/\xv=.slice Ax nx cx/\pv=.slice Ap np cp/\(1<=j/\j<=N)/\PowInv X N P Y j /\
  U32s wr Ap np cp (digs P)/\U32s wr Ax nx cx (digs Y)/\(np<=16384/\nx<=16384)/\Below w.heap.size w wr) (fun jv _ _ _=>(intOf jv).toNat)
 case atStart=>exact⟨N,1,X,some ⟨w2.heap.size,0,none⟩,some ⟨g,0,none⟩,1,nn,1,nn,rfl,rfl,rfl,⟨h0,Nat.le_refl _⟩,by unfold PowInv;rw [Nat.one_mul],by rw [digs_one];exact U32s.lit1 w2 117 (a:=1) (by omega),HU.out.alloc _,⟨by omega,HNB.out⟩,HB3.out.alloc HB3.out.size _⟩
 case round=>
  obtain⟨j,P,Y,Ap,Ax,np,nx,cp,cx,rfl,rfl,rfl,hj,hinv,hp,hx,⟨hnp,hnx⟩,hb⟩:=hrel;have HI:=Hd hinv;have HP:=Hd hp;have HX:=Hd hx;have HBB:=Hd hb;clear hinv hp hx hb HU HB3 HNB hk2 hk3 hk4 hq1 hq2 hq3 hq4 hq5 hKL
  by_cases hodd:j % 2=1
  ·have ga:bits .and .i64 (j:Int) 1=1:=by rw [HAND.out j (by omega),hodd];rfl
   have HT:=Hd (HM.out _ Ap Ax np cp nx cx P Y HP.out HX.out hnp hnx);go_wp2_with fail;refine HT.out.mono ?_;rintro e w4 ⟨D4,n4,c4,ls4,rfl,hu4,hv4,hn4,hb4⟩;rw [num_digs,num_digs] at hv4;have HC4:=Hd (HC.out _ D4 n4 c4 ls4 hu4);have hp4:=hu4.cutd;rw [hv4] at hp4;have HP4:=Hd hp4;have HX4:=Hd (HX.out.below hb4);have HB4:=Hd (HBB.out.trans (hb4.mono HBB.out.size))
   have hl4:wlen ls4<=16384:=by
    have h:=digs_length_le (Nat.lt_of_le_of_lt (HI.out.le_px HX0.out (show 0<j by omega)) HXN.out);rw [hp4.len] at h;have:=HS.out;omega
   have HL4:=Hd hl4;clear hu4 hv4 hn4 hb4 hp4 HT HP HX HBB hl4;go_wp2_with fail;refine HC4.out.mono ?_;rintro e w' ⟨rfl,rfl⟩;clear HC4
   obtain⟨k4,hk4⟩:∃ k,wlen ls4=k:=⟨_,rfl⟩
   rw [hk4] at HP4 HL4 ⊢;clear hk4;have hk4:=HL4.out
   have HJ2:=Hd (show (j<2->P*Y=X ^ N)/\PowInv X N (P*Y) (Y*Y) (j / 2) from⟨fun h=>by
    have h2:=HI.out.odd hodd;rw [show j / 2=0 by omega] at h2
    exact h2.done,HI.out.odd hodd⟩)
   clear ga hodd
   by_cases hj1:j<2
   ·have gz:(j:Int) / 2=0:=by omega
    have e:P*Y=X ^ N:=HJ2.out.1 hj1;rw [e] at HP4;clear HM HC HAND hj1 e HJ2;go_wp2
    go_ret2
    exact⟨D4,k4,k4,rfl,HP4.out,HB4.out⟩
   ·have gz:¬ (j:Int) / 2=0:=by omega
    have HT2:=Hd (HM.out _ Ax Ax nx cx nx cx Y Y HX4.out HX4.out hnx hnx);go_wp2_with fail;refine HT2.out.mono ?_;rintro e w5 ⟨D5,n5,c5,ls5,rfl,hu5,hv5,hn5,hb5⟩
    simp only [num_digs] at hv5
    have HC5:=Hd (HC.out _ D5 n5 c5 ls5 hu5);have hx5:=hu5.cutd;rw [hv5] at hx5;have HX5:=Hd hx5;have HP5:=Hd (HP4.out.below hb5);have HB5:=Hd (HB4.out.trans (hb5.mono HB4.out.size))
    have HL5:=Hd (show wlen ls5<=16384 from by
     have h:=digs_length_le (Nat.lt_of_le_of_lt (HI.out.le_xx HX0.out (show 2<=j by omega)) HXN.out);rw [hx5.len] at h
     have:=HS.out;omega)
    clear hu5 hv5 hn5 hb5 hx5 HT2 HP4 HX4 HB4;go_wp2_with fail;refine HC5.out.mono ?_;rintro e w' ⟨rfl,rfl⟩;clear HC5
    obtain⟨k5,hk5⟩:∃ k,wlen ls5=k:=⟨_,rfl⟩
    rw [hk5] at HX5 HL5 ⊢;go_wp2
    go_roundw
    case rel=>exact⟨j / 2,_,_,D4,D5,k4,k5,_,_,by go_num,rfl,rfl,by omega,HJ2.out.2,HP5.out,HX5.out,⟨by omega,HL5.out⟩,HB5.out⟩
    case measure=>simp [intOf];omega
  ·have ga:bits .and .i64 (j:Int) 1=0:=by rw [HAND.out j (by omega),show j % 2=0 by omega];rfl
   have HJ2:=Hd (show (j<2->P=X ^ N)/\PowInv X N P (Y*Y) (j / 2) from⟨fun h=>by omega,HI.out.even (by omega)⟩);clear hodd
   by_cases hj1:j<2
   ·have gz:(j:Int) / 2=0:=by omega
    have e:P=X ^ N:=HJ2.out.1 hj1;rw [e] at HP;clear HM HC HAND hj1 e HJ2;go_wp2
    go_ret2
    exact⟨Ap,np,cp,rfl,HP.out,HBB.out⟩
   ·have gz:¬ (j:Int) / 2=0:=by omega
    have HT2:=Hd (HM.out _ Ax Ax nx cx nx cx Y Y HX.out HX.out hnx hnx);go_wp2_with fail;refine HT2.out.mono ?_;rintro e w5 ⟨D5,n5,c5,ls5,rfl,hu5,hv5,hn5,hb5⟩
    simp only [num_digs] at hv5
    have HC5:=Hd (HC.out _ D5 n5 c5 ls5 hu5);have hx5:=hu5.cutd;rw [hv5] at hx5;have HX5:=Hd hx5;have HP5:=Hd (HP.out.below hb5);have HB5:=Hd (HBB.out.trans (hb5.mono HBB.out.size))
    have HL5:=Hd (show wlen ls5<=16384 from by
     have h:=digs_length_le (Nat.lt_of_le_of_lt (HI.out.le_xx HX0.out (show 2<=j by omega)) HXN.out);rw [hx5.len] at h
     have:=HS.out;omega)
    clear hu5 hv5 hn5 hb5 hx5 HT2 HP HX HBB;go_wp2_with fail;refine HC5.out.mono ?_;rintro e w' ⟨rfl,rfl⟩;clear HC5
    obtain⟨k5,hk5⟩:∃ k,wlen ls5=k:=⟨_,rfl⟩
    rw [hk5] at HX5 HL5 ⊢;go_wp2
    go_roundw
    case rel=>exact⟨j / 2,_,_,Ap,D5,np,k5,_,_,by go_num,rfl,rfl,by omega,HJ2.out.2,HP5.out,HX5.out,⟨by omega,HL5.out⟩,HB5.out⟩
    case measure=>simp [intOf];omega
end
def IsR(a n r:Nat):Prop:=r ^ n<=a/\a<(r+1) ^ n
theorem exists_root(n:Nat)(hn:0<n)(a:Nat):∃ r,IsR a n r:=by
 induction a with
 | zero=>exact⟨0,by rw [Nat.zero_pow hn];exact Nat.le_refl 0,by rw [Nat.one_pow];omega⟩
 | succ a ih=>
  obtain⟨r,h1,h2⟩:=ih
  by_cases h:(r+1) ^ n<=a+1
  ·refine⟨r+1,h,?_⟩;have:(r+1) ^ n<(r+1+1) ^ n:=Nat.pow_lt_pow_left (by omega) (by omega)
   omega
  ·exact⟨r,by omega,by omega⟩
theorem IsR.lt{a n r x:Nat}(h:IsR a n r)(hx:a<x ^ n):r<x:=by
 rcases Nat.lt_or_ge r x with k | k
 ·exact k
 ·have:=Nat.pow_le_pow_left k n;have:=h.1
  omega
theorem IsR.ge{a n r x:Nat}(h:IsR a n r)(hx:x ^ n<=a):x<=r:=by
 rcases Nat.lt_or_ge r x with k | k
 ·have:=Nat.pow_le_pow_left (show r+1<=x from k) n;have:=h.2
  omega
 ·exact k
theorem IsR.pos{a n r:Nat}(h:IsR a n r)(ha:0<a):0<r:=by
 rcases Nat.eq_zero_or_pos r with k | k
 ·subst k;have:=h.2;rw [Nat.zero_add,Nat.one_pow] at this
  omega
 ·exact k
theorem IsR.one{a r:Nat}(h:IsR a 1 r):r=a:=by
 have h1:=h.1;have h2:=h.2;rw [Nat.pow_one] at h1 h2
 omega
theorem IsR.uniq{a n r r':Nat}(h:IsR a n r)(h':IsR a n r'):r=r':=by
 have:=h.ge h'.1;have:=h'.ge h.1
 omega
theorem amgm(r x m:Nat):(m+1)*r*x ^ m<=r ^ (m+1)+m*x ^ (m+1):=by
 induction m with
 | zero=>simp
 | succ m ih=>
  have h1:r*((m+1)*r*x ^ m)<=r*(r ^ (m+1)+m*x ^ (m+1)):=Nat.mul_le_mul_left r ih
  have h2:2*(r*x)<=r*r+x*x:=by
   rcases Nat.le_total r x with h | h
   ·obtain⟨t,rfl⟩:=Nat.exists_eq_add_of_le h
    have e:r*r+(r+t)*(r+t)=2*(r*(r+t))+t*t:=by grind
    omega
   ·obtain⟨t,rfl⟩:=Nat.exists_eq_add_of_le h
    have e:(x+t)*(x+t)+x*x=2*((x+t)*x)+t*t:=by grind
    omega
  have h3:(m+1)*x ^ m*(2*(r*x))<=(m+1)*x ^ m*(r*r+x*x):=Nat.mul_le_mul_left _ h2
  have e1:r ^ (m+1+1)=r*r ^ (m+1):=by rw [Nat.pow_succ r (m+1),Nat.mul_comm]
  have e2:x ^ (m+1)=x*x ^ m:=by rw [Nat.pow_succ,Nat.mul_comm]
  have e3:x ^ (m+1+1)=x*x*x ^ m:=by rw [Nat.pow_succ,e2];grind
  rw [e1,e3,e2];rw [e2] at h1
  grind
theorem newton_step{a m r x:Nat}(h:IsR a (m+1) r)(hx:0<x)(hr:r<=x):r<=(x*m+a / x ^ m) / (m+1)/\(x<=(x*m+a / x ^ m) / (m+1)->r=x):=by
 have hp:0<x ^ m:=Nat.pow_pos hx
 constructor
 ·rw [Nat.le_div_iff_mul_le (by omega)]
  rcases Nat.lt_or_ge (x*m) (r*(m+1)) with k | k
  ·obtain⟨t,ht⟩:=Nat.exists_eq_add_of_le (Nat.le_of_lt k);have ha:=amgm r x m;have h1:=h.1
   have e:(m+1)*r*x ^ m=m*x ^ (m+1)+t*x ^ m:=by
    rw [Nat.mul_comm (m+1) r,ht,Nat.add_mul,Nat.pow_succ];grind
   have h2:t<=a / x ^ m:=(Nat.le_div_iff_mul_le hp).2 (by omega)
   omega
  ·exact Nat.le_trans k (Nat.le_add_right _ _)
 ·intro hy;rw [Nat.le_div_iff_mul_le (by omega)] at hy
  have h1:x<=a / x ^ m:=by
   have e:x*(m+1)=x*m+x:=by rw [Nat.mul_add,Nat.mul_one]
   omega
  rw [Nat.le_div_iff_mul_le hp] at h1
  have h2:x ^ (m+1)<=a:=by rw [Nat.pow_succ,Nat.mul_comm];exact h1
  have:=h.ge h2
  omega
theorem root_shift{a n h r r':Nat}(hr:IsR a n r)(hr':IsR (a / 2 ^ (h*n)) n r'):r<=(r'+1)*2 ^ h:=by
 refine Nat.le_of_lt (hr.lt ?_);have h2:=hr'.2;rw [Nat.div_lt_iff_lt_mul (Nat.two_pow_pos _)] at h2
 rwa [Nat.mul_pow,<- Nat.pow_mul]
theorem root_small{a n r:Nat}(hr:IsR a n r)(h:a<2 ^ (4*n)):r<=32:=by
 rw [Nat.pow_mul] at h;have:=hr.lt h
 omega
end Go.Proofs.YthlmlmfebpjgdaaGreatDoor
