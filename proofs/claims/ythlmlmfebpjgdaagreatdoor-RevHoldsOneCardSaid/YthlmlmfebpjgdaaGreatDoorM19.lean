/-
Lemmas for the statement: SgnT SgnL ClS IsqT Hd4P Hd5P RgP RndwP RndwT NbigT AwT.
-/
import Derived.Test.YthlmlmfebpjgdaaGreatDoorM18
import Derived.Test.YthlmlmfebpjgdaaGreatDoorM15
import Derived.Test.YthlmlmfebpjgdaaGreatDoorM05
import Derived.Test.YthlmlmfebpjgdaaGreatDoorM04
import Derived.Deep.DeepCutAuto
import Derived.Test.YthlmlmfebpjgdaaGreatDoorM14
import Derived.Test.YthlmlmfebpjgdaaGreatDoorM12
import Derived.Test.YthlmlmfebpjgdaaGreatDoorM09
import Derived.Test.YthlmlmfebpjgdaaGreatDoorM13
set_option linter.unusedSimpArgs false
set_option linter.unusedVariables false
set_option maxHeartbeats 12800000
set_option maxRecDepth 8000
namespace Go.Proofs.YthlmlmfebpjgdaaGreatDoor
open Go.Proofs.Tryz
open Go.RowKit
def sgI(i:Int):Int:=if 0<i then 4607182418800017408 else if i<0 then -4607182418800017408 else 0
def sgF(k:Int):Int:=if k=-4607182418800017408 then -(M:Int) else 0
def sgT(k:Int):Int:=if k=4607182418800017408 then (M:Int) else 0
def sgW(b:Nat):Nat:=if 0<idx b then 4607182418800017408 else if idx b<0 then 13830554455654793216 else 0
def sgq(c x:Int × Int):Int × Int:=stp sgI sgF sgT (it c.1 c.2 (-4607182418800017408) 4607182418800017408) x
theorem sgW_is(i:Int)(h0:-(M:Int)<=i)(h1:i<=M):Is (sgW (pat i)) (sgI i):=by
 have hM:=M_val;unfold sgW sgI;rw [idx_pat h0 h1]
 by_cases c:0<i
 ·rw [if_pos c,if_pos c];exact is_pat (i:=4607182418800017408) (by omega)
 ·rw [if_neg c,if_neg c]
  by_cases d:i<0
  ·rw [if_pos d,if_pos d];exact is_pat (i:=-4607182418800017408) (by omega)
  ·rw [if_neg d,if_neg d];exact is_pat (i:=0) (by omega)
theorem val_sign(w:World):ValFn w 121 sgW:=by
 refine .inl ⟨enters_of func121 (by kernel_rfl) rfl,fun i h0 h1 W _=>?_⟩;have hM:=M_val;have o:=order_is (is_pat ⟨h0,h1⟩) (is_pat (i:=0) (by omega));rw [pat_zero] at o;unfold sgW;rw [idx_pat h0 h1]
 rcases Int.lt_trichotomy i 0 with c | c | c
 ·rw [Int.compare_eq_lt.2 c] at o;have h:=sign1 (pat i) _ W o;rw [if_neg (by omega),if_pos c];exact h
 ·rw [Int.compare_eq_eq.2 c] at o;have h:=sign1 (pat i) _ W o;rw [if_neg (by omega),if_neg (by omega)];exact h
 ·rw [Int.compare_eq_gt.2 c] at o;have h:=sign1 (pat i) _ W o;rw [if_pos c];exact h
theorem eq_false{a b:Nat}{i j:Int}(ha:Is a i)(hb:Is b j)(h:i≠j):(FloatKind.f64.format.order a b == some Ordering.eq)=false:=by
 rw [order_is ha hb]
 rcases Int.lt_or_gt_of_ne h with k | k
 ·rw [Int.compare_eq_lt.2 k];rfl
 ·rw [Int.compare_eq_gt.2 k];rfl
theorem side_low{W0:World}{B:Nat}(hc:Cap W0 B 13830554455654793216):
  ∀ i,-(M:Int)<=i->i<M->(-(M:Int)<=sgF (wh 2 i)/\sgF (wh 2 i)<=M)/\∀ W,Below W0.heap.size W0 W->Calls prog 123 (#[.float .f64 (pat (wh 2 i))] ++ #[.pointer (some ⟨B,0,none⟩)]) W fun e w'=>e=.returned (.float .f64 (pat (sgF (wh 2 i))))/\Below W.heap.size W w':=by
 intro i h0 h1;have hM:=M_val;have r:=wh_rng (w:=2) (by omega) (i:=i) (by omega);refine⟨by unfold sgF;split<;>omega,fun W hW=>?_⟩
 by_cases c:wh 2 i=-4607182418800017408
 ·unfold sgF;rw [if_pos c,c,pat_min]
  exact side1_down B W (hc.below hW).1
 ·unfold sgF;rw [if_neg c,pat_zero]
  exact side1_no _ _ B W (hc.below hW).1 (eq_false (is_pat ⟨r.1,r.2.1⟩) (pat_mone ▸ is_pat (i:=-4607182418800017408) (by omega)) c)
theorem side_up{W0:World}{B:Nat}(hc:Cap W0 B 4607182418800017408):
  ∀ i,-(M:Int)<i->i<=M->(-(M:Int)<=sgT (wh 1 i)/\sgT (wh 1 i)<=M)/\∀ W,Below W0.heap.size W0 W->Calls prog 123 (#[.float .f64 (pat (wh 1 i))] ++ #[.pointer (some ⟨B,0,none⟩)]) W fun e w'=>e=.returned (.float .f64 (pat (sgT (wh 1 i))))/\Below W.heap.size W w':=by
 intro i h0 h1;have hM:=M_val;have r:=wh_rng (w:=1) (by omega) (i:=i) (by omega);refine⟨by unfold sgT;split<;>omega,fun W hW=>?_⟩
 by_cases c:wh 1 i=4607182418800017408
 ·unfold sgT;rw [if_pos c,c,pat_max]
  exact side1_up B W (hc.below hW).1
 ·unfold sgT;rw [if_neg c,pat_zero]
  exact side1_no _ _ B W (hc.below hW).1 (eq_false (is_pat ⟨r.1,r.2.1⟩) (pat_one ▸ is_pat (i:=4607182418800017408) (by omega)) c)
theorem unit_iv:Iv (-4607182418800017408) 4607182418800017408:=by unfold Iv;have:=M_val;omega
theorem signrev_any(c1 c2 x y:Nat)(w:World)(hc1:L64 c1)(hc2:L64 c2)(hx:L64 x)(hy:L64 y):
  Rt 54 #[Zf c1 c2,Zf x y] (Zf (pat (sgq (rd c1 c2) (rd x y)).1) (pat (sgq (rd c1 c2) (rd x y)).2)) w:=by
 have v:=it_iv (rd_iv c1 c2) unit_iv;refine sign_walk c1 c2 x y _ _ _ _ w (fun W=>inter_gen _ _ _ _ c1 c2 13830554455654793216 4607182418800017408 W (rd_iv c1 c2) unit_iv (fun W=>readf c1 c2 W hc1 hc2) (fun W=>readf_idx _ _ W unit_iv)) fun W B0 B1 h0 h1=>?_
 have h:=step_idx 121 123 123 #[.pointer (some ⟨B0,0,none⟩)] #[.pointer (some ⟨B1,0,none⟩)] sgW sgI sgF sgT _ _ x y W (pat_lt v.lo.1 v.lo.2) (pat_lt v.hi.1 v.hi.2) hx hy sgW_is (val_sign W)
  ⟨enters_of func123 (by kernel_rfl) rfl,enters_of func123 (by kernel_rfl) rfl,side_low h0,side_up h1⟩
 rw [rd_pat v] at h
 exact h
theorem es_at0:es 0=0:=by decide
theorem ex_at0:ex 0=0:=by unfold ex;rw [if_pos es_at0,fl_zero]
theorem pf_idx{b1 b2:Int}{o1 o2:Bool}{i j:Int}(h1:b1=0\/b1=-(M:Int))(h2:b2=0\/b2=M)(hx:-(M:Int)<=i/\i<=j/\j<=M/\i<M/\-(M:Int)<j):
  pf (es b1) 0 o1 (es b2) 0 o2 i j=if b2<i\/(i=b2/\o2=true)\/j<b1\/(j=b1/\o1=true) then ((M:Int),-(M:Int)) else (if i<b1 then 0 else i,if b2<j then 0 else j):=by
 have hM:=M_val
 have x1:ex b1=0:=by rcases h1 with rfl | rfl;exact ex_at0;exact ex_min
 have x2:ex b2=0:=by rcases h2 with rfl | rfl;exact ex_at0;exact ex_max
 have a1:=ec_idx (i:=i) (b:=b2) (by omega) (by omega) (by omega) (by omega);have a2:=ec_idx (i:=j) (b:=b1) (by omega) (by omega) (by omega) (by omega);have a3:=ec_idx (i:=i) (b:=b1) (by omega) (by omega) (by omega) (by omega);have a4:=ec_idx (i:=j) (b:=b2) (by omega) (by omega) (by omega) (by omega);rw [x1] at a2 a3;rw [x2] at a1 a4;unfold SameSign at a1 a2 a3 a4;unfold pf wg;rw [if_neg (by omega),rndI_zero (.inl rfl),rndI_zero (.inr rfl)]
 have c:(0<ec (es i) (ex i) (es b2) 0\/ec (es i) (ex i) (es b2) 0=0/\o2=true\/ec (es j) (ex j) (es b1) 0<0\/ec (es j) (ex j) (es b1) 0=0/\o1=true)↔(b2<i\/(i=b2/\o2=true)\/j<b1\/(j=b1/\o1=true)):=by
  have e1:ec (es i) (ex i) (es b2) 0=0↔i=b2:=by omega
  have e2:ec (es j) (ex j) (es b1) 0=0↔j=b1:=by omega
  have e3:0<ec (es i) (ex i) (es b2) 0↔b2<i:=by omega
  have e4:ec (es j) (ex j) (es b1) 0<0↔j<b1:=by omega
  rw [e1,e2,e3,e4]
 by_cases h:b2<i\/(i=b2/\o2=true)\/j<b1\/(j=b1/\o1=true)
 ·rw [if_pos (c.2 h),if_pos h]
 ·rw [if_neg (mt c.1 h),if_neg h]
  have e3:ec (es i) (ex i) (es b1) 0<0↔i<b1:=by omega
  have e4:0<ec (es j) (ex j) (es b2) 0↔b2<j:=by omega
  refine Prod.ext ?_ ?_
  ·show (if _ then (0:Int) else i)=if _ then 0 else i
   by_cases k:i<b1
   ·rw [if_pos (e3.2 k),if_pos k]
   ·rw [if_neg (mt e3.1 k),if_neg k]
  ·show (if _ then (0:Int) else j)=if _ then 0 else j
   by_cases k:b2<j
   ·rw [if_pos (e4.2 k),if_pos k]
   ·rw [if_neg (mt e4.1 k),if_neg k]
def unI(k:Int):Int:=if 0<k then 4607182418800017408 else if k<0 then -4607182418800017408 else 0
theorem fl_unI{k:Int}(h:-1<=k/\k<=1):fl (unI k)=(k:Rat):=by
 have hk:k=-1\/k=0\/k=1:=by omega
 rcases hk with rfl | rfl | rfl
 ·show fl (-4607182418800017408)=_
  rw [fl_neg,fl_one];rfl
 ·exact fl_zero
 ·exact fl_one
theorem sgn_pf{d1 d2 i j k1 k2:Int}(hw1:wh 2 d1=unI k1)(hw2:wh 1 d2=unI k2)(hk:-1<=k1/\k1<=k2/\k2<=1)(hd:¬ d2<d1)(hx:-(M:Int)<=i/\i<=j/\j<=M/\i<M/\-(M:Int)<j):
  stp sgI sgF sgT (d1,d2) (i,j)=pf (if k1<0 then -1 else 0) 0 (decide (k1≠0)) (if 0<k2 then 1 else 0) 0 (decide (k2≠0)) i j:=by
 have hM:=M_val
 have e1:(if k1<0 then (-1:Int) else 0)=es (if k1<0 then -(M:Int) else 0):=by split;rw [es_min];rw [es_at0]
 have e2:(if 0<k2 then (1:Int) else 0)=es (if 0<k2 then (M:Int) else 0):=by split;rw [es_max];rw [es_at0]
 rw [e1,e2,pf_idx (by split<;>simp) (by split<;>simp) hx];unfold stp
 dsimp only
 rw [if_neg (show ¬ (d2<d1\/j<i) by omega),hw1,hw2]
 have a1:k1=-1\/k1=0\/k1=1:=by omega
 have a2:k2=-1\/k2=0\/k2=1:=by omega
 have u1:unI 1=4607182418800017408:=rfl;have u2:unI (-1)=-4607182418800017408:=rfl;have u3:unI 0=0:=rfl
 rcases a1 with rfl | rfl | rfl<;>rcases a2 with rfl | rfl | rfl<;>first | (exfalso;omega) | skip
 all_goals
  simp only [u1,u2,u3,sgF,sgT,sgI]
  by_cases p1:0<i<;>by_cases p2:i<0<;>by_cases p3:0<j<;>by_cases p4:j<0<;>first | (exfalso;omega) | skip
 all_goals
  (try simp only [p1,p2,p3,p4,if_true,if_false,reduceIte,true_or,or_true,Int.reduceEq,Int.reduceNeg,Int.reduceLT,ne_eq,not_true,not_false_eq_true,decide_true,decide_false,Bool.false_eq_true,and_false,and_true,or_false,false_or])
 all_goals (repeat' split)
 all_goals refine Prod.ext ?_ ?_
 all_goals (first | rfl | (dsimp only;first | rfl | omega) | omega)
theorem wh_unit{w:Nat}(hw:w=1\/w=2){d:Int}(h:-4607182418800017408<=d/\d<=4607182418800017408):∃ k:Int,-1<=k/\k<=1/\wh w d=unI k/\(k:Rat)=fl (wh w d):=by
 have hM:=M_val;have b:=(wh_fin (w:=w) (by omega) (i:=d) (by omega) (by omega)).1;have l1:=fl_le_iff.2 h.1;have l2:=fl_le_iff.2 h.2;rw [fl_neg,fl_one] at l1;rw [fl_one] at l2
 have inj:∀ {i j:Int},fl i=fl j->i=j:=fun {i j} e=>by
  have a:=(fl_le_iff (i:=i) (j:=j)).1 (by rw [e];exact Rat.le_refl);have b:=(fl_le_iff (i:=j) (j:=i)).1 (by rw [e];exact Rat.le_refl)
  omega
 rcases hw with rfl | rfl
 ·have k1:-1<=(fl d).floor:=Rat.le_floor_iff.2 (by rw [Rat.intCast_neg];exact l1)
  have k2:(fl d).floor<=1:=by
   have:=Rat.floor_le (fl d);have q:(((fl d).floor:Int):Rat)<=((1:Int):Rat):=Rat.le_trans this l2
   exact Rat.intCast_le_intCast.1 q
  exact⟨(fl d).floor,k1,k2,inj (b.trans (fl_unI ⟨k1,k2⟩).symm),b.symm⟩
 ·have k2:(fl d).ceil<=1:=(ceil_le_iff _ _).2 l2
  have k1:-1<=(fl d).ceil:=by
   have q:=(ceil_le_iff (fl d) (fl d).ceil).1 (Int.le_refl _);have q2:((-1:Int):Rat)<=(((fl d).ceil:Int):Rat):=Rat.le_trans (by rw [Rat.intCast_neg];exact l1) q
   exact Rat.intCast_le_intCast.1 q2
  exact⟨(fl d).ceil,k1,k2,inj (b.trans (fl_unI ⟨k1,k2⟩).symm),b.symm⟩
section
attribute [local go_sem] run_store_float
theorem iside_walk(p1 p2:Nat)(o1 o2:Ordering)(r:Int)(w:World)(h1:FloatKind.f64.format.order p1 0=some o1)(h2:FloatKind.f64.format.order p2 0=some o2)(hc:((o1=.eq\/o1=.gt)/\r=1)\/(o1=.lt/\((o2=.lt\/o2=.eq)/\r=0\/o2=.gt/\r=2))):
  Rt 118 #[Zf p1 p2] (.int .i64 r) w:=by
 rcases hc with ⟨rfl | rfl,rfl⟩ | ⟨rfl,⟨rfl | rfl,rfl⟩ | ⟨rfl,rfl⟩⟩
 all_goals
  have LL:=li1 w (Zv p1 p2) 28
  go_enter func118,ntmps118
  obtain⟨q1_0,q1_1⟩:=(LL.out.blk 0 rfl).c2;go_wp2
  go_ret
  exact⟨rfl,LL.out.b⟩
theorem iside_any(i j:Int)(w:World)(hi:-(M:Int)<=i/\i<=M)(hj:-(M:Int)<=j/\j<=M):
  Rt 118 #[Zf (pat i) (pat j)] (.int .i64 (if 0<=i then 1 else if j<=0 then 0 else 2)) w:=by
 have hM:=M_val
 have z:-(M:Int)<=0/\(0:Int)<=M:=by omega
 have o1:=order_pat hi.1 hi.2 z.1 z.2;have o2:=order_pat hj.1 hj.2 z.1 z.2;rw [pat_zero] at o1 o2;refine iside_walk _ _ _ _ _ w o1 o2 ?_
 by_cases a:0<=i
 ·rw [if_pos a];refine .inl ⟨?_,rfl⟩
  rcases Int.lt_or_eq_of_le a with a | a
  ·exact .inr (Int.compare_eq_gt.2 a)
  ·exact .inl (Int.compare_eq_eq.2 a.symm)
 ·rw [if_neg a];refine .inr ⟨Int.compare_eq_lt.2 (by omega),?_⟩
  by_cases b:j<=0
  ·rw [if_pos b];refine .inl ⟨?_,rfl⟩
   rcases Int.lt_or_eq_of_le b with b | b
   ·exact .inl (Int.compare_eq_lt.2 b)
   ·exact .inr (Int.compare_eq_eq.2 b)
  ·rw [if_neg b]
   exact .inr ⟨Int.compare_eq_gt.2 (by omega),rfl⟩
theorem isqr_none(u1 u2 p1 p2:Nat)(w:World)(hR:∀ W,Rt 102 #[Zf u1 u2] (Zf p1 p2) W)(hE:∀ W,Rt 116 #[Zf p1 p2] (.bool true) W):
  Rt 52 #[Zf u1 u2] (Zf p1 p2) w:=by
 have HR:=Hd hR;have HE:=Hd hE;clear hR hE;have LL:=li2 w (Zv u1 u2) 28 (Zv 0 0) 28
 go_enter func52,ntmps52
 obtain⟨q1_0,q1_1⟩:=(LL.out.blk 0 rfl).c2;go_wp2_with fail;refine cx (HR.out _) fun wk hb=>?_;replace LL:=stL LL hb;clear hb q1_0 q1_1 HR;obtain⟨q2_0,q2_1⟩:=(LL.out.blk 0 rfl).c2;have fz0:=(LL.out.blk 0 rfl).frozen 0;have fz1:=(LL.out.blk 0 rfl).frozen 1
 go_upto_region 2 with fail
 clear q2_0 q2_1 fz0 fz1;replace LL:=Hd (LL.out.part 0 rfl 0 [.float .f64 p1,.float .f64 p2] (by omega) (by simp<;>omega) (by simp<;>omega))
 simp only [List.eraseIdx,laid,List.cons_append,List.nil_append,List.setIfInBounds_toArray,List.set_cons_zero,List.set_cons_succ,Nat.zero_add,Nat.reduceAdd] at LL
 obtain⟨wn,hwn⟩:∃ X,(sets wk w.heap.size 0 [.float .f64 p1,.float .f64 p2])=X:=⟨_,rfl⟩
 rw [hwn] at LL
 simp only [sets,Nat.reduceAdd] at hwn
 rw [hwn];clear hwn;obtain⟨q3_0,q3_1⟩:=(LL.out.blk 1 rfl).c2;go_wp2_with fail;refine cx (HE.out _) fun wk hb=>?_;replace LL:=stL LL hb;clear hb q3_0 q3_1 HE;obtain⟨q4_0,q4_1⟩:=(LL.out.blk 1 rfl).c2;replace LL:=Hd (LL.out.loose0 rfl);obtain⟨ha2_0,hf2_0,ha2_1,hf2_1⟩:=(LL.out.has 0 rfl).sf2;have LF:=Hd (LL.out.wr [.float .f64 p1,.float .f64 p2]);obtain⟨hk2_0,hk2_1⟩:=(LF.out.blk 1 rfl).c2
 simp [sets] at hk2_0 hk2_1
 clear LL;go_wp2;refine bodyPost_ret (v:=Zf p1 p2) (by simp [results,results52,go_sem,hk2_0,hk2_1]) rfl ?_
 exact⟨rfl,LF.out.b⟩
theorem isqr_some(u1 u2 p1 p2 a b l m r1 r2:Nat)(o:Ordering)(sd:Int)(w:World)(hR:∀ W,Rt 102 #[Zf u1 u2] (Zf p1 p2) W)(hE:∀ W,Rt 116 #[Zf p1 p2] (.bool false) W)(hA:∀ W,Rt 117 #[.float .f64 p1] (.float .f64 a) W)(hB:∀ W,Rt 117 #[.float .f64 p2] (.float .f64 b) W)(ho:FloatKind.f64.format.order a b=some o)
  (hS:∀ W,Rt 118 #[Zf p1 p2] (.int .i64 sd) W)(hL:∀ W,Rt 119 #[.int .i64 (-1),.float .f64 l,.float .f64 l] (.float .f64 r1) W)(hM:∀ W,Rt 119 #[.int .i64 1,.float .f64 m,.float .f64 m] (.float .f64 r2) W)
  (hc:(o=.gt/\m=a/\((sd=2/\l=0)\/((sd=0\/sd=1)/\l=b)))\/((o=.lt\/o=.eq)/\m=b/\((sd=2/\l=0)\/((sd=0\/sd=1)/\l=a)))):
  Rt 52 #[Zf u1 u2] (Zf r1 r2) w:=by
 have HR:=Hd hR;have HE:=Hd hE;have HA:=Hd hA;have HB:=Hd hB;have HS:=Hd hS;have HL:=Hd hL;have HM:=Hd hM;clear hR hE hA hB hS hL hM
 rcases hc with ⟨rfl,rfl,⟨rfl,rfl⟩ | ⟨rfl | rfl,rfl⟩⟩ | ⟨rfl | rfl,rfl,⟨rfl,rfl⟩ | ⟨rfl | rfl,rfl⟩⟩
 all_goals
  have LL:=li2 w (Zv u1 u2) 28 (Zv 0 0) 28
  go_enter func52,ntmps52
  obtain⟨q1_0,q1_1⟩:=(LL.out.blk 0 rfl).c2;go_wp2_with fail;refine cx (HR.out _) fun wk hb=>?_;replace LL:=stL LL hb;clear hb q1_0 q1_1 HR;obtain⟨q2_0,q2_1⟩:=(LL.out.blk 0 rfl).c2;have fz0:=(LL.out.blk 0 rfl).frozen 0;have fz1:=(LL.out.blk 0 rfl).frozen 1
  go_upto_region 2 with fail
  clear q2_0 q2_1 fz0 fz1;replace LL:=Hd (LL.out.part 0 rfl 0 [.float .f64 p1,.float .f64 p2] (by omega) (by simp<;>omega) (by simp<;>omega))
  simp only [List.eraseIdx,laid,List.cons_append,List.nil_append,List.setIfInBounds_toArray,List.set_cons_zero,List.set_cons_succ,Nat.zero_add,Nat.reduceAdd] at LL
  obtain⟨wn,hwn⟩:∃ X,(sets wk w.heap.size 0 [.float .f64 p1,.float .f64 p2])=X:=⟨_,rfl⟩
  rw [hwn] at LL
  simp only [sets,Nat.reduceAdd] at hwn
  rw [hwn];clear hwn;obtain⟨q3_0,q3_1⟩:=(LL.out.blk 1 rfl).c2;go_wp2_with fail;refine cx (HE.out _) fun wk hb=>?_;replace LL:=stL LL hb;clear hb q3_0 q3_1 HE
  go_upto_region 4 with fail
  refine regL LL (fun hHeld=>?_);clear LL;generalize World.drew _=wk at hHeld  ⊢;refine tks 0 ?_;refine tkb 1 (fun _ h=>(h.blk 1 rfl).c2) ?_;refine tks 3 ?_;refine tkb 4 (fun _ h=>(h.blk 1 rfl).c2) ?_;refine rcs 2 (HA.out _) ?_;clear hHeld;intro wk hb1 hHeld;clear hb1;refine rcs 5 (HB.out _) ?_;clear hHeld;intro wk hb2 hHeld;clear hb2;refine tks 6 ?_;refine tks 7 ?_;refine wpAnyH_done (by kernel_rfl) ?_ _;have LL:=Hd hHeld;clear hHeld;obtain⟨q4_0,q4_1⟩:=(LL.out.blk 1 rfl).c2;go_wp2_with fail;refine cx (HS.out _) fun wk hb=>?_;replace LL:=stL LL hb;clear hb q4_0 q4_1 HA HB HS ho;go_wp2_with fail;refine cx (HL.out _) fun wk hb=>?_;replace LL:=stL LL hb;clear hb HL;go_wp2_with fail;refine cx (HM.out _) fun wk hb=>?_;replace LL:=stL LL hb;clear hb HM;replace LL:=Hd (LL.out.loose0 rfl);obtain⟨ha2_0,hf2_0,ha2_1,hf2_1⟩:=(LL.out.has 0 rfl).sf2;have LF:=Hd (LL.out.wr [.float .f64 r1,.float .f64 r2]);obtain⟨hk2_0,hk2_1⟩:=(LF.out.blk 1 rfl).c2
  simp [sets] at hk2_0 hk2_1
  clear LL;go_wp2;refine bodyPost_ret (v:=Zf r1 r2) (by simp [results,results52,go_sem,hk2_0,hk2_1]) rfl ?_
  exact⟨rfl,LF.out.b⟩
def isq(i j:Int):Int × Int:=if j<i then ((M:Int),-(M:Int)) else (sq (-1) (if i<0/\0<j then 0 else min (i.natAbs:Int) j.natAbs),sq 1 (max (i.natAbs:Int) j.natAbs))
theorem pat_nat(n:Nat):pat (n:Int)=n:=by unfold pat;rw [if_neg (by omega),Int.natAbs_natCast]
theorem isqr_any(b1 b2:Nat)(w:World)(hb1:L64 b1)(hb2:L64 b2):
  Rt 52 #[Zf b1 b2] (Zf (pat (isq (rd b1 b2).1 (rd b1 b2).2).1) (pat (isq (rd b1 b2).1 (rd b1 b2).2).2)) w:=by
 have hM:=M_val;have v1:=rd_iv b1 b2;have t1:=fun W=>readf b1 b2 W hb1 hb2
 obtain⟨⟨i,j⟩,r1⟩:∃ z,rd b1 b2=z:=⟨_,rfl⟩
 rw [r1] at v1 t1;rw [r1]
 dsimp only at *
 have E1:=fun W=>emptyq i j W v1.lo v1.hi;unfold isq
 by_cases c:j<i
 ·rw [if_pos c];rw [decide_eq_true c] at E1
  have ee:i=M/\j=-(M:Int):=by unfold Iv at v1;omega
  obtain⟨rfl,rfl⟩:=ee
  exact isqr_none _ _ _ _ w t1 E1
 ·rw [if_neg c];rw [decide_eq_false c] at E1;have n1:=v1.lo;have n2:=v1.hi
  have ab:∀ k:Int,-(M:Int)<=k/\k<=M->∀ W,Rt 117 #[.float .f64 (pat k)] (.float .f64 (pat (k.natAbs:Int))) W:=fun k hk W=>by
   refine (abs_any (pat k) W (pat_lt hk.1 hk.2)).mono ?_;rintro e w' ⟨he,rfl⟩;rw [rung_pat hk.1 hk.2] at he;rw [pat_nat]
   exact⟨he,Below.refl _ _⟩
  have ml:∀ (d k:Int),d=-1\/d=1->0<=k/\k<=M->∀ W,Rt 119 #[.int .i64 d,.float .f64 (pat k),.float .f64 (pat k)] (.float .f64 (pat (sq d k))) W:=fun d k hd hk W=>by
   unfold sq
   by_cases h:k=0
   ·subst h;rw [if_pos rfl,pat_zero];exact mul_nought d W hd
   ·rw [if_neg h];exact rmul_pat d k k W hd (by omega) (by omega) h h
  have oo:=order_pat (i:=(i.natAbs:Int)) (j:=(j.natAbs:Int)) (by omega) (by omega) (by omega) (by omega);have zz:pat (0:Int)=0:=pat_zero;have sd:=fun W=>iside_any i j W n1 n2;refine isqr_some _ _ _ _ _ _ (pat (if i<0/\0<j then 0 else min (i.natAbs:Int) j.natAbs)) (pat (max (i.natAbs:Int) j.natAbs)) _ _ _ _ w t1 E1 (ab i n1) (ab j n2) oo sd (ml (-1) _ (.inl rfl) (by split<;>omega)) (ml 1 _ (.inr rfl) (by omega)) ?_
  have s2:((if 0<=i then (1:Int) else if j<=0 then 0 else 2)=2/\i<0/\0<j)\/(((if 0<=i then (1:Int) else if j<=0 then 0 else 2)=0\/(if 0<=i then (1:Int) else if j<=0 then 0 else 2)=1)/\¬ (i<0/\0<j)):=by
   by_cases a:0<=i
   ·rw [if_pos a];omega
   ·rw [if_neg a]
    by_cases b:j<=0
    ·rw [if_pos b];omega
    ·rw [if_neg b];omega
  by_cases h:(j.natAbs:Int)<i.natAbs
  ·refine .inl ⟨Int.compare_eq_gt.2 h,by rw [show max (i.natAbs:Int) j.natAbs=i.natAbs by omega],?_⟩
   rcases s2 with ⟨s,t⟩ | ⟨s,t⟩
   ·exact .inl ⟨s,by rw [if_pos t];exact zz⟩
   ·exact .inr ⟨s,by rw [if_neg t,show min (i.natAbs:Int) j.natAbs=j.natAbs by omega]⟩
  ·refine .inr ⟨?_,by rw [show max (i.natAbs:Int) j.natAbs=j.natAbs by omega],?_⟩
   ·rcases Int.lt_or_eq_of_le (show (i.natAbs:Int)<=j.natAbs by omega) with h | h
    ·exact .inl (Int.compare_eq_lt.2 h)
    ·exact .inr (Int.compare_eq_eq.2 h)
   ·rcases s2 with ⟨s,t⟩ | ⟨s,t⟩
    ·exact .inl ⟨s,by rw [if_pos t];exact zz⟩
    ·exact .inr ⟨s,by rw [if_neg t,show min (i.natAbs:Int) j.natAbs=i.natAbs by omega]⟩
end
theorem it_in{a b i j:Int}{v:Rat}(hr:-(M:Int)<=a/\b<=M/\-(M:Int)<=i/\j<=M)(h:In a b v)(hx:In i j v):In (it a b i j).1 (it a b i j).2 v:=by
 have n:=h.ne hr.1 hr.2.1;have m:=hx.ne hr.2.2.1 hr.2.2.2;have lo:=rndI_le v;unfold Ne at *;unfold In at *
 have z:¬ (b<a\/j<i\/min b j<max a i):=by omega
 unfold it;rw [if_neg z]
 dsimp only;omega
def rab(v:Rat):Rat:=if v<0 then -v else v
theorem rnd_nn{d:Int}(hd:d=-1\/d=1){v:Rat}(h:0<=v):0<=rndI d v:=by
 have:=rndI_mono hd h
 rwa [rndI_zero hd] at this
theorem rnd_np{d:Int}(hd:d=-1\/d=1){v:Rat}(h:v<=0):rndI d v<=0:=by
 have:=rndI_mono hd h
 rwa [rndI_zero hd] at this
theorem le_rnd{d k:Int}(hd:d=-1\/d=1){v:Rat}(h0:-(M:Int)<k)(h1:k<M)(h:fl k<=v):k<=rndI d v:=by
 have:=rndI_mono hd h
 rwa [rndI_fl hd h0 h1] at this
theorem rnd_le{d k:Int}(hd:d=-1\/d=1){v:Rat}(h0:-(M:Int)<k)(h1:k<M)(h:v<=fl k):rndI d v<=k:=by
 have:=rndI_mono hd h
 rwa [rndI_fl hd h0 h1] at this
theorem rnd_rng{d:Int}(hd:d=-1\/d=1)(v:Rat):-(M:Int)<=rndI d v/\rndI d v<=M:=by
 have hM:=M_val
 rcases hd with rfl | rfl
 ·have:=rndI_down v;omega
 ·have:=rndI_up v;omega
theorem abr_in{c1 c2 i j:Int}{v:Rat}(hr:-(M:Int)<=c1/\c2<=M/\-(M:Int)<=i/\j<=M)(hc:In c1 c2 (rab v))(hx:In i j v):In (abr c1 c2 i j).1 (abr c1 c2 i j).2 v:=by
 have hM:=M_val;have n:=hc.ne hr.1 hr.2.1;have m:=hx.ne hr.2.2.1 hr.2.2.2;unfold Ne at n m
 have ra:0<=rab v:=by unfold rab;split<;>grind
 have r1:=rnd_nn (d:=-1) (.inl rfl) ra;have r2:=rnd_nn (d:=1) (.inr rfl) ra;have le:=rndI_le (rab v);have hc2:=hc;unfold In at hc2
 have z:¬ (c2<c1\/j<i\/c2<0):=by omega
 unfold abr;rw [if_neg z,ctO_false,ctO_false];refine In.hull ?_
 by_cases s:v<0
 ·have e:rab v=-v:=if_pos s;rw [e] at r1 r2 le hc2;have k1:=rndI_neg (d:=1) (.inr rfl) v;have k2:=rndI_neg (d:=-1) (.inl rfl) v;rw [show (-(-1):Int)=1 from rfl] at k2
  exact .inr (ct_in hx (by omega) (by omega) (by omega) (by omega))
 ·have e:rab v=v:=if_neg s;rw [e] at r1 r2 le hc2
  exact .inl (ct_in hx (by omega) (by omega) (by omega) (by omega))
theorem rpow_le_iff{a b:Rat}(ha:0<=a)(hb:0<=b){n:Nat}(hn:0<n):a ^ n<=b ^ n↔a<=b:=by
 constructor
 ·intro h
  by_cases c:a<=b
  ·exact c
  ·have:=rpow_lt hb (show b<a by grind) n hn
   exfalso;grind
 ·intro h;exact rpow_le ha h n
theorem rpow_nn{a:Rat}(ha:0<=a)(n:Nat):0<=a ^ n:=by
 induction n with
 | zero=>rw [Rat.pow_zero];decide
 | succ n ih=>rw [Rat.pow_succ];exact Rat.mul_nonneg ih ha
theorem rtq_lo{d:Int}(hd:d=-1\/d=1){x q v:Rat}{n:Nat}(hn:0<n)(h:RtQ x n q)(hv:0<=v)(hx:x<=v ^ n):rndI d q<=rndI d v:=by
 have hM:=M_val
 rcases hd with rfl | rfl
 ·have a:=rndI_down q;have p:=rnd_nn (d:=-1) (.inl rfl) (show 0<=q by have:=h.1;grind);have k:=(a.2.2 _ (by omega) (by omega)).1 (Int.le_refl _);have k2:=(h.2 _ p).1.1 k;have k3:=(rpow_le_iff (fl_nn p) hv hn).1 (Rat.le_trans k2 hx)
  exact le_rnd (.inl rfl) (by omega) (by omega) k3
 ·have a:=rndI_up v;have p:=rnd_nn (d:=1) (.inr rfl) hv
  by_cases e:rndI 1 v=M
  ·rw [e];exact (rnd_rng (.inr rfl) q).2
  ·have k:=(a.2.2 _ (by omega) (by omega)).1 (Int.le_refl _);have k2:=rpow_le hv k n;have k3:=(h.2 _ p).2.2 (Rat.le_trans hx k2)
   exact rnd_le (.inr rfl) (by omega) (by omega) k3
theorem rtq_hi{d:Int}(hd:d=-1\/d=1){x q v:Rat}{n:Nat}(hn:0<n)(h:RtQ x n q)(hv:0<=v)(hx:v ^ n<=x):rndI d v<=rndI d q:=by
 have hM:=M_val
 rcases hd with rfl | rfl
 ·have a:=rndI_down v;have p:=rnd_nn (d:=-1) (.inl rfl) hv;have k:=(a.2.2 _ (by omega) (by omega)).1 (Int.le_refl _);have k2:=rpow_le (fl_nn p) k n;have k3:=(h.2 _ p).1.2 (Rat.le_trans k2 hx)
  exact le_rnd (.inl rfl) (by omega) (by omega) k3
 ·have a:=rndI_up q;have p:=rnd_nn (d:=1) (.inr rfl) (show 0<=q by have:=h.1;grind)
  by_cases e:rndI 1 q=M
  ·rw [e];exact (rnd_rng (.inr rfl) v).2
  ·have k:=(a.2.2 _ (by omega) (by omega)).1 (Int.le_refl _);have k2:=(h.2 _ p).2.1 k;have k3:=(rpow_le_iff hv (fl_nn p) hn).1 (Rat.le_trans hx k2)
   exact rnd_le (.inr rfl) (by omega) (by omega) k3
theorem rt1_lo{d a:Int}(hd:d=-1\/d=1){v:Rat}{n:Nat}(hn:1<=n)(hn2:n<=1024)(h0:0<=a)(h1:a<M)(hv:0<=v)(hx:fl a<=v ^ n):rt1 d a n<=rndI d v:=by
 have hM:=M_val;unfold rt1
 by_cases z:a=0
 ·rw [if_pos (.inl z),z];exact rnd_nn hd hv
 ·rw [if_neg (by omega)]
  exact rtq_lo hd hn (RtQ.of (rt_ok (by omega) h1 hn hn2)) hv hx
theorem rt1_hi{d a:Int}(hd:d=-1\/d=1){v:Rat}{n:Nat}(hn:1<=n)(hn2:n<=1024)(h0:0<=a)(h1:a<=M)(hv:0<=v)(hx:a<M->v ^ n<=fl a):rndI d v<=rt1 d a n:=by
 have hM:=M_val;unfold rt1
 by_cases z:a=0\/a=M
 ·rw [if_pos z]
  rcases z with rfl | rfl
  ·have k:=hx (by omega);rw [fl_zero] at k
   have v0:v<=0:=by
    by_cases c:v<=0
    ·exact c
    ·have:=rpow_lt (a:=0) (b:=v) (by decide) (by grind) n (by omega)
     have e:(0:Rat) ^ n=0:=by
      obtain⟨m,rfl⟩:∃ m,n=m+1:=⟨n - 1,by omega⟩
      rw [Rat.pow_succ];grind
     exfalso;grind
   exact rnd_np hd v0
  ·exact (rnd_rng hd v).2
 ·rw [if_neg z]
  exact rtq_hi hd hn (RtQ.of (rt_ok (by omega) (by omega) hn hn2)) hv (hx (by omega))
theorem odd_pow{v:Rat}{n:Nat}(h:n % 2=1):(-v) ^ n=-(v ^ n):=by
 rw [show -v=-1*v by grind,rmul_pow,mone_pow,if_pos h];grind
theorem even_pow{v:Rat}{n:Nat}(h:n % 2=0):(-v) ^ n=v ^ n:=by
 rw [show -v=-1*v by grind,rmul_pow,mone_pow,if_neg (by omega)];grind
theorem odd_neg{v:Rat}{n:Nat}(h:n % 2=1)(hv:v<0):v ^ n<0:=by
 have k:=rpow_lt (a:=0) (b:=-v) (by decide) (by grind) n (by omega);rw [odd_pow h] at k
 have e:(0:Rat) ^ n=0:=by
  obtain⟨m,rfl⟩:∃ m,n=m+1:=⟨n - 1,by omega⟩
  rw [Rat.pow_succ];grind
 grind
theorem rti_lower{d a:Int}(hd:d=-1\/d=1){v:Rat}{n:Nat}(hn:1<=n)(hn2:n<=1024)(ho:n % 2=1)(h0:-(M:Int)<=a)(h1:a<M)(hx:-(M:Int)<a->fl a<=v ^ n):rti d a n<=rndI d v:=by
 have hM:=M_val
 by_cases s:a<0
 ·have e:rti d a n=-rt1 (-d) (-a) n:=by unfold rti;rw [if_pos s]
  rw [e]
  by_cases sv:0<=v
  ·have p:=rnd_nn hd sv;have l:=rti_lo (d:=-d) (a:=-a) (n:=n) (by omega) (by omega) (by omega) hn hn2
   have e2:rti (-d) (-a) n=rt1 (-d) (-a) n:=by unfold rti;rw [if_neg (by omega)]
   omega
  ·have k:=rt1_hi (d:=-d) (a:=-a) (v:=-v) (n:=n) (by omega) hn hn2 (by omega) (by omega) (by grind) (fun h=>by
    have:=hx (by omega)
    rw [odd_pow ho,fl_neg];grind)
   rw [rndI_neg hd] at k
   omega
 ·have e:rti d a n=rt1 d a n:=by unfold rti;rw [if_neg s]
  rw [e];have k:=hx (by omega);have p:=fl_nn (show 0<=a by omega);refine rt1_lo hd hn hn2 (by omega) h1 ?_ k
  by_cases sv:v<0
  ·have:=odd_neg ho sv;exfalso;grind
  ·grind
theorem rti_turn(d i:Int)(n:Nat):rti d (-i) n=-rti (-d) i n:=by
 unfold rti
 by_cases a:i<0
 ·rw [if_neg (show ¬ -i<0 by omega),if_pos a,Int.neg_neg,Int.neg_neg]
 ·by_cases b:i=0
  ·subst b;rw [if_neg (by omega),if_neg (by omega)];unfold rt1;rw [if_pos (by omega),if_pos (by omega)]
  ·rw [if_pos (show -i<0 by omega),if_neg a,Int.neg_neg]
theorem rti_upper{d a:Int}(hd:d=-1\/d=1){v:Rat}{n:Nat}(hn:1<=n)(hn2:n<=1024)(ho:n % 2=1)(h0:-(M:Int)<a)(h1:a<=M)(hx:a<M->v ^ n<=fl a):rndI d v<=rti d a n:=by
 have k:=rti_lower (d:=-d) (a:=-a) (v:=-v) (n:=n) (by omega) hn hn2 ho (by omega) (by omega) (fun h=>by
  have:=hx (by omega)
  rw [odd_pow ho,fl_neg];grind)
 rw [rti_turn,rndI_neg hd,Int.neg_neg] at k
 omega
theorem pwr_in{n:Nat}(hn:1<=n)(hn2:n<=1024){c1 c2 i j:Int}{v:Rat}(hr:-(M:Int)<=c1/\c2<=M/\-(M:Int)<=i/\j<=M)(hc:In c1 c2 (v ^ n))(hx:In i j v):In (pwr n c1 c2 i j).1 (pwr n c1 c2 i j).2 v:=by
 have hM:=M_val;have nc:=hc.ne hr.1 hr.2.1;have m:=hx.ne hr.2.2.1 hr.2.2.2;unfold Ne at nc m;have lo:-(M:Int)<c1->fl c1<=v ^ n:=fun h=>hc.lo h;have hi:c2<M->v ^ n<=fl c2:=fun h=>hc.hi h
 by_cases hp:n % 2=0
 ·have nn:0<=v ^ n:=by
   by_cases s:0<=v
   ·exact rpow_nn s n
   ·rw [<- even_pow hp];exact rpow_nn (by grind) n
  have c20:0<=c2:=by
   have:=rnd_nn (d:=1) (.inr rfl) nn;have:=hc.2
   omega
  have z:¬ (c2<c1\/j<i\/(n % 2=0/\c2<0)):=by omega
  unfold pwr;rw [if_neg z,if_pos hp];unfold tw;rw [ctO_false,ctO_false]
  have e:∀ (d a:Int),0<=a->rti d a n=rt1 d a n:=fun d a h=>by unfold rti;rw [if_neg (by omega)]
  rw [e _ _ (by omega),e _ _ (by omega),e _ _ c20,e _ _ c20]
  have lo':fl (max c1 0)<=v ^ n:=by
   by_cases c:c1<=0
   ·rw [show max c1 0=0 by omega,fl_zero];exact nn
   ·rw [show max c1 0=c1 by omega];exact lo (by omega)
  refine In.hull ?_
  by_cases s:0<=v
  ·exact .inl (ct_in hx (rt1_lo (.inl rfl) hn hn2 (by omega) (by omega) s lo') (rt1_lo (.inr rfl) hn hn2 (by omega) (by omega) s lo') (rt1_hi (.inl rfl) hn hn2 c20 hr.2.1 s hi) (rt1_hi (.inr rfl) hn hn2 c20 hr.2.1 s hi))
  ·have s':0<=-v:=by grind
   rw [<- even_pow hp] at lo' hi;have k1:=rt1_lo (d:=1) (.inr rfl) hn hn2 (show 0<=max c1 0 by omega) (by omega) s' lo';have k2:=rt1_lo (d:=-1) (.inl rfl) hn hn2 (show 0<=max c1 0 by omega) (by omega) s' lo';have k3:=rt1_hi (d:=1) (.inr rfl) hn hn2 c20 hr.2.1 s' hi;have k4:=rt1_hi (d:=-1) (.inl rfl) hn hn2 c20 hr.2.1 s' hi;have q1:=rndI_neg (d:=1) (.inr rfl) v;have q2:=rndI_neg (d:=-1) (.inl rfl) v;rw [show (-(-1):Int)=1 from rfl] at q2
   exact .inr (ct_in hx (by omega) (by omega) (by omega) (by omega))
 ·have ho:n % 2=1:=by omega
  have z:¬ (c2<c1\/j<i\/(n % 2=0/\c2<0)):=by omega
  unfold pwr;rw [if_neg z,if_neg hp,ctO_false]
  exact ct_in hx (rti_lower (.inl rfl) hn hn2 ho hr.1 (by omega) lo) (rti_lower (.inr rfl) hn hn2 ho hr.1 (by omega) lo) (rti_upper (.inl rfl) hn hn2 ho (by omega) hr.2.1 hi) (rti_upper (.inr rfl) hn hn2 ho (by omega) hr.2.1 hi)
theorem sq_lo{d a:Int}(hd:d=-1\/d=1){y:Rat}(h0:0<=a)(h1:a<M)(hy:fl a<=y):sq d a<=rndI d (y*y):=by
 have hM:=M_val;have p:=fl_nn h0;unfold sq mu
 by_cases z:a=0
 ·rw [if_pos z];exact rnd_nn hd (Rat.mul_nonneg (by grind) (by grind))
 ·rw [if_neg z,if_neg (by omega)];refine rndI_mono hd ?_;have m1:=mul_mono_r hy p;have m2:=mul_mono_r hy (show 0<=y by grind)
  grind
theorem sq_hi{d a:Int}(hd:d=-1\/d=1){y:Rat}(h0:0<=a)(h1:a<=M)(h:0<=y)(hy:a<M->y<=fl a):rndI d (y*y)<=sq d a:=by
 have hM:=M_val;have p:=fl_nn h0;unfold sq mu
 by_cases z:a=0
 ·have k:=hy (by omega);rw [z,fl_zero] at k
  have e:y=0:=by grind
  rw [if_pos z,e,show (0:Rat)*0=0 by grind,rndI_zero hd];exact Int.le_refl _
 ·rw [if_neg z]
  by_cases m:a=M
  ·rw [if_pos (.inl m),if_neg (by simp)];exact (rnd_rng hd _).2
  ·rw [if_neg (by omega)];have hy:=hy (by omega);refine rndI_mono hd ?_;have m1:=mul_mono_r hy p;have m2:=mul_mono_r hy h
   grind
theorem rab_sq(v:Rat):v*v=rab v*rab v:=by unfold rab;split<;>grind
theorem sqt_in{c1 c2 i j:Int}{v:Rat}(hr:-(M:Int)<=c1/\c2<=M/\-(M:Int)<=i/\j<=M)(hc:In c1 c2 (rab v))(hx:In i j (v*v)):In (sqt c1 c2 i j).1 (sqt c1 c2 i j).2 (v*v):=by
 have hM:=M_val;have n:=hc.ne hr.1 hr.2.1;have m:=hx.ne hr.2.2.1 hr.2.2.2;unfold Ne at n m
 have ra:0<=rab v:=by unfold rab;split<;>grind
 have r2:=rnd_nn (d:=1) (.inr rfl) ra
 have c20:0<=c2:=by have:=hc.2;omega
 have z:¬ (c2<c1\/j<i\/c2<0):=by omega
 have lo:fl (max c1 0)<=rab v:=by
  by_cases c:c1<=0
  ·rw [show max c1 0=0 by omega,fl_zero];exact ra
  ·rw [show max c1 0=c1 by omega];exact hc.lo (by omega)
 have hi:c2<M->rab v<=fl c2:=fun h=>hc.hi h;unfold sqt;rw [if_neg z,ctO_false];refine ct_in hx ?_ ?_ ?_ ?_
 ·rw [rab_sq];exact sq_lo (.inl rfl) (by omega) (by omega) lo
 ·rw [rab_sq];exact sq_lo (.inr rfl) (by omega) (by omega) lo
 ·rw [rab_sq];exact sq_hi (.inl rfl) c20 hr.2.1 ra hi
 ·rw [rab_sq];exact sq_hi (.inr rfl) c20 hr.2.1 ra hi
theorem isq_in{i j:Int}{v:Rat}(hr:-(M:Int)<=i/\j<=M)(hx:In i j v):In (isq i j).1 (isq i j).2 (v*v):=by
 have hM:=M_val;have m:=hx.ne hr.1 hr.2;unfold Ne at m
 have ra:0<=rab v:=by unfold rab;split<;>grind
 have lo:=fun z=>hx.lo (i:=i) z;have hi:=fun z=>hx.hi (j:=j) z;unfold isq;rw [if_neg (by omega)];unfold In
 dsimp only
 rw [rab_sq]
 constructor
 ·by_cases s:i<0/\0<j
  ·rw [if_pos s]
   exact sq_lo (.inl rfl) (by omega) (by omega) (by rw [fl_zero];exact ra)
  ·rw [if_neg s];refine sq_lo (.inl rfl) (by omega) (by omega) ?_
   by_cases p:0<=i
   ·have l:=lo (by omega);have f:=fl_nn p;rw [show min (i.natAbs:Int) j.natAbs=i by omega];unfold rab;rw [if_neg (by grind)];exact l
   ·have l:=hi (by omega);have f:=fl_np (show j<=0 by omega);rw [show min (i.natAbs:Int) j.natAbs=-j by omega,fl_neg];unfold rab
    split<;>grind
 ·refine sq_hi (.inr rfl) (by omega) (by omega) ra (fun h=>?_);unfold rab
  split
  ·have l:=lo (by omega);have e:fl (-i)<=fl (max (i.natAbs:Int) j.natAbs):=fl_le_iff.2 (by omega);rw [fl_neg] at e
   grind
  ·have l:=hi (by omega);have e:fl j<=fl (max (i.natAbs:Int) j.natAbs):=fl_le_iff.2 (by omega)
   grind
theorem isq_iv{i j:Int}(h:Iv i j):Iv (isq i j).1 (isq i j).2:=by
 have hM:=M_val
 by_cases c:j<i
 ·unfold isq;rw [if_pos c];exact Iv.none
 ·have n:=ne_or h c;obtain⟨v,hv⟩:=in_some n;have k:=isq_in ⟨h.lo.1,h.hi.2⟩ hv;have le:=rndI_le (v*v);have a:=rndI_down (v*v);have b:=rndI_up (v*v);have e:isq i j=((isq i j).1,(isq i j).2):=rfl;unfold In at k
  have r1:-(M:Int)<=(isq i j).1:=by
   unfold isq;unfold Ne at n;rw [if_neg c]
   exact (sq_rng (.inl rfl) (by split<;>omega)).1
  have r2:(isq i j).2<=M:=by
   unfold isq;unfold Ne at n;rw [if_neg c]
   exact (sq_rng (.inr rfl) (by omega)).2
  unfold Iv
  omega
theorem recip_pos'{a:Rat}(h:0<a):0<1 / a:=div_pos' (by decide) h
theorem inv_div_le{b c:Rat}(hb:0<1 / c)(h0:0<b)(hc:0<c):1 / c<=b↔1 / b<=c:=by
 have h1:∀ {x y:Rat},0<x->0<y->1 / x<=y->1 / y<=x:=fun {x y} hx hy h=>by
  have m:=mul_mono_r h (show 0<=x by grind);rw [Rat.div_mul_cancel (by grind)] at m
  have e:x=(x*y) / y:=by rw [Rat.mul_div_cancel (by grind)]
  rw [e];refine div_le_div hy hy ?_;have:=(mul_le_pos hy).2 (show (1:Rat)<=y*x from m)
  grind
 exact⟨h1 hc h0,h1 h0 hc⟩
theorem inv_le_iff{a b:Rat}(ha:0<a)(hb:0<b):a<=1 / b↔b<=1 / a:=by
 have h1:∀ {x y:Rat},0<x->0<y->x<=1 / y->y<=1 / x:=fun {x y} hx hy h=>by
  have m:=mul_mono_r h (show 0<=y by grind);rw [Rat.div_mul_cancel (by grind)] at m
  have e:y=(y*x) / x:=by rw [Rat.mul_div_cancel (by grind)]
  rw [e];refine div_le_div hx hx ?_;have:=(mul_le_pos hx).2 (show x*y<=1 from m)
  grind
 exact⟨h1 ha hb,h1 hb ha⟩
theorem apt_in{n:Nat}(hn:1<=n){c1 c2 i j:Int}{v:Rat}(hr:-(M:Int)<=c1/\c2<=M/\-(M:Int)<=i/\j<=M)(v0:0<v)(hc:In c1 c2 (1 / v ^ n))(hx:In i j v):In (apt n c1 c2 i j).1 (apt n c1 c2 i j).2 v:=by
 have hM:=M_val;have nc:=hc.ne hr.1 hr.2.1;have m:=hx.ne hr.2.2.1 hr.2.2.2;unfold Ne at nc m
 have vp:0<v ^ n:=by
  have:=rpow_lt (a:=0) (by decide) v0 n (by omega)
  have e:(0:Rat) ^ n=0:=by
   obtain⟨m,rfl⟩:∃ m,n=m+1:=⟨n - 1,by omega⟩
   rw [Rat.pow_succ];grind
  grind
 have ip:=recip_pos' vp
 have c20:0<c2:=by
  have k:=hc.2;have:=rndI_pos ip
  omega
 have j0:0<j:=by
  have k:=hx.2;have:=rndI_pos v0
  omega
 have low:∀ d,d=-1\/d=1->ivd d c2 n<=rndI d v:=fun d hd=>by
  unfold ivd
  by_cases e:c2=M
  ·rw [if_pos e];exact rnd_nn hd (by grind)
  ·rw [if_neg e];have k:=hc.hi (by omega)
   exact rtq_lo hd (by omega) (rtx_ok c20 hn) (by grind) ((inv_div_le ip (fl_pos c20) vp).1 k)
 have upp:∀ d,d=-1\/d=1->0<c1->rndI d v<=ivd d c1 n:=fun d hd p=>by
  unfold ivd;rw [if_neg (by omega)];have k:=hc.lo (by omega)
  exact rtq_hi hd (by omega) (rtx_ok p hn) (by grind) ((inv_le_iff (fl_pos p) vp).1 k)
 unfold apt;rw [if_neg (by omega)];have l1:=low (-1) (.inl rfl);have l2:=low 1 (.inr rfl)
 have u1:rndI (-1) v<=(if 0<c1 then ivd (-1) c1 n else (M:Int)):=by
  split
  ·rename_i p;exact upp (-1) (.inl rfl) p
  ·exact (rnd_rng (.inl rfl) v).2
 have u2:rndI 1 v<=(if 0<c1 then ivd 1 c1 n else (M:Int)):=by
  split
  ·rename_i p;exact upp 1 (.inr rfl) p
  ·exact (rnd_rng (.inr rfl) v).2
 have qp:0<(if 0<c1 then ivd 1 c1 n else (M:Int)):=by have:=rndI_pos v0;omega
 have k:=ct_in hx l1 l2 u1 u2
 have e:∀ {pd pu qd qu:Int},0<qu->0<j->ctO true i j pd pu qd qu=ct i j pd pu qd qu:=fun {pd pu qd qu} h h'=>by
  unfold ctO ct
  split
  ·rfl
  ·rw [if_neg (by omega)]
 rw [e qp j0]
 exact k
theorem neg_recip(a:Rat):-(1 / a)=1 / (-a):=by
 have h:=Rat.inv_mul_cancel (-1) (by decide);rw [Rat.div_def,Rat.div_def,show -a=-1*a by grind,Rat.inv_mul_rev];generalize (-1:Rat)⁻¹=t at *
 have e:t=-1:=by grind
 rw [e]
 grind
theorem blw_in{n:Nat}(hn:1<=n){c1 c2 i j:Int}{v:Rat}(hr:-(M:Int)<=c1/\c2<=M/\-(M:Int)<=i/\j<=M)(v0:v≠0)(hc:In c1 c2 (1 / v ^ n))(hx:In i j v):In (blw n c1 c2 i j).1 (blw n c1 c2 i j).2 v:=by
 unfold blw;refine In.hull ?_
 by_cases s:0<v
 ·exact .inl (apt_in hn hr s hc hx)
 ·right
  have s':0 < -v:=by grind
  have hx':=hx.neg;refine In.of_neg ?_;rw [Int.neg_neg,Int.neg_neg]
  by_cases p:n % 2=0
  ·rw [if_pos p];rw [<- even_pow p] at hc
   exact apt_in hn ⟨hr.1,hr.2.1,by omega,by omega⟩ s' hc hx'
  ·rw [if_neg p];have hc':=hc.neg;rw [show -(1 / v ^ n)=1 / (-v) ^ n by rw [odd_pow (by omega)];exact neg_recip _] at hc'
   exact apt_in hn ⟨by omega,by omega,by omega,by omega⟩ s' hc' hx'
theorem pwz_in{z:Int}{c1 c2 i j:Int}{v p:Rat}(hz:-1024<=z/\z<=1024)(hr:-(M:Int)<=c1/\c2<=M/\-(M:Int)<=i/\j<=M)(v0:z<0->v≠0)(hp:(0<=z->p=v ^ z.natAbs)/\(z<0->p=1 / v ^ z.natAbs))(hc:In c1 c2 p)(hx:In i j v):In (pwz z c1 c2 i j).1 (pwz z c1 c2 i j).2 v:=by
 have hM:=M_val;have nc:=hc.ne hr.1 hr.2.1;have m:=hx.ne hr.2.2.1 hr.2.2.2;unfold Ne at nc m;unfold pwz;rw [if_neg (by omega),if_neg (by omega)]
 by_cases z0:z=0
 ·rw [if_pos z0];have e:=hp.1 (by omega);subst z0;rw [show (0:Int).natAbs=0 from rfl,Rat.pow_zero] at e;subst e;have k:(4607182418800017408:Int)=K1:=rfl;have o:=rndI_fl (d:=-1) (a:=K1) (.inl rfl) (by unfold K1;omega) (by unfold K1;omega);have o2:=rndI_fl (d:=1) (a:=K1) (.inr rfl) (by unfold K1;omega) (by unfold K1;omega);have f1:fl K1=1:=fl_one;rw [f1] at o o2;unfold In at hc;rw [o,o2] at hc;rw [if_pos (by unfold K1 at hc;omega)]
  exact hx
 ·rw [if_neg z0]
  by_cases zn:z<0
  ·have e:=hp.2 zn;subst e;have v0:=v0 zn
   have nz:¬ (z % 2=0/\c2<0):=by
    rintro⟨a,b⟩
    have q:0<v ^ z.natAbs:=by
     have e2:z.natAbs % 2=0:=by omega
     by_cases s:0<v
     ·have:=rpow_lt (a:=0) (by decide) s z.natAbs (by omega)
      have e:(0:Rat) ^ z.natAbs=0:=by
       obtain⟨m,hm⟩:∃ m,z.natAbs=m+1:=⟨z.natAbs - 1,by omega⟩
       rw [hm,Rat.pow_succ];grind
      grind
     ·rw [<- even_pow e2];have:=rpow_lt (a:=0) (b:=-v) (by decide) (by grind) z.natAbs (by omega)
      have e:(0:Rat) ^ z.natAbs=0:=by
       obtain⟨m,hm⟩:∃ m,z.natAbs=m+1:=⟨z.natAbs - 1,by omega⟩
       rw [hm,Rat.pow_succ];grind
      grind
    have k:=rnd_nn (d:=1) (.inr rfl) (show 0<=1 / v ^ z.natAbs by have:=recip_pos' q;grind);have:=hc.2
    omega
   rw [if_pos zn,if_neg nz]
   exact blw_in (by omega) hr v0 hc hx
  ·rw [if_neg zn];have e:=hp.1 (by omega);subst e
   exact pwr_in (by omega) (by omega) hr hc hx
theorem In.floor_le{i j z:Int}(h:In i j (z:Rat))(hj:j<M):z<=(fl j).floor:=Rat.le_floor_iff.2 (h.hi hj)
theorem In.ceil_le{i j z:Int}(h:In i j (z:Rat))(hi:-(M:Int)<i):(fl i).ceil<=z:=(ceil_le_iff _ _).2 (h.lo hi)
theorem stq_in{w:Nat}(hw:1<=w){c1 c2 i j:Int}{v:Rat}(hr:-(M:Int)<=c1/\c2<=M/\-(M:Int)<=i/\j<=M)(hc:In c1 c2 (rK w v:Rat))(hx:In i j v):In (stq w (c1,c2) (i,j)).1 (stq w (c1,c2) (i,j)).2 v:=by
 have hM:=M_val;have n:=hc.ne hr.1 hr.2.1;have m:=hx.ne hr.2.2.1 hr.2.2.2;unfold Ne at n m
 obtain⟨s1,x1,o1,h1⟩:∃ (s1:Int) (x1:Rat) (o1:Bool),(s1=-1/\c1=-(M:Int)\/s1=0/\-(M:Int)<c1/\x1=bL w (fl c1).ceil/\o1=oL w (fl c1).ceil):=by
  by_cases k:c1=-(M:Int)
  ·exact⟨-1,0,false,.inl ⟨rfl,k⟩⟩
  ·exact⟨0,_,_,.inr ⟨rfl,by omega,rfl,rfl⟩⟩
 obtain⟨s2,x2,o2,h2⟩:∃ (s2:Int) (x2:Rat) (o2:Bool),(s2=1/\c2=M\/s2=0/\c2<M/\x2=bU w (fl c2).floor/\o2=oU w (fl c2).floor):=by
  by_cases k:c2=M
  ·exact⟨1,0,false,.inl ⟨rfl,k⟩⟩
  ·exact⟨0,_,_,.inr ⟨rfl,by omega,rfl,rfl⟩⟩
 have hne:¬ wh 1 c2<wh 2 c1:=by
  by_cases a:c1=-(M:Int)
  ·have r:=wh_rng (w:=1) (i:=c2) (by omega) (by omega);rw [a,wh_min];omega
  ·by_cases b:c2=M
   ·have r:=wh_rng (w:=2) (i:=c1) (by omega) (by omega);rw [b,wh_max];omega
   ·have e1:=(wh_fin (w:=2) (by omega) (i:=c1) (by omega) (by omega)).1;have e2:=(wh_fin (w:=1) (by omega) (i:=c2) (by omega) (by omega)).1;have k1:=hc.ceil_le (by omega);have k2:=hc.floor_le (by omega)
    have le:fl (wh 2 c1)<=fl (wh 1 c2):=by
     rw [e1,e2]
     exact Rat.intCast_le_intCast.2 (Int.le_trans k1 k2)
    have:=fl_le_iff.1 le
    omega
 have q1:s1=0->x1<v\/v=x1/\o1=false:=fun e=>by
  rcases h1 with h | ⟨-,a,b,c⟩
  ·omega
  ·rw [b,c];exact (le_rK hw _ v).1 (hc.ceil_le a)
 have q2:s2=0->v<x2\/v=x2/\o2=false:=fun e=>by
  rcases h2 with h | ⟨-,a,b,c⟩
  ·omega
  ·rw [b,c];exact (rK_le hw _ v).1 (hc.floor_le a)
 have ss1:s1=0\/s1=-1:=by rcases h1 with h | h<;>omega
 have ss2:s2=0\/s2=1:=by rcases h2 with h | h<;>omega
 unfold stq;rw [stp_pf hw n m h1 h2 hne];refine pf_in ss1 ss2 hr.2.2.1 hr.2.2.2 hx (fun e=>?_) (fun e o=>?_) (fun e=>?_) (fun e o=>?_)
 ·rcases q1 e with k | k<;>grind
 ·rcases q1 e with k | k
  ·grind
  ·rw [k.2] at o;cases o
 ·rcases q2 e with k | k<;>grind
 ·rcases q2 e with k | k
  ·grind
  ·rw [k.2] at o;cases o
theorem sgq_in{c1 c2 i j:Int}{v:Rat}(hr:-(M:Int)<=c1/\c2<=M/\-(M:Int)<=i/\j<=M)(hc:In c1 c2 (rsg v:Rat))(hx:In i j v):In (sgq (c1,c2) (i,j)).1 (sgq (c1,c2) (i,j)).2 v:=by
 have hM:=M_val;have m:=hx.ne hr.2.2.1 hr.2.2.2;unfold Ne at m
 have sv:(v<0/\rsg v=-1)\/(v=0/\rsg v=0)\/(0<v/\rsg v=1):=by
  unfold rsg
  by_cases a:v=0
  ·exact .inr (.inl ⟨a,if_pos a⟩)
  ·by_cases b:v<0
   ·exact .inl ⟨b,by rw [if_neg a,if_pos b]⟩
   ·exact .inr (.inr ⟨by grind,by rw [if_neg a,if_neg b]⟩)
 have one:In (-4607182418800017408) 4607182418800017408 (rsg v:Rat):=by
  have f1:fl 4607182418800017408=1:=fl_one
  have f2:fl (-4607182418800017408)=-1:=by rw [fl_neg,f1]
  have lo:fl (-4607182418800017408)<=(rsg v:Rat):=by
   rw [f2];have:((-1:Int):Rat)<=((rsg v:Int):Rat):=Rat.intCast_le_intCast.2 (by omega);rw [Rat.intCast_neg] at this;exact this
  have hi:(rsg v:Rat)<=fl 4607182418800017408:=by
   rw [f1];have:((rsg v:Int):Rat)<=((1:Int):Rat):=Rat.intCast_le_intCast.2 (by omega)
   exact this
  exact⟨le_rnd (.inl rfl) (by omega) (by omega) lo,rnd_le (.inr rfl) (by omega) (by omega) hi⟩
 have hd:=it_in (a:=c1) (b:=c2) (i:=-4607182418800017408) (j:=4607182418800017408) ⟨hr.1,hr.2.1,by omega,by omega⟩ hc one
 obtain⟨⟨d1,d2⟩,e⟩:∃ d,it c1 c2 (-4607182418800017408) 4607182418800017408=d:=⟨_,rfl⟩
 rw [e] at hd
 dsimp only at hd
 have hd12:=hd.nonempty
 have rg:-4607182418800017408<=d1/\d2<=4607182418800017408:=by
  unfold it at e
  split at e
  ·have a:=congrArg Prod.fst e;have b:=congrArg Prod.snd e;dsimp only at a b;omega
  ·have a:=congrArg Prod.fst e;have b:=congrArg Prod.snd e;dsimp only at a b;omega
 obtain⟨k1,a1,a2,a3,a4⟩:=wh_unit (w:=2) (.inr rfl) (d:=d1) (by omega);obtain⟨k2,b1,b2,b3,b4⟩:=wh_unit (w:=1) (.inl rfl) (d:=d2) (by omega);have e1:=(wh_fin (w:=2) (by omega) (i:=d1) (by omega) (by omega)).1;have e2:=(wh_fin (w:=1) (by omega) (i:=d2) (by omega) (by omega)).1
 have l1:k1<=rsg v:=by
  have k:=hd.ceil_le (by omega);rw [e1] at a4;have:k1=(fl d1).ceil:=Rat.intCast_inj.1 a4
  omega
 have l2:rsg v<=k2:=by
  have k:=hd.floor_le (by omega);rw [e2] at b4;have:k2=(fl d2).floor:=Rat.intCast_inj.1 b4
  omega
 unfold sgq
 dsimp only
 rw [e,sgn_pf a3 b3 ⟨a1,by omega,b2⟩ (by omega) m];refine pf_in (by split<;>omega) (by split<;>omega) hr.2.2.1 hr.2.2.2 hx (fun z=>?_) (fun z o=>?_) (fun z=>?_) (fun z o=>?_)
 ·have:¬ k1<0:=fun q=>by rw [if_pos q] at z;omega
  rcases sv with s | s | s
  ·omega
  ·grind
  ·grind
 ·have q:¬ k1<0:=fun q=>by rw [if_pos q] at z;omega
  have o:=of_decide_eq_true o
  rcases sv with s | s | s
  ·omega
  ·omega
  ·grind
 ·have:¬ 0<k2:=fun q=>by rw [if_pos q] at z;omega
  rcases sv with s | s | s
  ·grind
  ·grind
  ·omega
 ·have q:¬ 0<k2:=fun q=>by rw [if_pos q] at z;omega
  have o:=of_decide_eq_true o
  rcases sv with s | s | s
  ·grind
  ·omega
  ·omega
abbrev Rg(p:Int × Int):Prop:=-(M:Int)<=p.1/\p.2<=M
theorem in_iv{p:Int × Int}{v:Rat}(h:Rg p)(k:In p.1 p.2 v):Iv p.1 p.2:=by
 have a:=rndI_down v;have b:=rndI_up v;have c:=rndI_le v;have:=k.1;have:=k.2
 exact .inl (by omega)
theorem rg_none:Rg ((M:Int),-(M:Int)):=by have:=M_val;constructor<;>dsimp only<;>omega
theorem rgM{i j a b:Int}(h:-(M:Int)<=i/\j<=M):Rg (max i a,min j b):=by constructor<;>dsimp only<;>omega
theorem rgH{p q:Int × Int}(h:Rg p)(k:Rg q):Rg (min p.1 q.1,max p.2 q.2):=by unfold Rg at *;constructor<;>dsimp only<;>omega
theorem rgN{p:Int × Int}(h:Rg p):Rg (-p.2,-p.1):=by unfold Rg at *;constructor<;>dsimp only<;>omega
theorem rgn{i j:Int}(h:-(M:Int)<=i/\j<=M):-(M:Int)<=-j/\-i<=M:=by omega
theorem rg_it{a b i j:Int}(h:-(M:Int)<=i/\j<=M):Rg (it a b i j):=by
 unfold it
 split
 ·exact rg_none
 ·constructor<;>dsimp only<;>omega
theorem rg_ctO{o:Bool}{i j a b c d:Int}(h:-(M:Int)<=i/\j<=M):Rg (ctO o i j a b c d):=by
 unfold ctO
 repeat' split
 all_goals first | exact rg_none | exact rgM h
theorem rg_tw{i j a b c d:Int}(h:-(M:Int)<=i/\j<=M):Rg (tw i j a b c d):=rgH (rg_ctO h) (rg_ctO h)
theorem rg_pf{s1:Int}{x1:Rat}{o1:Bool}{s2:Int}{x2:Rat}{o2:Bool}{i j:Int}(h:-(M:Int)<=i/\j<=M):Rg (pf s1 x1 o1 s2 x2 o2 i j):=by
 have a:=rndI_down x1;have b:=rndI_up x2;unfold pf wg
 repeat' split
 all_goals first | exact rg_none | (constructor<;>dsimp only<;>omega)
theorem rg_FD{a b c d i j:Int}(h:-(M:Int)<=i/\j<=M):Rg (FD a b c d i j):=by
 unfold FD
 split
 ·exact rg_none
 ·exact rg_pf h
theorem rg_abr{a b i j:Int}(h:-(M:Int)<=i/\j<=M):Rg (abr a b i j):=by
 unfold abr
 split
 ·exact rg_none
 ·exact rgH (rg_ctO h) (rg_ctO h)
theorem rg_sqt{a b i j:Int}(h:-(M:Int)<=i/\j<=M):Rg (sqt a b i j):=by
 unfold sqt
 split
 ·exact rg_none
 ·exact rg_ctO h
theorem rg_pwr{n:Nat}{a b i j:Int}(h:-(M:Int)<=i/\j<=M):Rg (pwr n a b i j):=by
 unfold pwr
 repeat' split
 all_goals first | exact rg_none | exact rg_tw h | exact rg_ctO h
theorem rg_apt{n:Nat}{a b i j:Int}(h:-(M:Int)<=i/\j<=M):Rg (apt n a b i j):=by
 unfold apt
 split
 ·exact rg_none
 ·exact rg_ctO h
theorem rg_blw{n:Nat}{a b i j:Int}(h:-(M:Int)<=i/\j<=M):Rg (blw n a b i j):=by
 unfold blw;refine rgH (rg_apt h) (rgN (p:=if n % 2=0 then apt n a b (-j) (-i) else apt n (-b) (-a) (-j) (-i)) ?_)
 split<;>exact rg_apt (rgn h)
theorem rg_pwz{z a b i j:Int}(h:-(M:Int)<=i/\j<=M):Rg (pwz z a b i j):=by
 unfold pwz
 repeat' split
 all_goals first | exact rg_none | exact h | exact rg_blw h | exact rg_pwr h
theorem rg_dr2{a b c d i j:Int}(h:-(M:Int)<=i/\j<=M):Rg (dr2 a b c d i j):=by
 unfold dr2
 repeat' split
 ·exact rg_none
 ·exact rgH (rg_pf h) (rg_pf h)
 ·exact rgH (rgH (rg_FD h) (rg_FD h)) (rgN (rgH (rg_FD (rgn h)) (rg_FD (rgn h))))
theorem rg_stp{V F T:Int->Int}{c x:Int × Int}(h:-(M:Int)<=x.1/\x.2<=M):Rg (stp V F T c x):=by
 unfold stp
 repeat' split
 all_goals first | exact rg_none | exact rgM h
theorem rg_stq{w:Nat}{c:Int × Int}{i j:Int}(h:-(M:Int)<=i/\j<=M):Rg (stq w c (i,j)):=rg_stp h
theorem rg_sgq{c:Int × Int}{i j:Int}(h:-(M:Int)<=i/\j<=M):Rg (sgq c (i,j)):=rg_stp h
section
open Go.RowKit Ieee
theorem and_high{a k:Nat}(ha:a<2^64)(hk:k<=64):a &&& (2^64 - 2^k)=a / 2^k*2^k:=by
 have e1:2^64 - 2^k=(2^(64 - k) - 1) <<< k:=by
  rw [Nat.shiftLeft_eq,Nat.sub_mul,<- Nat.pow_add,Nat.one_mul];congr 2;omega
 have e2:a / 2^k*2^k=(a >>> k) <<< k:=by rw [Nat.shiftLeft_eq,Nat.shiftRight_eq_div_pow]
 rw [e1,e2]
 apply Nat.eq_of_testBit_eq
 intro i;rw [Nat.testBit_and,Nat.testBit_shiftLeft,Nat.testBit_shiftLeft,Nat.testBit_shiftRight,Nat.testBit_two_pow_sub_one]
 by_cases c:k<=i
 ·rw [show k+(i - k)=i by omega]
  by_cases d:i<64
  ·simp [c,show i - k<64 - k by omega]
  ·have:a.testBit i=false:=Nat.testBit_lt_two_pow (Nat.lt_of_lt_of_le ha (Nat.pow_le_pow_right (by omega) (by omega)))
   simp [this]
 ·simp [c]
theorem wI_pos{q D H:Int}(hD:D=2*H)(hH:0<H)(hq:0<=q):wI q D=(q+H) / D:=by
 have h1:=Int.mul_ediv_add_emod q D;have h2:=Int.emod_nonneg q (show D≠0 by omega);have h3:=Int.emod_lt_of_pos q (show 0<D by omega);unfold wI;generalize q / D=Q at *;generalize q % D=r at *;rw [<- h1]
 by_cases c:H<=r
 ·rw [if_pos (by omega)]
  have:D*Q+r+H=(r+H - D)+D*(Q+1):=by rw [Int.mul_add];omega
  rw [this,Int.add_mul_ediv_left _ _ (by omega),Int.ediv_eq_zero_of_lt (by omega) (by omega)];omega
 ·rw [if_neg (by omega)]
  have:D*Q+r+H=(r+H)+D*Q:=by omega
  rw [this,Int.add_mul_ediv_left _ _ (by omega),Int.ediv_eq_zero_of_lt (by omega) (by omega)];omega
theorem wI_neg{q D H:Int}(hD:D=2*H)(hH:0<H)(hq:0<q):wI (-q) D=-((q+H) / D):=by
 rw [<- wI_pos hD hH (by omega)];obtain⟨a,b⟩:=neg_div (a:=q) (D:=D) (by omega);have h2:=Int.emod_nonneg q (show D≠0 by omega);have h3:=Int.emod_lt_of_pos q (show 0<D by omega);unfold wI;rw [a,b];generalize q / D=Q at *;generalize q % D=r at *
 by_cases c:r=0
 ·subst c
  simp only [if_true]
  rw [if_neg (by omega),if_neg (by omega)];omega
 ·rw [if_neg c,if_neg c]
  by_cases d:H<=r
  ·rw [if_neg (by omega),if_pos (by omega)];omega
  ·rw [if_pos (by omega),if_neg (by omega)];omega
theorem fl_inj{i j:Int}(h:fl i=fl j):i=j:=by
 have h1:=fl_le_iff (i:=i) (j:=j);have h2:=fl_le_iff (i:=j) (j:=i);have:=h1.1 (by rw [h];exact Rat.le_refl);have:=h2.1 (by rw [h];exact Rat.le_refl)
 omega
theorem wh_of{w:Nat}(hw:1<=w){i j:Int}(h0:-(M:Int)<i)(h1:i<M)(h:fl j=(rK w (fl i):Rat)):wh w i=j:=fl_inj ((wh_fin hw h0 h1).1.trans h.symm)
theorem fl_half':fl 4602678819172646912=1/2:=by decide +kernel
theorem fl_one':fl 4607182418800017408=1:=by decide +kernel
theorem away_small{x:Rat}(h0:-(1/2:Rat)<x)(h1:x<1/2):rK 5 x=0:=by
 have a:=(le_rK (w:=5) (by omega) 0 x).2 (.inl (by show (0:Rat) - 1/2<x;grind));have b:=(rK_le (w:=5) (by omega) 0 x).2 (.inl (by show x<(0:Rat)+1/2;grind))
 omega
theorem away_one{x:Rat}(h0:(1/2:Rat)<=x)(h1:x<1):rK 5 x=1:=by
 have a:=(le_rK (w:=5) (by omega) 1 x).2 (by
  show ((1:Rat) - 1/2<x\/x=(1:Rat) - 1/2/\decide ((1:Int)<=0)=false)
  by_cases c:x=1/2
  ·exact .inr ⟨by grind,rfl⟩
  ·exact .inl (by grind))
 have b:=(rK_le (w:=5) (by omega) 1 x).2 (.inl (by show x<(1:Rat)+1/2;grind))
 omega
theorem away_mone{x:Rat}(h0:x<=-(1/2:Rat))(h1:-1<x):rK 5 x=-1:=by
 have a:=(le_rK (w:=5) (by omega) (-1) x).2 (.inl (by show ((-1:Int):Rat) - 1/2<x;have:((-1:Int):Rat)=-1:=rfl;grind))
 have b:=(rK_le (w:=5) (by omega) (-1) x).2 (by
  show (x<((-1:Int):Rat)+1/2\/x=((-1:Int):Rat)+1/2/\decide ((0:Int)<=-1)=false)
  have e:((-1:Int):Rat)=-1:=rfl
  by_cases c:x=-(1/2)
  ·exact .inr ⟨by grind,rfl⟩
  ·exact .inl (by grind))
 omega
theorem away_mid{t k q D H:Nat}(hk:t=k*2^52+q)(hq:2^52<=q)(hq2:q<2^53)(hD:D=2*H)(hH:0<H)(hDk:D*2^k=2^1074)(hd:D ∣ 2^52):
  fl (((t+H) / D*D:Nat):Int)=(((q+H) / D:Nat):Rat)/\fl (t:Int)*(D:Int)=((q:Int):Rat):=by
 obtain⟨U,hU⟩:∃ U:Nat,U=1074:=⟨_,rfl⟩
 rw [<- hU] at hDk;obtain⟨c,hc⟩:=hd
 have hD0:0<D:=by omega
 have e1:(t+H) / D*D=k*2^52+(q+H) / D*D:=by
  have:t+H=q+H+D*(k*c):=by rw [hk,hc,show D*(k*c)=k*(D*c) by ac_rfl];omega
  rw [this,Nat.add_mul_div_left _ _ hD0,Nat.add_mul,hc]
  have:k*c*D=k*(D*c):=by ac_rfl
  omega
 have q1:2^52<=(q+H) / D*D:=by
  rw [hc,Nat.mul_comm D c];refine Nat.mul_le_mul_right _ ?_;rw [Nat.le_div_iff_mul_le hD0,Nat.mul_comm,<- hc];omega
 have q2:(q+H) / D*D<=2^53:=by
  have h53:2^53=(2*c)*D:=by
   have:(2:Nat)^53=2*2^52:=by rw [<- Nat.pow_succ']
   rw [this,hc];ac_rfl
  rw [h53];refine Nat.mul_le_mul_right _ ?_
  have h4:(q+H) / D<2*c+1:=by
   rw [Nat.div_lt_iff_lt_mul hD0,Nat.add_mul,<- h53];omega
  omega
 have m1:=mag_form k ((q+H) / D*D) (.inr q1) q2;have m2:=mag_form k q (.inr hq) (by omega);rw [<- e1] at m1;rw [<- hk] at m2
 constructor
 ·have f:=fl_mul hU (((t+H) / D*D:Nat):Int);rw [val_nat,m1,Nat.mul_assoc,hDk] at f
  have f2:fl (((t+H) / D*D:Nat):Int)*P2 U=(((q+H) / D:Nat):Rat)*P2 U:=by
   unfold P2;rw [f]
   push_cast
   rfl
  exact P2_cancel f2
 ·have f:=fl_mul hU (t:Int);rw [val_nat,m2,<- hDk] at f
  have f2:(fl (t:Int)*(D:Int))*P2 k=((q:Int):Rat)*P2 k:=by
   unfold P2
   have:(((D*2^k:Nat):Int):Rat)=((D:Int):Rat)*(((2^k:Nat):Int):Rat):=by push_cast;rfl
   rw [this] at f
   have g:(((q*2^k:Nat):Int):Rat)=((q:Int):Rat)*(((2^k:Nat):Int):Rat):=by push_cast;rfl
   rw [g] at f
   grind
  exact P2_cancel f2
end
section
open Go.RowKit Ieee
attribute [local go_sem] run_frombits run_bitsof
theorem wrap_id{b P:Nat}(h:b+P<18446744073709551616):((b:Int)+(P:Int)) % 18446744073709551616=((b+P:Nat):Int):=by omega
def rW(b:Nat):Nat:=
 if rungOf b / 4503599627370496<1022 then b / 9223372036854775808*9223372036854775808
 else if rungOf b / 4503599627370496=1022 then b / 9223372036854775808*9223372036854775808+4607182418800017408
 else if rungOf b / 4503599627370496<1075 then (b+2^(1074 - rungOf b / 4503599627370496)) / 2^(1075 - rungOf b / 4503599627370496)*2^(1075 - rungOf b / 4503599627370496)
 else b
theorem round_walk(b:Nat)(w:World)(hb:L64 b):
  Calls prog 136 #[.float .f64 b] w fun e w'=>e=.returned (.float .f64 (rW b))/\w=w':=by
 obtain⟨e,he⟩:∃ e,rungOf b / 4503599627370496=e:=⟨_,rfl⟩
 have he2:b / 4503599627370496 % 2048=e:=by rw [<- he];unfold rungOf;omega
 unfold rW;rw [he];clear he
 have m2:bits .and .u64 ((b:Int) / 4503599627370496) 2047=(e:Int):=by
  have h:=mask11_u64 (x:=b / 4503599627370496) (by omega);rw [he2,show ((b / 4503599627370496:Nat):Int)=(b:Int) / 4503599627370496 from by omega] at h
  exact h
 obtain⟨S,hS⟩:∃ S,b / 9223372036854775808*9223372036854775808=S:=⟨_,rfl⟩
 have m3:bits .and .u64 (b:Int) 9223372036854775808=(S:Int):=by
  have h:=u64_and_nat b 9223372036854775808 hb (by omega);rw [show (9223372036854775808:Nat)=2^64 - 2^63 by decide,and_high (k:=63) hb (by omega),show (2:Nat)^63=9223372036854775808 by decide,hS] at h
  exact h
 have m4:bits .or .u64 (S:Int) 4607182418800017408=((S+4607182418800017408:Nat):Int):=by
  have h:=or_join (i:=63) (x:=b / 9223372036854775808) (y:=4607182418800017408) (by omega) (by omega) (by omega);rw [show (2:Nat)^63=9223372036854775808 by decide,hS] at h
  exact h
 have ff:=fun W=>run_bitsof b W;rw [hS]
 by_cases c1:e<1022
 ·rw [if_pos c1]
  have g0:(e:Int)<1023:=by omega
  have g1:((e:Int) == 1022)=false:=by simp;omega
  clear m4 hS he2 c1 hb
  go_enter func136,ntmps136
  go_wp2
  go_ret
  exact⟨rfl,rfl⟩
 by_cases c2:e=1022
 ·rw [if_neg c1,if_pos c2];subst c2
  obtain⟨V,hV⟩:∃ V,S+4607182418800017408=V:=⟨_,rfl⟩
  rw [hV] at m4 ⊢;have fr:=fun W=>run_frombits V W;clear hS he2 c1 hb hV
  go_enter func136,ntmps136
  go_wp2
  go_ret
  exact⟨rfl,rfl⟩
 have g0:¬ (e:Int)<1023:=by omega
 by_cases c3:e<1075
 ·rw [if_neg c1,if_neg c2,if_pos c3]
  have g1:(e:Int)<1075:=by omega
  obtain⟨j,hj⟩:∃ j,e - 1023=j:=⟨_,rfl⟩
  have hj2:j<=51:=by omega
  have s1:(2251799813685248:Int) / 2 ^ j=((2^(51 - j):Nat):Int):=by
   have:(2251799813685248:Nat) / 2^j=2^(51 - j):=by
    rw [show (2251799813685248:Nat)=2^51 by decide,Nat.pow_div (by omega) (by omega)]
   rw [<- this];simp
  have s2:(4503599627370495:Int) / 2 ^ j=((2^(52 - j) - 1:Nat):Int):=by
   have h52:2^52=2^j*2^(52 - j):=by rw [<- Nat.pow_add];congr 1;omega
   have hp:=Nat.two_pow_pos j;have hp2:=Nat.two_pow_pos (52 - j)
   have:(4503599627370495:Nat) / 2^j=2^(52 - j) - 1:=by
    have hd:(4503599627370495:Nat)=2^j*(2^(52 - j) - 1)+(2^j - 1):=by
     rw [Nat.mul_sub,Nat.mul_one,<- h52];have:2^j<=2^52:=Nat.pow_le_pow_right (by omega) (by omega)
     omega
    rw [hd,Nat.mul_add_div hp,Nat.div_eq_of_lt (by omega)];omega
   rw [<- this];simp
  obtain⟨r,hr⟩:∃ r,(b+2^(1074 - e)) / 2^(1075 - e)*2^(1075 - e)=r:=⟨_,rfl⟩
  have e51:51 - j=1074 - e:=by omega
  have e52:52 - j=1075 - e:=by omega
  have hle:2^(51 - j)<=2^51:=Nat.pow_le_pow_right (by omega) (by omega)
  have hlt:b+2^(51 - j)<18446744073709551616:=by
   have:b % 9223372036854775808<1075*4503599627370496:=by omega
   omega
  have hX:bits .andNot .u64 (IntKind.u64.wrap ((b:Int)+2251799813685248 / 2 ^ (e - 1023))) (4503599627370495 / 2 ^ (e - 1023))=(r:Int):=by
   rw [hj,s1,s2,IntKind.wrap_u64,wrap_id hlt];have hp2:=Nat.two_pow_pos (52 - j);have hp3:2^(52 - j)<=2^64:=Nat.pow_le_pow_right (by omega) (by omega);have h:=u64_andNot_nat (b+2^(51 - j)) (2^(52 - j) - 1) hlt (by omega);rw [show (18446744073709551615 - (2^(52 - j) - 1):Nat)=2^64 - 2^(52 - j) by omega,and_high hlt (by omega)] at h;rw [h,e51,e52,hr]
  rw [hr];clear hr s1 s2 hle hlt hj hj2 e51 e52 c1 c2 c3 m3 m4 hS hb he2
  go_enter func136,ntmps136
  go_wp2
  go_ret
  exact⟨rfl,rfl⟩
 ·rw [if_neg c1,if_neg c2,if_neg c3]
  have g1:¬ (e:Int)<1075:=by omega
  have fr:=fun W=>run_frombits b W;clear c1 c2 c3 m3 m4 hS hb he2
  go_enter func136,ntmps136
  go_wp2
  go_ret
  exact⟨rfl,rfl⟩
theorem is_parts{S t:Nat}(hS:S=0\/S=9223372036854775808)(ht:t<=M):Is (S+t) (if S=0 then (t:Int) else -(t:Int)):=by
 have hM:=M_val;have c:=pat_cases (b:=S+t) (by omega);refine⟨by omega,by unfold real;omega,?_⟩
 rcases hS with rfl | rfl
 ·rw [if_pos rfl];omega
 ·rw [if_neg (by omega)];omega
theorem fl_parts2(S t:Nat):fl (if S=0 then (t:Int) else -(t:Int))=if S=0 then fl (t:Int) else - fl (t:Int):=by split<;>simp [fl_neg]
theorem rung_sum{t n q:Nat}(he:t / 4503599627370496=n+1)(hq:q=4503599627370496+t % 4503599627370496):n*2^52+q=t:=by
 rw [show (2:Nat)^52=4503599627370496 by decide]
 omega
theorem rW_is{b:Nat}(hb:L64 b)(h:real b):Is (rW b) (wh 5 (idx b)):=by
 have hM:=M_val;have hpc:=pat_cases hb
 obtain⟨t,ht⟩:∃ t,rungOf b=t:=⟨_,rfl⟩
 obtain⟨S,hS⟩:∃ S,b / 9223372036854775808*9223372036854775808=S:=⟨_,rfl⟩
 have htM:t<=M:=by rw [<- ht];exact h
 have hS2:S=0\/S=9223372036854775808:=by omega
 have hbS:b=S+t:=by omega
 have hi:idx b=if S=0 then (t:Int) else -(t:Int):=by split<;>omega
 unfold rW;rw [ht,hS,hi];clear hpc ht hi hb h
 have rng:t<M->-(M:Int)<(if S=0 then (t:Int) else -(t:Int))/\(if S=0 then (t:Int) else -(t:Int))<M:=fun h=>by split<;>omega
 have fin:∀ t2:Nat,t2<=M->t<M->fl (t2:Int)=(rK 5 (fl (t:Int)):Rat)->- fl (t2:Int)=(rK 5 (- fl (t:Int)):Rat)->Is (S+t2) (wh 5 (if S=0 then (t:Int) else -(t:Int))):=fun t2 h2 h1 a b=>by
  have e:=wh_of (w:=5) (by omega) (rng h1).1 (rng h1).2 (j:=if S=0 then (t2:Int) else -(t2:Int)) (by
   rw [fl_parts2,fl_parts2]
   split
   ·exact a
   ·exact b)
  rw [e]
  exact is_parts hS2 h2
 have f0:(0:Rat)<=fl (t:Int):=by rw [<- fl_zero];exact fl_le_iff.2 (by omega)
 by_cases c1:t / 4503599627370496<1022
 ·rw [if_pos c1]
  have f1:fl (t:Int)<1/2:=by rw [<- fl_half'];exact fl_lt_iff.2 (by omega)
  refine fin 0 (by omega) (by omega) ?_ ?_
  ·rw [away_small (by grind) f1];exact fl_zero
  ·rw [away_small (by grind) (by grind)];rw [show ((0:Nat):Int)=0 from rfl,fl_zero];grind
 by_cases c2:t / 4503599627370496=1022
 ·rw [if_neg c1,if_pos c2]
  have f1:(1/2:Rat)<=fl (t:Int):=by rw [<- fl_half'];exact fl_le_iff.2 (by omega)
  have f2:fl (t:Int)<1:=by rw [<- fl_one'];exact fl_lt_iff.2 (by omega)
  refine fin 4607182418800017408 (by omega) (by omega) ?_ ?_
  ·rw [away_one f1 f2];exact fl_one'
  ·rw [away_mone (by grind) (by grind)];exact congrArg Neg.neg fl_one'
 by_cases c3:t / 4503599627370496<1075
 ·rw [if_neg c1,if_neg c2,if_pos c3]
  obtain⟨e,he⟩:∃ e,t / 4503599627370496=e:=⟨_,rfl⟩
  rw [he] at c1 c2 c3 ⊢
  obtain⟨k,rfl⟩:∃ k,e=k+1:=⟨e - 1,by omega⟩
  obtain⟨H,hH⟩:∃ H,2^(1074 - (k+1))=H:=⟨_,rfl⟩
  obtain⟨D,hD⟩:∃ D,2^(1075 - (k+1))=D:=⟨_,rfl⟩
  have hH0:0<H:=by rw [<- hH];exact Nat.two_pow_pos _
  have hHl:H<=4503599627370496:=by
   rw [<- hH,show (4503599627370496:Nat)=2^52 by decide];exact Nat.pow_le_pow_right (by omega) (by omega)
  have hDH:D=2*H:=by rw [<- hH,<- hD,<- Nat.pow_succ'];congr 1;omega
  have hDk:D*2^k=2^1074:=by rw [<- hD,<- Nat.pow_add];congr 1;omega
  have hd52:D ∣ 2^52:=by rw [<- hD];exact Nat.pow_dvd_pow 2 (by omega)
  have hd63:D ∣ S:=by
   have:D ∣ 9223372036854775808:=by rw [<- hD,show (9223372036854775808:Nat)=2^63 by decide];exact Nat.pow_dvd_pow 2 (by omega)
   rcases hS2 with rfl | rfl
   ·exact Nat.dvd_zero D
   ·exact this
  rw [hH,hD]
  obtain⟨q,hq⟩:∃ q,q=4503599627370496+t % 4503599627370496:=⟨_,rfl⟩
  obtain⟨a1,a2⟩:=away_mid (t:=t) (k:=k) (q:=q) (by rw [show (2:Nat)^52=4503599627370496 by decide];omega) (by rw [show (2:Nat)^52=4503599627370496 by decide];omega) (by rw [show (2:Nat)^53=9007199254740992 by decide];omega) hDH hH0 hDk hd52
  have hD0:0<D:=by omega
  have er:(b+H) / D*D=S+(t+H) / D*D:=by
   obtain⟨c,hc⟩:=hd63;rw [hbS,hc,show D*c+t+H=t+H+D*c by omega,Nat.add_mul_div_left _ _ hD0,Nat.add_mul,Nat.mul_comm c D,Nat.add_comm]
  have hle:(t+H) / D*D<=t+H:=Nat.div_mul_le_self _ _
  have ei:(((q+H) / D:Nat):Int)=((q:Int)+(H:Int)) / (D:Int):=by push_cast;rfl
  have w1:=wI_rK (x:=fl (t:Int)) (a:=(q:Int)) (D:=(D:Int)) (by omega) a2;have w2:=wI_rK (x:=- fl (t:Int)) (a:=-(q:Int)) (D:=(D:Int)) (by omega) (by rw [Rat.intCast_neg,<- a2];grind);rw [wI_pos (H:=(H:Int)) (by omega) (by omega) (by omega),<- ei] at w1;rw [wI_neg (H:=(H:Int)) (by omega) (by omega) (by omega),<- ei] at w2;rw [er];refine fin _ (by omega) (by omega) ?_ ?_
  ·rw [a1,<- w1];rfl
  ·rw [a1,<- w2,Rat.intCast_neg];rfl
 ·rw [if_neg c1,if_neg c2,if_neg c3,hbS]
  by_cases hm:t=M
  ·subst hm
   have e:wh 5 (if S=0 then ((M:Nat):Int) else -((M:Nat):Int))=if S=0 then ((M:Nat):Int) else -((M:Nat):Int):=by
    split
    ·exact wh_max 5
    ·exact wh_min 5
   rw [e]
   exact is_parts hS2 htM
  ·obtain⟨e,he⟩:∃ e,t / 4503599627370496=e:=⟨_,rfl⟩
   rw [he] at c1 c2 c3
   obtain⟨U,hU⟩:∃ U:Nat,U=1074:=⟨_,rfl⟩
   obtain⟨k,hk⟩:∃ k,e=k+U+1:=⟨e - 1 - U,by omega⟩
   obtain⟨q,hq⟩:∃ q,q=4503599627370496+t % 4503599627370496:=⟨_,rfl⟩
   have hmag:=mag_form (k+U) q (.inr (by rw [show (2:Nat)^52=4503599627370496 by decide];omega)) (by rw [show (2:Nat)^53=9007199254740992 by decide];omega);rw [rung_sum (he.trans hk) hq] at hmag
   have hz:fl (t:Int)=(((q*2^k:Nat):Int):Rat):=by
    have f:=fl_mul hU (t:Int);rw [val_nat,hmag] at f
    have f2:fl (t:Int)*P2 U=(((q*2^k:Nat):Int):Rat)*P2 U:=by
     unfold P2;rw [f,<- Rat.intCast_mul,<- Int.natCast_mul,Nat.mul_assoc,<- Nat.pow_add]
    exact P2_cancel f2
   refine fin t htM (by omega) ?_ ?_
   ·rw [hz,rK_int (by omega)]
   ·rw [hz,<- Rat.intCast_neg,rK_int (by omega)]
theorem val_away(w:World):ValFn w 136 rW:=.inl ⟨enters_of func136 (by kernel_rfl) rfl,fun i h0 h1 W _=>calls_below (round_walk (pat i) W (is_pat ⟨h0,h1⟩).lt)⟩
theorem rW_idx(i:Int)(h0:-(M:Int)<=i)(h1:i<=M):Is (rW (pat i)) (wh 5 i):=by
 have h:=rW_is (is_pat ⟨h0,h1⟩).lt (is_pat ⟨h0,h1⟩).real
 rwa [idx_pat h0 h1] at h
theorem awayrev_any(c1 c2 x y:Nat)(w:World)(hc1:L64 c1)(hc2:L64 c2)(hx:L64 x)(hy:L64 y):
  Rt 60 #[Zf c1 c2,Zf x y] (Zf (pat (stq 5 (rd c1 c2) (rd x y)).1) (pat (stq 5 (rd c1 c2) (rd x y)).2)) w:=
 away_walk c1 c2 x y _ _ w fun W B0 B1 h0 h1=>step_idx _ _ _ _ _ _ _ _ _ c1 c2 x y W hc1 hc2 hx hy rW_idx (val_away W)
  ⟨enters_of func197 (by kernel_rfl) rfl,enters_of func194 (by kernel_rfl) rfl,ahead_fn 5 (b:=4602678819172646912) (by have:=M_val;omega) (fun A=>by rw [fl_half];rfl) h0,behind_fn 5 (b:=4602678819172646912) (by have:=M_val;omega) (fun A=>by rw [fl_half];rfl) h1⟩
end
section
structure U32b (w:World) (A:Option Addr) (n c:Nat) (xs:List Nat):Prop where
 len:xs.length=n
 cap:n<=c
 small:n<=35184372087808
 w32:W32 xs
 at_:0<n->∃ ad,A=some ad/\ad.block<w.heap.size/\∀ j:Nat,j<n->w.cell? (ad.add j)=some (wd (xs[j]?.getD 0))
theorem U32b.below{w w':World}{A:Option Addr}{n c:Nat}{xs:List Nat}(h:U32b w A n c xs)(hb:Below w.heap.size w w'):U32b w' A n c xs:=
 ⟨h.len,h.cap,h.small,h.w32,fun hn=>by
   obtain⟨ad,e,hlt,hc⟩:=h.at_ hn;have:=hb.size;refine⟨ad,e,by omega,fun j hj=>?_⟩;rw [World.cell?_of_block (w:=w)]
   ·exact hc j hj
   ·rw [block_of_add];exact hb.block _ hlt⟩
theorem U32b.s{w:World}{A:Option Addr}{n c:Nat}{xs:List Nat}(h:U32b w A n c xs)(hn:n<=34359738368):U32s w A n c xs:=⟨h.len,h.cap,hn,h.w32,h.at_⟩
theorem U32b.cell{w:World}{A:Option Addr}{n c:Nat}{xs:List Nat}(h:U32b w A n c xs){j:Nat}(hj:j<n):
  ∃ ad,A=some ad/\w.cell? (ad.add j)=some (wd (xs[j]?.getD 0)):=by
 obtain⟨ad,e,_,hc⟩:=h.at_ (by omega)
 exact⟨ad,e,hc j hj⟩
section
variable {ops:Array Oper} {rest:List Oper} {o:Oper} {a:Act} {Q:Exit->Act->World->Prop} (w:World)
theorem wpList_append_u32b(hgd:o.guard=none)(s x:Operand)
  (ho:o.op=.call { callee:=.builtin .append,args:=#[s,x],argTypes:=#[40,40] })
  (B:Nat)(v:Value)(xs:List Nat)(hs:a.eval s=v)(hown:Own w B v xs)
  (ad:Addr)(c:Nat)(y:Nat)(hx:a.eval x=.slice (some ad) 1 c)(hc:w.cell? ad=some (wd y))(hlen:xs.length<=35184372087808)(hB:B<=w.heap.size)
  (h:∀ v' w',Own w' B v' (xs ++ [y])->w.grownBy w' v.ownBlock->wpList prog ops Q rest (a.put o.dst v') w'):wpList prog ops Q (o :: rest) a w:=by
 obtain⟨i0,hi,hz0,hz1,hz2⟩:=info_parts info_u32;refine wpList_append_own w hgd s x 40 ho B 117 i0 (.int .u32 0) 1 4 Tryz.underlying40 hi hz0 hz1 hz2 rfl (by decide) v xs.length (xs.map wd) hs hown ad 1 c [wd y] hx rfl ?_ ?_ ?_ ?_ hB ?_
 ·intro j u hu
  match j,hu with
  | 0,hu=>
   simp at hu
   subst hu;rw [show ad.add 0=ad from by simp [Addr.add]]
   exact hc
 ·intro u hu
  simp at hu
  subst hu;rfl
 ·unfold maxLen;omega
 ·omega
 ·intro v' w' h1 h2 _;refine h v' w' ?_ h2;unfold Own
  simpa using h1
end
theorem norm_big(A:Option Addr)(n c:Nat)(xs:List Nat)(w:World)(h:U32b w A n c xs):
  Calls prog 93 #[.slice A n c] w fun e w'=>∃ A1 n1 c1,e=.returned (.slice A1 n1 c1)/\(n1=0↔num xs=0)/\Below w.heap.size w w':=by
 have hn:=h.small;have H:=Hd h;clear h
 go_enter func93,ntmps93
 go_wp2
 go_loop [3] (fun v=>∃ k:Nat,k<=n/\v=.int .i64 k/\∀ j:Nat,k<=j->xs[j]?.getD 0=0) (fun v=>(intOf v).toNat)
 case atStart=>exact⟨n,by omega,rfl,fun j hj=>by
  have:=H.out.len
  rw [List.getElem?_eq_none (by omega)];rfl⟩
 case round=>
  obtain⟨k,hk,rfl,hz⟩:=hrel;have Hz:=Hd hz;clear hz
  by_cases hg:0<k/\xs[k - 1]?.getD 0=0
  ·obtain⟨h0,hx⟩:=hg;obtain⟨ad,rfl,hc⟩:=H.out.cell (j:=k - 1) (by omega);rw [hx] at hc;have Hx:=Hd hx;clear hx;go_wp2
   go_round
   case rel=>
    refine⟨k - 1,by omega,by go_num,fun j hj=>?_⟩
    rcases Nat.lt_or_ge j k with h1 | h1
    ·obtain rfl:j=k - 1:=by omega
     exact Hx.out
    ·exact Hz.out j h1
   case measure=>simp [intOf];omega
  ·have hwl:wlen xs=k:=wlen_of (by rw [H.out.len];omega) Hz.out (by omega)
   have Hl:Hid (trim xs=xs.take k):=by
    have:=trim_eq_take xs;rw [hwl] at this;exact this
   clear hwl
   by_cases h0:0<k
   case' pos=>
    obtain⟨ad,rfl,hc⟩:=H.out.cell (j:=k - 1) (by omega)
    have hx:((xs[k - 1]?.getD 0:Nat):Int)≠0:=by omega
    have hx':(((xs[k - 1]?.getD 0:Nat):Int) == 0)=false:=by
     simpa using hx
    clear hg hx;go_wp2;clear hx' hc
   case' neg=>
    go_wp2;clear hg
   all_goals
    clear h0
    go_loopw [4,5] (fun v i wr=>∃ m:Nat,m<=k/\i=.int .i64 m/\Own wr w.heap.size v (xs.take m)/\Below w.heap.size w wr) (fun _ i _=>k - (intOf i).toNat)
    case atStart=>exact⟨0,by omega,rfl,Own.nil _ _,Below.refl _ _⟩
    case round=>
     obtain⟨m,hm,rfl,hown,hb⟩:=hrel
     by_cases hlt:m<k
     ·obtain⟨ad',e,hc⟩:=(H.out.below hb).cell (j:=m) (by omega)
      cases e
      have hbs:=hb.size
      go_wp2_with (at_builtin;refine wpList_append_u32b _ rfl _ _ rfl w.heap.size _ _ rfl (hown.alloc _) ⟨_,0,none⟩ 1 (xs[m]?.getD 0) rfl ?c1 ?c2 ?c3 ?_)
      case c1=>simp
      case c2=>rw [List.length_take];omega
      case c3=>simp;omega
      intro v' w' hown' hgrow
      have hown2:Own w' w.heap.size v' (xs.take (m+1)):=by
       rw [<- getD_snoc (by rw [H.out.len];omega)];exact hown'
      have hb':Below w.heap.size w w':=(hb.alloc hbs _).grown hgrow (by simp;omega) (fun g hg=>(hown.lt g hg).1);clear hown hown' hb hgrow hc hbs;go_wp2
      go_roundw
      case rel=>exact⟨m+1,by omega,by go_num,hown2,hb'⟩
      case measure=>simp [intOf];omega
     ·obtain rfl:m=k:=by omega
      have hf:=hown.form;rw [<- Hl.out] at hf;obtain⟨A1,c1,rfl⟩:=hf
      have hz:(trim xs).length=0↔num xs=0:=by rw [trim_eq_digs H.out.w32];exact digs_length_eq_zero
      clear hown;go_wp2
      go_ret
      exact⟨A1,_,c1,rfl,hz,hb⟩
theorem is_any(g2:Bool)(A2:Option Addr)(n2 c2:Nat)(B2:Option Addr)(m2 d2:Nat)(ys:List Nat)(r:Bool)(w:World)(hn:n2<=35184372087808)(hq:U32b w B2 m2 d2 ys)(hr:(decide (0<num ys) && decide (n2<100) && decide (m2<100))=r):
  Rt 33 #[Zg g2 A2 n2 c2 B2 m2 d2] (.bool r) w:=by
 have hm:=hq.small;have hN:=fun W (hW:Below w.heap.size w W)=>norm_big B2 m2 d2 ys W (hq.below hW);have HN:=Hd hN
 obtain⟨q,hnq⟩:∃ q,num ys=q:=⟨_,rfl⟩
 rw [hnq] at hr HN;have HR:=Hd hr;clear hN hq hr hnq;have LL:=li1 w (Zr g2 A2 n2 c2 B2 m2 d2) 42
 go_enter func33,ntmps33
 obtain⟨q1_0,q1_1,q1_2⟩:=(LL.out.blk 0 rfl).c3;go_wp2_with fail;refine (HN.out _ LL.out.b).mono ?_;rintro e wk ⟨A5,n5,c5,rfl,h5,hb⟩;replace LL:=stL LL hb;clear hb q1_0 q1_1 q1_2 HN;obtain⟨q2_0,q2_1,q2_2⟩:=(LL.out.blk 0 rfl).c3
 by_cases k0:0<q
 ·have k1:0<n5:=by omega
  by_cases k2:n2<100
  ·clear h5;go_wp2
   go_ret
   exact⟨ret_bool (by rw [<- HR.out];simp [k0,k2];omega),LL.out.b⟩
  ·clear h5;go_wp2
   go_ret
   exact⟨ret_bool (by rw [<- HR.out];simp [k0,k2]),LL.out.b⟩
 ·have k1:n5=0:=by omega
  subst k1;clear h5;go_wp2
  go_ret
  exact⟨ret_bool (by rw [<- HR.out];simp [k0]),LL.out.b⟩
end
section
attribute [local go_sem] run_store_float run_negf run_eqf
theorem ret2{a b r1 r2:Nat}{e:Ending}{P:Prop}(h:e=.returned (Zf a b)/\P)(h1:a=r1)(h2:b=r2):e=.returned (Zf r1 r2)/\P:=by
 subst h1 h2;exact h
theorem rti_exact{d i j:Int}{n:Nat}(hd:d=-1\/d=1)(hj:0<j)(hj2:j<M)(hi:0<i)(hi2:i<M)(hn:0<n)(h:fl j ^ n=fl i):rti d i n=j:=by
 have hM:=M_val
 have p:0<fl j:=by have:=fl_lt_iff.2 hj;rwa [fl_zero] at this
 have ok:RtOk i n (fl j):=by
  refine⟨p,fun k hk=>?_⟩
  have pk:0<=fl k:=by have:=fl_le_iff.2 hk;rwa [fl_zero] at this
  rw [<- h]
  constructor
  ·constructor
   ·exact fun c=>rpow_le pk c n
   ·intro c
    by_cases q:fl k<=fl j
    ·exact q
    ·have:=rpow_lt (Rat.le_of_lt p) (show fl j<fl k by grind) n hn;grind
  ·constructor
   ·exact fun c=>rpow_le (Rat.le_of_lt p) c n
   ·intro c
    by_cases q:fl j<=fl k
    ·exact q
    ·have:=rpow_lt pk (show fl k<fl j by grind) n hn;grind
 unfold rti;rw [if_neg (by omega),rt1_of hd ok (by omega) (by omega)]
 exact rndI_fl hd (by omega) hj2
theorem sqr_known(W:World):Rt 14 #[Zf 4616189618054758400 4621256167635550208,Zf 0 4612811918334230528] (Zf 4611686018427387904 4612811918334230528) W:=by
 have h:=sqrrev_any 4616189618054758400 4621256167635550208 0 4612811918334230528 W (by decide) (by decide) (by decide) (by decide)
 have r1:rd 4616189618054758400 4621256167635550208=(4616189618054758400,4621256167635550208):=by decide +kernel
 have r2:rd 0 4612811918334230528=(0,4612811918334230528):=by decide +kernel
 have q1:=fun d (hd:d=-1\/d=1)=>rti_exact (d:=d) (i:=4616189618054758400) (j:=4611686018427387904) (n:=2) hd (by decide) (by decide +kernel) (by decide) (by decide +kernel) (by decide) (by decide +kernel);have q2:=fun d (hd:d=-1\/d=1)=>rti_exact (d:=d) (i:=4621256167635550208) (j:=4613937818241073152) (n:=2) hd (by decide) (by decide +kernel) (by decide) (by decide +kernel) (by decide) (by decide +kernel)
 have e:pwr 2 4616189618054758400 4621256167635550208 0 4612811918334230528=(4611686018427387904,4612811918334230528):=by
  unfold pwr;rw [if_neg (by decide),if_pos (by decide),show max (4616189618054758400:Int) 0=4616189618054758400 from by decide,q1 _ (.inl rfl),q1 _ (.inr rfl),q2 _ (.inl rfl),q2 _ (.inr rfl)]
  decide +kernel
 rw [r1,r2,e] at h
 have p1:pat 4611686018427387904=4611686018427387904:=by decide +kernel
 have p2:pat 4612811918334230528=4612811918334230528:=by decide +kernel
 rw [p1,p2] at h
 exact h
theorem add_known(W:World):Rt 22 #[Zf 4607182418800017408 4611686018427387904,Zf 4617315517961601024 4617315517961601024,Zf 13844628204490326016 4621256167635550208] (Zf 4613937818241073152 4616189618054758400) W:=
 (revadd_any 4607182418800017408 4611686018427387904 4617315517961601024 4617315517961601024 13844628204490326016 4621256167635550208 W (by decide) (by decide) (by decide) (by decide) (by decide) (by decide)).mono fun e w' h=>ret2 h (by decide +kernel) (by decide +kernel)
theorem of_law(a b:Nat)(w:World):Calls prog 20 (Zv a b) w fun e w'=>e=.returned (Zf a b)/\Below w.heap.size w w':=by
 have LL:=li1 w (Zv 0 0) 28
 go_enter func20,ntmps20
 replace LL:=Hd (LL.out.loose0 rfl);obtain⟨ha4_0,hf4_0,ha4_1,hf4_1⟩:=(LL.out.has 0 rfl).sf2;have LF:=Hd (LL.out.wr [.float .f64 a,.float .f64 b]);obtain⟨hk4_0,hk4_1⟩:=(LF.out.blk 0 rfl).c2
 simp [sets] at hk4_0 hk4_1
 clear LL;go_wp2;refine bodyPost_ret (v:=Zf a b) (by simp [results,results20,go_sem,hk4_0,hk4_1]) rfl ?_
 exact⟨rfl,below_alloc w _⟩
theorem awake_any(w:World):Rt 21 #[] (.bool true) w:=by
 have HO:=Hd of_law;have HS:=Hd sqr_known;have HD:=Hd add_known
 have o4613937818241073152:FloatKind.f64.format.order 4613937818241073152 4613937818241073152=some .eq:=by kernel_rfl
 have o4616189618054758400:FloatKind.f64.format.order 4616189618054758400 4616189618054758400=some .eq:=by kernel_rfl
 have o4611686018427387904:FloatKind.f64.format.order 4611686018427387904 4611686018427387904=some .eq:=by kernel_rfl
 have o4612811918334230528:FloatKind.f64.format.order 4612811918334230528 4612811918334230528=some .eq:=by kernel_rfl
 have LL:=Hd (show Lies w w [] [] from⟨Below.refl _ _,by simp,by simp⟩)
 go_enter func21,ntmps21
 go_wp2_with fail;refine cx (HO.out _ _ _) fun wk hb=>?_;replace LL:=stL LL hb;clear hb;go_wp2_with fail;refine cx (HO.out _ _ _) fun wk hb=>?_;replace LL:=stL LL hb;clear hb;go_wp2_with fail;refine cx (HO.out _ _ _) fun wk hb=>?_;replace LL:=stL LL hb;clear hb;go_wp2_with fail;refine cx (HD.out _) fun wk hb=>?_;replace LL:=stL LL hb;clear hb;go_wp2_with fail;refine cx (HO.out _ _ _) fun wk hb=>?_;replace LL:=stL LL hb;clear hb;go_wp2_with fail;refine cx (HO.out _ _ _) fun wk hb=>?_;replace LL:=stL LL hb;clear hb;go_wp2_with fail;refine cx (HO.out _ _ _) fun wk hb=>?_;replace LL:=stL LL hb;clear hb;go_wp2_with fail;refine cx (HS.out _) fun wk hb=>?_;replace LL:=stL LL hb;clear hb;go_wp2_with fail;refine cx (HO.out _ _ _) fun wk hb=>?_;replace LL:=stL LL hb;clear hb;go_wp2
 go_ret
 exact⟨rfl,LL.out.b⟩
end
end Go.Proofs.YthlmlmfebpjgdaaGreatDoor
