/-
Lemmas for the statement: AptI BelT BelI PwnI DvdT SrT StepI ClosT.
-/
import Derived.Test.YthlmlmfebpjgdaaGreatDoorM33
import Derived.Test.YthlmlmfebpjgdaaGreatDoorPBothT
import Derived.Test.YthlmlmfebpjgdaaGreatDoorPCut2T
import Derived.Test.YthlmlmfebpjgdaaGreatDoorM29
import Derived.Deep.DeepCutAuto
import Derived.Test.YthlmlmfebpjgdaaGreatDoorPIntsT
import Derived.Test.YthlmlmfebpjgdaaGreatDoorM19
import Derived.Test.YthlmlmfebpjgdaaGreatDoorPRoot2T
import Derived.Test.YthlmlmfebpjgdaaGreatDoorM31
import Derived.Test.YthlmlmfebpjgdaaGreatDoorPAddT
import Derived.Test.YthlmlmfebpjgdaaGreatDoorPPairT
import Derived.Deep.CutBlock
import Derived.Test.YthlmlmfebpjgdaaGreatDoorM32
import Derived.Test.YthlmlmfebpjgdaaGreatDoorPMinusT
set_option linter.unusedSimpArgs false
set_option linter.unusedVariables false
set_option maxHeartbeats 12800000
namespace Go.Proofs.YthlmlmfebpjgdaaGreatDoor
section
open Go.RowKit
noncomputable def rtx(j:Int)(n:Nat):Rat:=Classical.epsilon fun q=>RtQ (1 / fl j) n q
theorem recip_pos{j:Int}(h0:0<j):0<1 / fl j:=by
 have e1:1 / fl j*fl j=1:=Rat.div_mul_cancel (by have:=fl_pos' h0;grind);have:=fl_pos' h0
 by_cases z:0<1 / fl j
 ·exact z
 ·exfalso
  have:0<=-(1 / fl j)*fl j:=Rat.mul_nonneg (by grind) (by grind)
  grind
theorem rtx_ok{j:Int}(h0:0<j){n:Nat}(hn:1<=n):RtQ (1 / fl j) n (rtx j n):=by
 exact Classical.epsilon_spec (rtq_exists (recip_pos h0) (n:=n) (by omega))
noncomputable def ivd(d:Int)(j:Int)(n:Nat):Int:=if j=M then 0 else rndI d (rtx j n)
theorem ivd_rng{d:Int}(hd:d=-1\/d=1){j:Int}(h0:0<j)(h1:j<=M){n:Nat}(hn:1<=n):0<=ivd d j n/\ivd d j n<=M:=by
 have hM:=M_val;unfold ivd
 split
 ·omega
 ·have q:=(rtx_ok h0 hn).1;have r1:=rndI_down (rtx j n);have r2:=rndI_up (rtx j n);have r3:=rndI_mono hd (x:=0) (y:=rtx j n) (by grind);rw [rndI_zero hd] at r3
  rcases hd with rfl | rfl<;>omega
theorem inverse_full(j:Int)(n:Nat)(w:World)(h0:0<j)(h1:j<=M)(hn:1<=n)(hn2:n<=1024)(hT:Tab w):
  Rt 220 #[.float .f64 (pat j),.int .i64 (n:Int)] (.agg #[.float .f64 (pat (ivd (-1) j n)),.float .f64 (pat (ivd 1 j n))]) w:=by
 have hM:=M_val;unfold ivd
 by_cases c:j=M
 ·rw [if_pos c,if_pos c,pat_zero];have hI:=fun W=>isinf1 (pat j) W (by rw [rung_pat (by omega) (by omega)];omega);rw [idx_pat (by omega) (by omega),decide_eq_true (by omega)] at hI
  exact inverse_inf (pat j) n w hI (fun W=>at_any 0 W)
 ·rw [if_neg c,if_neg c]
  exact inverse_any j n _ w h0 (by omega) hn hn2 (rtx_ok h0 hn) hT
noncomputable def apt(n:Nat)(i2 j2 i j:Int):Int × Int:=
 if j2<=0 then ((M:Int),-(M:Int)) else ctO true i j (ivd (-1) j2 n) (ivd 1 j2 n) (if 0<i2 then ivd (-1) i2 n else M) (if 0<i2 then ivd 1 i2 n else M)
theorem apart_any(n:Nat)(i2 j2 i j:Int)(w:World)(hn:1<=n)(hn2:n<=1024)(hc:-(M:Int)<=i2/\i2<=M/\-(M:Int)<=j2/\j2<=M)(hx:-(M:Int)<=i/\i<=M/\-(M:Int)<=j/\j<=M)(hT:Tab w):
  Rt 172 #[.int .i64 (n:Int),.agg #[.float .f64 (pat i2),.float .f64 (pat j2)],.agg #[.float .f64 (pat i),.float .f64 (pat j)]] (.agg #[.float .f64 (pat (apt n i2 j2 i j).1),.float .f64 (pat (apt n i2 j2 i j).2)]) w:=by
 have hM:=M_val;have o2:=ord0 (i:=j2) (by omega);have o1:=ord0 (i:=i2) (by omega);unfold apt
 by_cases c:j2<=0
 ·rw [if_pos c,pat_max,pat_min];refine apart_none n _ _ _ _ w ?_ emptyf;rw [o2]
  rcases Int.lt_or_eq_of_le c with h | h
  ·left;rw [Int.compare_eq_lt.2 h]
  ·right;rw [Int.compare_eq_eq.2 h]
 ·rw [if_neg c];rw [Int.compare_eq_gt.2 (by omega)] at o2;have a1:=ivd_rng (d:=-1) (.inl rfl) (j:=j2) (by omega) (by omega) hn;have a2:=ivd_rng (d:=1) (.inr rfl) (j:=j2) (by omega) (by omega) hn;have hV:=fun W (t:Tab W)=>inverse_full j2 n W (by omega) (by omega) hn hn2 t
  by_cases k:0<i2
  ·rw [if_pos k,if_pos k];rw [Int.compare_eq_gt.2 k] at o1;have b1:=ivd_rng (d:=-1) (.inl rfl) (j:=i2) k (by omega) hn;have b2:=ivd_rng (d:=1) (.inr rfl) (j:=i2) k (by omega) hn
   exact apart_high n _ _ _ _ _ _ _ _ _ _ w o2 o1 inf_pos (fun W=>at_any _ W) hV (fun W t=>inverse_full i2 n W k (by omega) hn hn2 t) (fun W=>rcut2_any true i j _ _ _ _ W (by omega) (by omega) (by omega) (by omega) (by omega) (by omega)) hT
  ·rw [if_neg k,if_neg k];have hC:=fun W=>rcut2_any true i j (ivd (-1) j2 n) (ivd 1 j2 n) M M W (by omega) (by omega) (by omega) (by omega) (by omega) (by omega);rw [pat_max] at hC;refine apart_low n _ _ _ _ _ _ _ _ w o2 ?_ inf_pos (fun W=>at_any _ W) hV hC hT;rw [o1]
   rcases Int.lt_or_eq_of_le (show i2<=0 by omega) with h | h
   ·rw [Int.compare_eq_lt.2 h];rfl
   ·rw [Int.compare_eq_eq.2 h];rfl
end
section
open Go.RowKit
attribute [local go_sem] run_store_float
set_option maxRecDepth 8000 in
theorem below_even(n c1 c2 x y u1 u2 v1 v2 x3 y3 v3 v4 r1 r2:Nat)(w:World)(hn:n % 2=0)(hA1:∀ W,Tab W->Rt 172 #[.int .i64 (n:Int),.agg #[.float .f64 c1,.float .f64 c2],.agg #[.float .f64 x,.float .f64 y]] (.agg #[.float .f64 u1,.float .f64 u2]) W)(hMx:∀ W,Rt 85 #[.agg #[.float .f64 x,.float .f64 y]] (.agg #[.float .f64 x3,.float .f64 y3]) W)(hA2:∀ W,Tab W->Rt 172 #[.int .i64 (n:Int),.agg #[.float .f64 c1,.float .f64 c2],.agg #[.float .f64 x3,.float .f64 y3]] (.agg #[.float .f64 v1,.float .f64 v2]) W)(hM3:∀ W,Rt 85 #[.agg #[.float .f64 v1,.float .f64 v2]] (.agg #[.float .f64 v3,.float .f64 v4]) W)(hH:∀ W,Rt 63 #[.agg #[.float .f64 u1,.float .f64 u2],.agg #[.float .f64 v3,.float .f64 v4]] (.agg #[.float .f64 r1,.float .f64 r2]) W)(hT:Tab w):
  Rt 103 #[.int .i64 (n:Int),.agg #[.float .f64 c1,.float .f64 c2],.agg #[.float .f64 x,.float .f64 y]] (.agg #[.float .f64 r1,.float .f64 r2]) w:=by
 have e1:(n:Int) % 2=0:=by omega
 have e2:(n:Int).tmod 2=0:=by rw [Int.tmod_eq_emod_of_nonneg (by omega)];omega
 have HA1:=Hd hA1;have HMX:=Hd hMx;have HA2:=Hd hA2;have HM3:=Hd hM3;have HH:=Hd hH;clear hA1 hMx hA2 hM3 hH;have LL:=li3 w #[.float .f64 c1,.float .f64 c2] 28 #[.float .f64 x,.float .f64 y] 28 #[.float .f64 0,.float .f64 0] 28;have HT:=Hd (hT.below LL.out.b);clear hT hn
 go_enter Tryz.func103,Tryz.ntmps103
 obtain⟨q1_0,q1_1⟩:=(LL.out.blk 0 rfl).c2;obtain⟨q2_0,q2_1⟩:=(LL.out.blk 1 rfl).c2;go_wp2_with fail;refine cx (HA1.out _ HT.out) fun wk hb=>?_;replace LL:=stL LL hb;replace HT:=Hd (HT.out.below hb);clear hb q1_0 q1_1 q2_0 q2_1 HA1
 go_upto_region 2 with fail
 have hl_j7:=LL.out.lts;generalize hwn:World.alloc wk _=wn;replace HT:=Hd (HT.out.below (below_allocE hwn));replace LL:=Hd (LL.out.newE hwn)
 simp only [List.cons_append,List.nil_append] at LL
 simp only [List.mem_cons,List.not_mem_nil,or_false,forall_eq_or_imp,forall_eq,false_imp_iff,implies_true,and_true] at hl_j7
 clear hwn;generalize wk.heap.size=j7 at LL hl_j7 ⊢;go_wp2_with fail;replace LL:=Hd (LL.out.loose2 rfl);refine regL LL (fun hHeld=>?_);clear LL;replace HT:=Hd (HT.out.below (Below.refl _ _).drew);generalize World.drew _=wk at hHeld HT ⊢;refine tkb 0 (fun _ h=>(h.blk 2 rfl).c2) ?_;refine tks 1 ?_;refine tkb 2 (fun _ h=>(h.blk 0 rfl).c2) ?_;refine tkb 3 (fun _ h=>(h.blk 1 rfl).c2) ?_;refine rdy 4 (fun KK hKK=>?_);go_simp;refine cs (HMX.out _) ?_;clear hKK KK hHeld;intro wk hb2 hHeld;(try replace HT:=Hd (HT.out.below hb2));clear hb2;refine rdy 5 (fun KK hKK=>?_);go_simp;refine cs (HA2.out _ HT.out) ?_;clear hKK KK hHeld;intro wk hb3 hHeld;(try replace HT:=Hd (HT.out.below hb3));clear hb3;refine rdy 6 (fun KK hKK=>?_);go_simp;refine cs (HM3.out _) ?_;clear hKK KK hHeld;intro wk hb4 hHeld;(try replace HT:=Hd (HT.out.below hb4));clear hb4;refine rdy 7 (fun KK hKK=>?_);go_simp;refine cs (HH.out _) ?_;clear hKK KK hHeld;intro wk hb5 hHeld;(try replace HT:=Hd (HT.out.below hb5));clear hb5;refine rdy 8 (fun KK hKK=>?_);obtain⟨ha0,hf0,ha1,hf1⟩:=(hHeld.has 0 rfl).sf2;obtain⟨csx,hbx,-,hcx⟩:=hHeld.has 0 rfl;(try clear HT);clear hbx hcx;go_simp;have HS_0:=(hHeld.has 0 rfl).laid [.float .f64 r1,.float .f64 r2] rfl;refine hKK.out _ _ (hHeld.over 0 rfl [.float .f64 r1,.float .f64 r2] rfl rfl (by first | omega | exact hHeld.le_of 0 rfl) (by simp<;>omega) (by simp<;>omega)) (fun _=>?_);clear hKK KK hHeld;rename_i hHeld;(try simp only [Act.put,lay]);refine wpAnyH_done (by kernel_rfl) ?_ _
 have LB:=Hd hHeld.b;clear hHeld;obtain⟨hk6_0,hk6_1⟩:=HS_0.c2;clear HS_0
 simp [sets] at hk6_0 hk6_1
 go_wp2;refine bodyPost_ret (v:=.agg #[.float .f64 r1,.float .f64 r2]) (by simp [results,Tryz.results103,go_sem,hk6_0,hk6_1]) rfl ?_
 exact⟨rfl,LB.out⟩
set_option maxRecDepth 8000 in
theorem below_odd(n c1 c2 x y u1 u2 v1 v2 x3 y3 c3 c4 v3 v4 r1 r2:Nat)(w:World)(hn:n % 2=1)(hA1:∀ W,Tab W->Rt 172 #[.int .i64 (n:Int),.agg #[.float .f64 c1,.float .f64 c2],.agg #[.float .f64 x,.float .f64 y]] (.agg #[.float .f64 u1,.float .f64 u2]) W)(hMx:∀ W,Rt 85 #[.agg #[.float .f64 x,.float .f64 y]] (.agg #[.float .f64 x3,.float .f64 y3]) W)(hMc:∀ W,Rt 85 #[.agg #[.float .f64 c1,.float .f64 c2]] (.agg #[.float .f64 c3,.float .f64 c4]) W)(hA2:∀ W,Tab W->Rt 172 #[.int .i64 (n:Int),.agg #[.float .f64 c3,.float .f64 c4],.agg #[.float .f64 x3,.float .f64 y3]] (.agg #[.float .f64 v1,.float .f64 v2]) W)(hM3:∀ W,Rt 85 #[.agg #[.float .f64 v1,.float .f64 v2]] (.agg #[.float .f64 v3,.float .f64 v4]) W)(hH:∀ W,Rt 63 #[.agg #[.float .f64 u1,.float .f64 u2],.agg #[.float .f64 v3,.float .f64 v4]] (.agg #[.float .f64 r1,.float .f64 r2]) W)(hT:Tab w):
  Rt 103 #[.int .i64 (n:Int),.agg #[.float .f64 c1,.float .f64 c2],.agg #[.float .f64 x,.float .f64 y]] (.agg #[.float .f64 r1,.float .f64 r2]) w:=by
 have e1:(n:Int) % 2=1:=by omega
 have e2:(n:Int).tmod 2=1:=by rw [Int.tmod_eq_emod_of_nonneg (by omega)];omega
 have HA1:=Hd hA1;have HMX:=Hd hMx;have HA2:=Hd hA2;have HM3:=Hd hM3;have HH:=Hd hH;have HMC:=Hd hMc;clear hA1 hMx hA2 hM3 hH hMc;have LL:=li3 w #[.float .f64 c1,.float .f64 c2] 28 #[.float .f64 x,.float .f64 y] 28 #[.float .f64 0,.float .f64 0] 28;have HT:=Hd (hT.below LL.out.b);clear hT hn
 go_enter Tryz.func103,Tryz.ntmps103
 obtain⟨q1_0,q1_1⟩:=(LL.out.blk 0 rfl).c2;obtain⟨q2_0,q2_1⟩:=(LL.out.blk 1 rfl).c2;go_wp2_with fail;refine cx (HA1.out _ HT.out) fun wk hb=>?_;replace LL:=stL LL hb;replace HT:=Hd (HT.out.below hb);clear hb q1_0 q1_1 q2_0 q2_1 HA1
 go_upto_region 2 with fail
 have hl_j7:=LL.out.lts;generalize hwn:World.alloc wk _=wn;replace HT:=Hd (HT.out.below (below_allocE hwn));replace LL:=Hd (LL.out.newE hwn)
 simp only [List.cons_append,List.nil_append] at LL
 simp only [List.mem_cons,List.not_mem_nil,or_false,forall_eq_or_imp,forall_eq,false_imp_iff,implies_true,and_true] at hl_j7
 clear hwn;generalize wk.heap.size=j7 at LL hl_j7 ⊢;go_wp2_with fail;replace LL:=Hd (LL.out.loose2 rfl);refine regL LL (fun hHeld=>?_);clear LL;replace HT:=Hd (HT.out.below (Below.refl _ _).drew);generalize World.drew _=wk at hHeld HT ⊢;refine tkb 0 (fun _ h=>(h.blk 2 rfl).c2) ?_;refine tks 1 ?_;refine tkb 2 (fun _ h=>(h.blk 0 rfl).c2) ?_;refine tkb 4 (fun _ h=>(h.blk 1 rfl).c2) ?_;refine rdy 3 (fun KK hKK=>?_);go_simp;refine cs (HMC.out _) ?_;clear hKK KK hHeld;intro wk hb1 hHeld;(try replace HT:=Hd (HT.out.below hb1));clear hb1;refine rdy 5 (fun KK hKK=>?_);go_simp;refine cs (HMX.out _) ?_;clear hKK KK hHeld;intro wk hb2 hHeld;(try replace HT:=Hd (HT.out.below hb2));clear hb2;refine rdy 6 (fun KK hKK=>?_);go_simp;refine cs (HA2.out _ HT.out) ?_;clear hKK KK hHeld;intro wk hb3 hHeld;(try replace HT:=Hd (HT.out.below hb3));clear hb3;refine rdy 7 (fun KK hKK=>?_);go_simp;refine cs (HM3.out _) ?_;clear hKK KK hHeld;intro wk hb4 hHeld;(try replace HT:=Hd (HT.out.below hb4));clear hb4;refine rdy 8 (fun KK hKK=>?_);go_simp;refine cs (HH.out _) ?_;clear hKK KK hHeld;intro wk hb5 hHeld;(try replace HT:=Hd (HT.out.below hb5));clear hb5;refine rdy 9 (fun KK hKK=>?_);obtain⟨ha0,hf0,ha1,hf1⟩:=(hHeld.has 0 rfl).sf2;obtain⟨csx,hbx,-,hcx⟩:=hHeld.has 0 rfl;(try clear HT);clear hbx hcx;go_simp;have HS_0:=(hHeld.has 0 rfl).laid [.float .f64 r1,.float .f64 r2] rfl;refine hKK.out _ _ (hHeld.over 0 rfl [.float .f64 r1,.float .f64 r2] rfl rfl (by first | omega | exact hHeld.le_of 0 rfl) (by simp<;>omega) (by simp<;>omega)) (fun _=>?_)
 clear hKK KK hHeld;rename_i hHeld;(try simp only [Act.put,lay]);refine wpAnyH_done (by kernel_rfl) ?_ _;have LB:=Hd hHeld.b;clear hHeld;obtain⟨hk6_0,hk6_1⟩:=HS_0.c2;clear HS_0
 simp [sets] at hk6_0 hk6_1
 go_wp2;refine bodyPost_ret (v:=.agg #[.float .f64 r1,.float .f64 r2]) (by simp [results,Tryz.results103,go_sem,hk6_0,hk6_1]) rfl ?_
 exact⟨rfl,LB.out⟩
end
section
open Go.RowKit
theorem ivd_lt{j:Int}(h0:0<j){n:Nat}:ivd (-1) j n<M:=by
 have hM:=M_val;unfold ivd
 split
 ·omega
 ·have:=rndI_down (rtx j n);omega
theorem ivd_pair(j:Int)(n:Nat):ivd (-1) j n<=ivd 1 j n:=by
 unfold ivd
 split
 ·omega
 ·exact rndI_le _
theorem ivd_anti{a b:Int}(h0:0<a)(hab:a<=b)(hb:b<=M){n:Nat}(hn:1<=n):ivd (-1) b n<=ivd (-1) a n/\ivd 1 b n<=ivd 1 a n:=by
 have hM:=M_val;have ra:=ivd_rng (d:=-1) (.inl rfl) h0 (by omega:a<=M) hn;have ra':=ivd_rng (d:=1) (.inr rfl) h0 (by omega:a<=M) hn
 by_cases c:b=M
 ·have e1:ivd (-1) b n=0:=by unfold ivd;rw [if_pos c]
  have e2:ivd 1 b n=0:=by unfold ivd;rw [if_pos c]
  omega
 ·have eb:∀ d,ivd d b n=rndI d (rtx b n):=fun d=>by unfold ivd;rw [if_neg c]
  have ea:∀ d,ivd d a n=rndI d (rtx a n):=fun d=>by unfold ivd;rw [if_neg (by omega)]
  rw [eb,eb,ea,ea];rw [ea] at ra ra';have qa:=rtx_ok h0 hn;have qb:=rtx_ok (j:=b) (by omega) hn;have pa:=recip_pos h0
  have hX:1 / fl b<=1 / fl a:=by
   have fa:=fl_pos' h0;have fb:=fl_pos' (k:=b) (by omega);have hle:fl a<=fl b:=fl_le_iff.2 hab
   have e:1 / (1 / fl a)=fl a:=by grind
   have:=(one_div_flip (a:=1 / fl a) (b:=fl b) pa fb).2
   exact this.2 (by rw [e];exact hle)
  have key:∀ i:Int,0<=i->fl i<=rtx b n->fl i<=rtx a n:=fun i hi h=>(qa.2 i hi).1.2 (Rat.le_trans ((qb.2 i hi).1.1 h) hX);have key2:∀ i:Int,0<=i->rtx a n<=fl i->rtx b n<=fl i:=fun i hi h=>(qb.2 i hi).2.2 (Rat.le_trans hX ((qa.2 i hi).2.1 h));have db:=rndI_down (rtx b n);have da:=rndI_down (rtx a n);have ub:=rndI_up (rtx b n);have ua:=rndI_up (rtx a n);have rb:=ivd_rng (d:=-1) (.inl rfl) (j:=b) (by omega) hb hn;rw [eb] at rb
  constructor
  ·exact (da.2.2 _ (by omega) (by omega)).2 (key _ rb.1 ((db.2.2 _ (by omega) (by omega)).1 (Int.le_refl _)))
  ·by_cases z:rndI 1 (rtx a n)=M
   ·omega
   ·exact (ub.2.2 _ (by omega) (by omega)).2 (key2 _ ra'.1 ((ua.2.2 _ (by omega) (by omega)).1 (Int.le_refl _)))
theorem apt_iv{n:Nat}{i2 j2 i j:Int}(hn:1<=n)(hc:i2<=j2/\j2<=M/\i2<M)(hx:-(M:Int)<=i/\i<=j/\j<=M/\i<M/\-(M:Int)<j):Iv (apt n i2 j2 i j).1 (apt n i2 j2 i j).2:=by
 have hM:=M_val;unfold apt
 by_cases c:j2<=0
 ·rw [if_pos c];exact Iv.none
 ·rw [if_neg c];have a1:=ivd_rng (d:=-1) (.inl rfl) (j:=j2) (by omega) hc.2.1 hn;have a2:=ivd_rng (d:=1) (.inr rfl) (j:=j2) (by omega) hc.2.1 hn;have a3:=ivd_lt (j:=j2) (by omega) (n:=n);have a4:=ivd_pair j2 n
  obtain⟨qd,hqd⟩:∃ q,(if 0<i2 then ivd (-1) i2 n else (M:Int))=q:=⟨_,rfl⟩
  obtain⟨qu,hqu⟩:∃ q,(if 0<i2 then ivd 1 i2 n else (M:Int))=q:=⟨_,rfl⟩
  have hq:0<=qd/\qd<=qu/\ivd (-1) j2 n<=qu:=by
   by_cases k:0<i2
   ·rw [if_pos k] at hqd hqu;have b1:=ivd_rng (d:=-1) (.inl rfl) (j:=i2) k (by omega) hn;have b4:=ivd_pair i2 n;have b5:=ivd_anti k hc.1 hc.2.1 hn
    omega
   ·rw [if_neg k] at hqd hqu
    omega
  rw [hqd,hqu];unfold ctO
  by_cases c1:qd<i\/j<ivd 1 j2 n
  ·rw [if_pos c1];exact Iv.none
  ·rw [if_neg c1]
   split
   ·exact Iv.none
   ·unfold Iv
    dsimp only
    omega
noncomputable def blw(n:Nat)(i2 j2 i j:Int):Int × Int:=
 (min (apt n i2 j2 i j).1 (-(if n % 2=0 then apt n i2 j2 (-j) (-i) else apt n (-j2) (-i2) (-j) (-i)).2),max (apt n i2 j2 i j).2 (-(if n % 2=0 then apt n i2 j2 (-j) (-i) else apt n (-j2) (-i2) (-j) (-i)).1))
theorem mirror_pat{i j:Int}(h:Iv i j)(w:World):Rt 85 #[.agg #[.float .f64 (pat i),.float .f64 (pat j)]] (.agg #[.float .f64 (pat (-j)),.float .f64 (pat (-i))]) w:=by
 have m:=mirrorf (pat i) (pat j) w (pat_lt h.lo.1 h.lo.2) (pat_lt h.hi.1 h.hi.2);rw [rd_pat h] at m
 exact m
theorem neg_iv'{i j:Int}(h:Iv i j):Iv (-j) (-i):=by
 have hM:=M_val;unfold Iv at *
 omega
theorem below_any(n:Nat)(i2 j2 i j:Int)(w:World)(hn:1<=n)(hn2:n<=1024)(hc:-(M:Int)<=i2/\i2<=j2/\j2<=M/\i2<M/\-(M:Int)<j2)(hx:-(M:Int)<=i/\i<=j/\j<=M/\i<M/\-(M:Int)<j)(hT:Tab w):
  Rt 103 #[.int .i64 (n:Int),.agg #[.float .f64 (pat i2),.float .f64 (pat j2)],.agg #[.float .f64 (pat i),.float .f64 (pat j)]] (.agg #[.float .f64 (pat (blw n i2 j2 i j).1),.float .f64 (pat (blw n i2 j2 i j).2)]) w:=by
 have hM:=M_val;have hu:=apt_iv (n:=n) hn (i2:=i2) (j2:=j2) (by omega) hx;have A1:=fun W (t:Tab W)=>apart_any n i2 j2 i j W hn hn2 (by omega) (by omega) t;have MX:=fun W=>mirror_pat (i:=i) (j:=j) (.inl hx) W;unfold blw
 rcases Nat.mod_two_eq_zero_or_one n with hp | hp
 ·rw [if_pos hp];have hv:=apt_iv (n:=n) hn (i2:=i2) (j2:=j2) (i:=-j) (j:=-i) (by omega) (by omega)
  exact below_even n _ _ _ _ _ _ _ _ _ _ _ _ _ _ w hp A1 MX (fun W t=>apart_any n i2 j2 (-j) (-i) W hn hn2 (by omega) (by omega) t) (fun W=>mirror_pat hv W) (fun W=>hullf _ _ _ _ W hu (neg_iv' hv)) hT
 ·rw [if_neg (by omega)];have hv:=apt_iv (n:=n) hn (i2:=-j2) (j2:=-i2) (i:=-j) (j:=-i) (by omega) (by omega)
  exact below_odd n _ _ _ _ _ _ _ _ _ _ _ _ _ _ _ _ w hp A1 MX (fun W=>mirror_pat (i:=i2) (j:=j2) (.inl hc) W) (fun W t=>apart_any n (-j2) (-i2) (-j) (-i) W hn hn2 (by omega) (by omega) t) (fun W=>mirror_pat hv W) (fun W=>hullf _ _ _ _ W hu (neg_iv' hv)) hT
end
section
open Go.RowKit
noncomputable def pwz(z:Int)(i2 j2 i j:Int):Int × Int:=
 if z < -1024\/1024<z then (i,j)
 else if j2<i2\/j<i then ((M:Int),-(M:Int))
 else if z=0 then (if i2<=4607182418800017408/\4607182418800017408<=j2 then (i,j) else ((M:Int),-(M:Int)))
 else if z<0 then (if z % 2=0/\j2<0 then ((M:Int),-(M:Int)) else blw z.natAbs i2 j2 i j)
 else pwr z.natAbs i2 j2 i j
theorem order_oneI{i:Int}(h:-(M:Int)<=i/\i<=M):FloatKind.f64.format.order (pat i) 4607182418800017408=some (compare i 4607182418800017408):=by
 have hM:=M_val;have o:=order_pat (i:=i) (j:=4607182418800017408) h.1 h.2 (by omega) (by omega)
 rwa [show pat 4607182418800017408=4607182418800017408 from pat_nn (by omega)] at o
theorem pownz_any(z:Int)(c1 c2 x y:Nat)(w:World)(hc1:c1<18446744073709551616)(hc2:c2<18446744073709551616)(hx:x<18446744073709551616)(hy:y<18446744073709551616)(hT:Tab w):
  Rt 39 #[.int .i64 z,.agg #[.float .f64 c1,.float .f64 c2],.agg #[.float .f64 x,.float .f64 y]] (.agg #[.float .f64 (pat (pwz z (rd c1 c2).1 (rd c1 c2).2 (rd x y).1 (rd x y).2).1),.float .f64 (pat (pwz z (rd c1 c2).1 (rd c1 c2).2 (rd x y).1 (rd x y).2).2)]) w:=by
 have hM:=M_val
 by_cases zp:0<z/\z<=1024
 ·obtain⟨n,rfl⟩:∃ n:Nat,z=(n:Int):=⟨z.toNat,by omega⟩
  have h:=pown_any n c1 c2 x y w (by omega) (by omega) hc1 hc2 hx hy
  have e:pwz (n:Int) (rd c1 c2).1 (rd c1 c2).2 (rd x y).1 (rd x y).2=pwr n (rd c1 c2).1 (rd c1 c2).2 (rd x y).1 (rd x y).2:=by
   unfold pwz;rw [if_neg (by omega),if_neg (show ¬ (n:Int)=0 by omega),if_neg (show ¬ (n:Int)<0 by omega),Int.natAbs_natCast]
   by_cases k:(rd c1 c2).2<(rd c1 c2).1\/(rd x y).2<(rd x y).1
   ·rw [if_pos k];unfold pwr;rw [if_pos (by omega)]
   ·rw [if_neg k]
  rw [e]
  exact h
 have v2:=rd_iv c1 c2;have v3:=rd_iv x y;have t2:=fun W=>readf c1 c2 W hc1 hc2;have t3:=fun W=>readf x y W hx hy
 obtain⟨⟨i2,j2⟩,r2⟩:∃ z,rd c1 c2=z:=⟨_,rfl⟩
 obtain⟨⟨i3,j3⟩,r3⟩:∃ z,rd x y=z:=⟨_,rfl⟩
 rw [r2] at v2 t2;rw [r3] at v3 t3;rw [r2,r3]
 dsimp only at *
 have m2:=em_idx v2;have m3:=em_idx v3;unfold pwz
 by_cases far:z < -1024\/1024<z
 ·rw [if_pos far]
  rcases far with h | h
  ·exact pownz_lo z _ _ _ _ _ _ w h t3
  ·exact pownz_hi z _ _ _ _ _ _ w h t3
 rw [if_neg far]
 by_cases hno:j2<i2\/j3<i3
 ·rw [if_pos hno,pat_max,pat_min]
  exact pownz_none z _ _ _ _ _ _ _ _ _ _ w t2 m2 t3 m3 (by omega) (by omega) (by simp;omega)
 rw [if_neg hno]
 have hnn:(decide (j2<i2) || decide (j3<i3))=false:=by simp;omega
 have k2:=ne_or v2 (by omega);have k3:=ne_or v3 (by omega);unfold Ne at k2 k3
 by_cases z0:z=0
 ·subst z0;rw [if_pos rfl];have o1:=order_oneI (i:=i2) v2.lo;have o2:=order_oneI (i:=j2) v2.hi
  by_cases k:i2<=4607182418800017408/\4607182418800017408<=j2
  ·rw [if_pos k];refine pownz_in _ _ _ _ _ _ _ _ _ _ _ _ w t2 m2 t3 m3 hnn o1 o2 ?_ ?_
   ·rcases Int.lt_or_eq_of_le k.1 with h | h
    ·exact .inl (Int.compare_eq_lt.2 h)
    ·exact .inr (Int.compare_eq_eq.2 h)
   ·rcases Int.lt_or_eq_of_le k.2 with h | h
    ·exact .inl (Int.compare_eq_gt.2 h)
    ·exact .inr (Int.compare_eq_eq.2 h.symm)
  ·rw [if_neg k,pat_max,pat_min];refine pownz_out _ _ _ _ _ _ _ _ _ _ _ _ w t2 m2 t3 m3 hnn o1 o2 ?_
   rcases Int.lt_trichotomy i2 4607182418800017408 with h | h | h
   ·exact .inr (.inl ⟨Int.compare_eq_lt.2 h,Int.compare_eq_lt.2 (by omega)⟩)
   ·exact .inr (.inr ⟨Int.compare_eq_eq.2 h,Int.compare_eq_lt.2 (by omega)⟩)
   ·exact .inl (Int.compare_eq_gt.2 h)
 rw [if_neg z0,if_pos (show z<0 by omega)]
 obtain⟨n,rfl⟩:∃ n:Nat,z=-(n:Int):=⟨z.natAbs,by omega⟩
 have en:(-(n:Int)).natAbs=n:=by omega
 rw [en];have hB:=fun W (t:Tab W)=>below_any n i2 j2 i3 j3 W (by omega) (by omega) (by omega) (by omega) t
 rcases Nat.mod_two_eq_zero_or_one n with hp | hp
 ·by_cases h0:j2<0
  ·rw [if_pos (by omega),pat_max,pat_min]
   exact pownz_neg n _ _ _ _ _ _ _ _ _ _ w t2 m2 t3 m3 (by omega) (by omega) hp hnn (ord0_lt v2.hi h0)
  ·rw [if_neg (by omega)]
   exact pownz_even n _ _ _ _ _ _ _ _ _ _ (compare j2 0) _ _ w t2 m2 t3 m3 (by omega) (by omega) hp hnn (ord0 v2.hi) (by
    by_cases h:j2=0
    ·exact .inl (Int.compare_eq_eq.2 h)
    ·exact .inr (Int.compare_eq_gt.2 (by omega))) hB hT
 ·rw [if_neg (by omega)]
  exact pownz_odd n _ _ _ _ _ _ _ _ _ _ _ _ w t2 m2 t3 m3 (by omega) (by omega) hp hnn hB hT
end
section
open Go.RowKit
attribute [local go_sem] run_store_float
set_option maxRecDepth 8000 in
theorem product_walk(x y p1 p2:Nat)(w:World)(h1:∀ W,Rt 119 #[.int .i64 (-1),.float .f64 x,.float .f64 y] (.float .f64 p1) W)(h2:∀ W,Rt 119 #[.int .i64 1,.float .f64 x,.float .f64 y] (.float .f64 p2) W):
  Rt 78 #[.float .f64 x,.float .f64 y] (.agg #[.float .f64 p1,.float .f64 p2]) w:=by
 have H1:=Hd h1;have H2:=Hd h2;clear h1 h2;have LL:=li1 w #[.float .f64 0,.float .f64 0] 78
 go_enter Tryz.func78,Tryz.ntmps78
 go_wp2_with fail;refine cx (H1.out _) fun wk hb=>?_;replace LL:=stL LL hb;clear hb;go_wp2_with fail;refine cx (H2.out _) fun wk hb=>?_;replace LL:=stL LL hb;clear hb;replace LL:=Hd (LL.out.loose0 rfl);obtain⟨ha4_0,hf4_0,ha4_1,hf4_1⟩:=(LL.out.has 0 rfl).sf2;have LF:=Hd (LL.out.write [.float .f64 p1,.float .f64 p2] rfl (by omega) (by simp<;>omega) (by simp<;>omega));obtain⟨hk4_0,hk4_1⟩:=(LF.out.blk 0 rfl).c2
 simp [sets] at hk4_0 hk4_1
 clear LL;go_wp2;refine bodyPost_ret (v:=.agg #[.float .f64 p1,.float .f64 p2]) (by simp [results,Tryz.results78,go_sem,hk4_0,hk4_1]) rfl ?_
 exact⟨rfl,LF.out.b⟩
end
section
open Go.RowKit
attribute [local go_sem] run_store_float run_negf
set_option maxRecDepth 8000 in
theorem sqrt_none(b1 b2 c1 c2 A1 A2 x1 x2:Nat)(d1 d2:Bool)(w:World)(t1:∀ W,Rt 102 #[.agg #[.float .f64 b1,.float .f64 b2]] (.agg #[.float .f64 A1,.float .f64 A2]) W)(m1:Em d1 A1 A2)(t2:∀ W,Rt 102 #[.agg #[.float .f64 c1,.float .f64 c2]] (.agg #[.float .f64 x1,.float .f64 x2]) W)(m2:Em d2 x1 x2)(hnn:(d1 || d2)=true):
  Rt 17 #[.agg #[.float .f64 b1,.float .f64 b2],.agg #[.float .f64 c1,.float .f64 c2]] (.agg #[.float .f64 9218868437227405312,.float .f64 18442240474082181120]) w:=by
 have HE:=Hd emptyf;have HRD:=readL32 w #[.float .f64 0,.float .f64 0] 28 t1 m1 t2 m2 hnn;clear t1 m1 t2 m2 hnn
 go_enter Tryz.func17,Tryz.ntmps17
 go_wp2_with fail;refine HRD.out.mono ?_;rintro e wk ⟨rfl,hl⟩;have LL:=Hd hl;clear hl HRD;go_wp2_with fail;refine cx (HE.out _) fun wk hb=>?_;replace LL:=stL LL hb;clear hb;replace LL:=Hd (LL.out.loose2 rfl);obtain⟨ha4_0,hf4_0,ha4_1,hf4_1⟩:=(LL.out.has 0 rfl).sf2;have LF:=Hd (LL.out.write [.float .f64 9218868437227405312,.float .f64 18442240474082181120] rfl (by omega) (by simp<;>omega) (by simp<;>omega));obtain⟨hk4_0,hk4_1⟩:=(LF.out.blk 2 rfl).c2
 simp [sets] at hk4_0 hk4_1
 clear LL;go_wp2;refine bodyPost_ret (v:=.agg #[.float .f64 9218868437227405312,.float .f64 18442240474082181120]) (by simp [results,Tryz.results17,go_sem,hk4_0,hk4_1]) rfl ?_
 exact⟨rfl,LF.out.b⟩
set_option maxRecDepth 8000 in
theorem sqrt_neg(b1 b2 c1 c2 A1 A2 x1 x2:Nat)(d1 d2:Bool)(w:World)(t1:∀ W,Rt 102 #[.agg #[.float .f64 b1,.float .f64 b2]] (.agg #[.float .f64 A1,.float .f64 A2]) W)(m1:Em d1 A1 A2)(t2:∀ W,Rt 102 #[.agg #[.float .f64 c1,.float .f64 c2]] (.agg #[.float .f64 x1,.float .f64 x2]) W)(m2:Em d2 x1 x2)(hnn:(d1 || d2)=false)(ho:FloatKind.f64.format.order A2 0=some .lt):
  Rt 17 #[.agg #[.float .f64 b1,.float .f64 b2],.agg #[.float .f64 c1,.float .f64 c2]] (.agg #[.float .f64 9218868437227405312,.float .f64 18442240474082181120]) w:=by
 have HE:=Hd emptyf;have HRD:=readL32 w #[.float .f64 0,.float .f64 0] 28 t1 m1 t2 m2 hnn;clear t1 m1 t2 m2 hnn
 go_enter Tryz.func17,Tryz.ntmps17
 go_wp2_with fail;refine HRD.out.mono ?_;rintro e wk ⟨rfl,hl⟩;have LL:=Hd hl;clear hl HRD;obtain⟨q1_0,q1_1⟩:=(LL.out.blk 0 rfl).c2;go_wp2_with fail;refine cx (HE.out _) fun wk hb=>?_;replace LL:=stL LL hb;clear hb q1_0 q1_1 ho;replace LL:=Hd (LL.out.loose2 rfl);obtain⟨ha4_0,hf4_0,ha4_1,hf4_1⟩:=(LL.out.has 0 rfl).sf2;have LF:=Hd (LL.out.write [.float .f64 9218868437227405312,.float .f64 18442240474082181120] rfl (by omega) (by simp<;>omega) (by simp<;>omega));obtain⟨hk4_0,hk4_1⟩:=(LF.out.blk 2 rfl).c2
 simp [sets] at hk4_0 hk4_1
 clear LL;go_wp2;refine bodyPost_ret (v:=.agg #[.float .f64 9218868437227405312,.float .f64 18442240474082181120]) (by simp [results,Tryz.results17,go_sem,hk4_0,hk4_1]) rfl ?_
 exact⟨rfl,LF.out.b⟩
set_option maxRecDepth 8000 in
theorem sqrt_some(b1 b2 c1 c2 A1 A2 x1 x2 mx p1 p2 q1 q2 r1 r2:Nat)(o:Ordering)(d1 d2:Bool)(w:World)(t1:∀ W,Rt 102 #[.agg #[.float .f64 b1,.float .f64 b2]] (.agg #[.float .f64 A1,.float .f64 A2]) W)(m1:Em d1 A1 A2)(t2:∀ W,Rt 102 #[.agg #[.float .f64 c1,.float .f64 c2]] (.agg #[.float .f64 x1,.float .f64 x2]) W)(m2:Em d2 x1 x2)(hnn:(d1 || d2)=false)(ho:FloatKind.f64.format.order A2 0=some o)(hoo:o=.eq\/o=.gt)
  (hmx:∀ W ts t,(Builtin.max_ ts t #[.float .f64 A1,.float .f64 0]).run Tryz.prog W=.ok (.float .f64 mx) W)(h1:∀ W,Rt 78 #[.float .f64 mx,.float .f64 mx] (.agg #[.float .f64 p1,.float .f64 p2]) W)(h2:∀ W,Rt 78 #[.float .f64 A2,.float .f64 A2] (.agg #[.float .f64 q1,.float .f64 q2]) W)(ht:∀ W,Rt 77 #[.agg #[.float .f64 x1,.float .f64 x2],.agg #[.float .f64 p1,.float .f64 p2],.agg #[.float .f64 q1,.float .f64 q2],.bool false] (.agg #[.float .f64 r1,.float .f64 r2]) W):
  Rt 17 #[.agg #[.float .f64 b1,.float .f64 b2],.agg #[.float .f64 c1,.float .f64 c2]] (.agg #[.float .f64 r1,.float .f64 r2]) w:=by
 have H1:=Hd h1;have H2:=Hd h2;have HT:=Hd ht;clear h1 h2 ht
 rcases hoo with rfl | rfl
 all_goals
  have HRD:=readL32 w #[.float .f64 0,.float .f64 0] 28 t1 m1 t2 m2 hnn;clear t1 m1 t2 m2 hnn
  go_enter Tryz.func17,Tryz.ntmps17
  go_wp2_with fail;refine HRD.out.mono ?_;rintro e wk ⟨rfl,hl⟩;have LL:=Hd hl;clear hl HRD;obtain⟨q1_0,q1_1⟩:=(LL.out.blk 0 rfl).c2
  go_upto_region 4 with fail
  clear ho q1_0 q1_1;replace LL:=Hd (LL.out.loose2 rfl);refine regL LL (fun hHeld=>?_);clear LL;generalize World.drew _=wk at hHeld  ⊢;refine tkb 0 (fun _ h=>(h.blk 1 rfl).c2) ?_;refine tks 1 ?_;refine tks 2 ?_;refine tks 4 ?_;refine tkb 5 (fun _ h=>(h.blk 0 rfl).c2) ?_;refine tks 6 ?_;refine tkb 7 (fun _ h=>(h.blk 0 rfl).c2) ?_;refine rdy 3 (fun KK hKK=>?_);go_simp;refine cs (H1.out _) ?_;clear hKK KK hHeld;intro wk hb1 hHeld;clear hb1;refine rdy 8 (fun KK hKK=>?_);go_simp;refine cs (H2.out _) ?_;clear hKK KK hHeld;intro wk hb2 hHeld;clear hb2;refine rdy 9 (fun KK hKK=>?_);go_simp;refine cs (HT.out _) ?_;clear hKK KK hHeld;intro wk hb3 hHeld;clear hb3;refine rdy 10 (fun KK hKK=>?_);obtain⟨ha0,hf0,ha1,hf1⟩:=(hHeld.has 0 rfl).sf2;go_simp;have HS_0:=(hHeld.has 0 rfl).laid [.float .f64 r1,.float .f64 r2] rfl;refine hKK.out _ _ (hHeld.over 0 rfl [.float .f64 r1,.float .f64 r2] rfl rfl (by first | omega | exact hHeld.le_of 0 rfl) (by simp<;>omega) (by simp<;>omega)) (fun _=>?_);clear hKK KK hHeld;rename_i hHeld;(try simp only [Act.put,lay]);refine wpAnyH_done (by kernel_rfl) ?_ _;have LB:=Hd hHeld.b;clear hHeld;obtain⟨hk4_0,hk4_1⟩:=HS_0.c2;clear HS_0
  simp [sets] at hk4_0 hk4_1
  go_wp2;refine bodyPost_ret (v:=.agg #[.float .f64 r1,.float .f64 r2]) (by simp [results,Tryz.results17,go_sem,hk4_0,hk4_1]) rfl ?_
  exact⟨rfl,LB.out⟩
def sq(d i:Int):Int:=if i=0 then 0 else mu d i i
theorem mul_nought(d:Int)(w:World)(hd:d=-1\/d=1):Rt 119 #[.int .i64 d,.float .f64 0,.float .f64 0] (.float .f64 0) w:=by
 have h:=rmul_exact d 0 0 0 w hd (by decide) (by decide) (by decide) (by decide) (by kernel_rfl) (by decide) (by decide) (by decide)
 have e:rndI d (fl (idx 0)*fl (idx 0))=0:=by
  rw [show idx 0=0 from by decide,fl_zero,show (0:Rat)*0=0 from by grind];exact rndI_zero hd
 rw [e,pat_zero] at h
 exact h
theorem sq_any(i:Int)(w:World)(hi:0<=i/\i<=M):Rt 78 #[.float .f64 (pat i),.float .f64 (pat i)] (.agg #[.float .f64 (pat (sq (-1) i)),.float .f64 (pat (sq 1 i))]) w:=by
 have hM:=M_val;unfold sq
 by_cases h:i=0
 ·subst h;rw [if_pos rfl,if_pos rfl,pat_zero]
  exact product_walk _ _ _ _ w (fun W=>mul_nought (-1) W (.inl rfl)) (fun W=>mul_nought 1 W (.inr rfl))
 ·rw [if_neg h,if_neg h]
  exact product_walk _ _ _ _ w (fun W=>rmul_pat (-1) i i W (.inl rfl) (by omega) (by omega) h h) (fun W=>rmul_pat 1 i i W (.inr rfl) (by omega) (by omega) h h)
theorem sq_rng{d i:Int}(hd:d=-1\/d=1)(hi:0<=i/\i<=M):-(M:Int)<=sq d i/\sq d i<=M:=by
 have hM:=M_val;unfold sq mu;have a:=rndI_down (fl i*fl i);have b:=rndI_up (fl i*fl i)
 split
 ·omega
 ·split
  ·split<;>omega
  ·rcases hd with rfl | rfl<;>omega
def sqt(i2 j2 i j:Int):Int × Int:=
 if j2<i2\/j<i\/j2<0 then ((M:Int),-(M:Int)) else ctO false i j (sq (-1) (max i2 0)) (sq 1 (max i2 0)) (sq (-1) j2) (sq 1 j2)
theorem sqrtrev_any(c1 c2 x y:Nat)(w:World)(hc1:c1<18446744073709551616)(hc2:c2<18446744073709551616)(hx:x<18446744073709551616)(hy:y<18446744073709551616):
  Rt 17 #[.agg #[.float .f64 c1,.float .f64 c2],.agg #[.float .f64 x,.float .f64 y]] (.agg #[.float .f64 (pat (sqt (rd c1 c2).1 (rd c1 c2).2 (rd x y).1 (rd x y).2).1),.float .f64 (pat (sqt (rd c1 c2).1 (rd c1 c2).2 (rd x y).1 (rd x y).2).2)]) w:=by
 have hM:=M_val;have v2:=rd_iv c1 c2;have v3:=rd_iv x y;have t2:=fun W=>readf c1 c2 W hc1 hc2;have t3:=fun W=>readf x y W hx hy
 obtain⟨⟨i2,j2⟩,r2⟩:∃ z,rd c1 c2=z:=⟨_,rfl⟩
 obtain⟨⟨i3,j3⟩,r3⟩:∃ z,rd x y=z:=⟨_,rfl⟩
 rw [r2] at v2 t2;rw [r3] at v3 t3;rw [r2,r3]
 dsimp only at *
 have m2:=em_idx v2;have m3:=em_idx v3;unfold sqt
 by_cases hno:j2<i2\/j3<i3
 ·rw [if_pos (by omega),pat_max,pat_min]
  exact sqrt_none _ _ _ _ _ _ _ _ _ _ w t2 m2 t3 m3 (by simp;omega)
 have hnn:(decide (j2<i2) || decide (j3<i3))=false:=by simp;omega
 have k2:=ne_or v2 (by omega);unfold Ne at k2
 by_cases h0:j2<0
 ·rw [if_pos (by omega),pat_max,pat_min]
  exact sqrt_neg _ _ _ _ _ _ _ _ _ _ w t2 m2 t3 m3 hnn (ord0_lt v2.hi h0)
 ·rw [if_neg (by omega)];have hmx:=fun W ts t=>run_maxf v2.lo (show -(M:Int)<=0/\(0:Int)<=M by omega) W ts t;rw [pat_zero] at hmx
  exact sqrt_some _ _ _ _ _ _ _ _ _ _ _ _ _ _ _ (compare j2 0) _ _ w t2 m2 t3 m3 hnn (ord0 v2.hi) (by
   by_cases h:j2=0
   ·exact .inl (Int.compare_eq_eq.2 h)
   ·exact .inr (Int.compare_eq_gt.2 (by omega))) hmx (fun W=>sq_any (max i2 0) W (by omega)) (fun W=>sq_any j2 W (by omega))
   (fun W=>rcut2_any false i3 j3 _ _ _ _ W v3.lo v3.hi (sq_rng (.inl rfl) (by omega)) (sq_rng (.inr rfl) (by omega)) (sq_rng (.inl rfl) (by omega)) (sq_rng (.inr rfl) (by omega)))
end
def bL:Nat->Int->Rat
 | 1,A=>A
 | 2,A=>A - 1
 | 3,A=>if 0<A then (A:Rat) else A - 1
 | _,A=>A - 1/2
def oL:Nat->Int->Bool
 | 1,_=>false
 | 2,_=>true
 | 3,A=>!decide (0<A)
 | 4,A=>decide (A % 2=1)
 | _,A=>decide (A<=0)
def bU:Nat->Int->Rat
 | 1,B=>B+1
 | 2,B=>B
 | 3,B=>if B<0 then (B:Rat) else B+1
 | _,B=>B+1/2
def oU:Nat->Int->Bool
 | 1,_=>true
 | 2,_=>false
 | 3,B=>!decide (B<0)
 | 4,B=>decide (B % 2=1)
 | _,B=>decide (0<=B)
theorem bL_succ{w:Nat}(hw:1<=w)(B:Int):bL w (B+1)=bU w B/\oL w (B+1)=!oU w B:=by
 have e:((B+1:Int):Rat)=(B:Rat)+1:=by rw [Rat.intCast_add];rfl
 match w,hw with
 | 1,_=>exact⟨e,rfl⟩
 | 2,_=>exact⟨by show ((B+1:Int):Rat) - 1=B;rw [e];grind,rfl⟩
 | 3,_=>
  refine⟨?_,?_⟩
  ·show (if 0<B+1 then ((B+1:Int):Rat) else ((B+1:Int):Rat) - 1)=if B<0 then (B:Rat) else (B:Rat)+1
   rw [e]
   by_cases h:B<0
   ·rw [if_neg (by omega),if_pos h];grind
   ·rw [if_pos (by omega),if_neg h]
  ·show (!decide (0<B+1))=!(!decide (B<0))
   by_cases h:B<0
   ·rw [decide_eq_true h,decide_eq_false (by omega)];rfl
   ·rw [decide_eq_false h,decide_eq_true (by omega)];rfl
 | 4,_=>
  refine⟨?_,?_⟩
  ·show ((B+1:Int):Rat) - 1/2=(B:Rat)+1/2
   rw [e];grind
  ·show decide ((B+1) % 2=1)=!decide (B % 2=1)
   by_cases h:B % 2=1
   ·rw [decide_eq_true h,decide_eq_false (by omega)];rfl
   ·rw [decide_eq_false h,decide_eq_true (by omega)];rfl
 | w+5,_=>
  refine⟨?_,?_⟩
  ·show ((B+1:Int):Rat) - 1/2=(B:Rat)+1/2
   rw [e];grind
  ·show decide (B+1<=0)=!decide (0<=B)
   by_cases h:0<=B
   ·rw [decide_eq_true h,decide_eq_false (by omega)];rfl
   ·rw [decide_eq_false h,decide_eq_true (by omega)];rfl
theorem floor_two(x:Rat):(x.floor:Rat)<=x/\x<(x.floor:Rat)+1:=by
 have h1:=Rat.floor_le x;have h2:=Rat.lt_floor_add_one x;rw [Rat.intCast_add] at h2
 exact⟨h1,h2⟩
theorem ceil_le_iff(x:Rat)(n:Int):x.ceil<=n↔x<=(n:Rat):=by
 rw [Rat.ceil_eq_neg_floor_neg];have h:-n<=(-x).floor↔((-n:Int):Rat)<=-x:=Rat.le_floor_iff;rw [Rat.intCast_neg] at h
 constructor
 ·intro k;have:=h.1 (by omega);grind
 ·intro k;have:=h.2 (by grind);omega
theorem lt_ceil_iff(x:Rat)(n:Int):n<x.ceil↔(n:Rat)<x:=by
 rw [<- Int.not_le,ceil_le_iff];grind
theorem near_iff(x:Rat)(A:Int)(p:Prop)[Decidable p](q:Prop)(h:x=(A:Rat) - 1/2->(p↔q)):
  A<=x.floor+(if (1/2:Rat)<x - x.floor\/x - x.floor=1/2/\p then 1 else 0)↔((A:Rat) - 1/2<x\/x=(A:Rat) - 1/2/\q):=by
 obtain⟨h1,h2⟩:=floor_two x;generalize x.floor=n at *
 rcases Int.lt_trichotomy A (n+1) with c | c | c
 ·have e:(A:Rat)<=n:=Rat.intCast_le_intCast.2 (by omega);refine⟨fun _=>.inl (by grind),fun _=>?_⟩
  split<;>omega
 ·have e:(A:Rat)=(n:Rat)+1:=by rw [c,Rat.intCast_add];rfl
  constructor
  ·intro k
   split at k
   ·rename_i k'
    rcases k' with k' | ⟨k',hp⟩
    ·exact .inl (by grind)
    ·have hx:x=(A:Rat) - 1/2:=by grind
     exact .inr ⟨hx,(h hx).1 hp⟩
   ·omega
  ·rintro (k | ⟨k,hq⟩)
   ·rw [if_pos (.inl (by grind))];omega
   ·rw [if_pos (.inr ⟨by grind,(h k).2 hq⟩)];omega
 ·have e:(n:Rat)+2<=A:=by
   have:=Rat.intCast_le_intCast.2 (show n+2<=A by omega);rw [Rat.intCast_add] at this;exact this
  constructor
  ·intro k
   split at k<;>omega
  ·rintro (k | ⟨k,-⟩)
   ·exfalso;grind
   ·exfalso;grind
theorem le_rK{w:Nat}(hw:1<=w)(A:Int)(x:Rat):A<=rK w x↔(bL w A<x\/x=bL w A/\oL w A=false):=by
 have hf:A<=x.floor↔(A:Rat)<=x:=Rat.le_floor_iff
 have hc:A<=x.ceil↔(A:Rat) - 1<x:=by
  have:=lt_ceil_iff x (A - 1);rw [Rat.intCast_sub] at this
  constructor
  ·intro k;exact this.1 (by omega)
  ·intro k;have:=this.2 k;omega
 match w,hw with
 | 1,_=>
  show A<=x.floor↔((A:Rat)<x\/x=A/\false=false)
  rw [hf];grind
 | 2,_=>
  show A<=x.ceil↔((A:Rat) - 1<x\/x=A - 1/\true=false)
  rw [hc];grind
 | 3,_=>
  show A<=(if x<0 then x.ceil else x.floor)↔((if 0<A then (A:Rat) else A - 1)<x\/x=(if 0<A then (A:Rat) else A - 1)/\(!decide (0<A))=false)
  by_cases h:0<A
  ·have e:(1:Rat)<=A:=Rat.intCast_le_intCast.2 (show (1:Int)<=A by omega);rw [if_pos h,decide_eq_true h]
   by_cases hx:x<0
   ·rw [if_pos hx,hc];grind
   ·rw [if_neg hx,hf];grind
  ·have e:(A:Rat)<=0:=Rat.intCast_le_intCast.2 (show A<=(0:Int) by omega);rw [if_neg h,decide_eq_false h]
   by_cases hx:x<0
   ·rw [if_pos hx,hc];grind
   ·rw [if_neg hx,hf];grind
 | 4,_=>
  show A<=x.floor+(if (1/2:Rat)<x - x.floor\/x - x.floor=1/2/\x.floor % 2=1 then 1 else 0)↔((A:Rat) - 1/2<x\/x=(A:Rat) - 1/2/\decide (A % 2=1)=false)
  refine near_iff x A _ _ fun hx=>?_;obtain⟨h1,h2⟩:=floor_two x
  have e:x.floor=A - 1:=by
   have a1:((x.floor:Int):Rat)<((A:Int):Rat):=by grind
   have a2:((A - 2:Int):Rat)<((x.floor:Int):Rat):=by rw [Rat.intCast_sub];grind
   rw [Rat.intCast_lt_intCast] at a1 a2
   omega
  rw [e,decide_eq_false_iff_not]
  omega
 | w+5,_=>
  show A<=x.floor+(if (1/2:Rat)<x - x.floor\/x - x.floor=1/2/\0<=x then 1 else 0)↔((A:Rat) - 1/2<x\/x=(A:Rat) - 1/2/\decide (A<=0)=false)
  refine near_iff x A _ _ fun hx=>?_;rw [decide_eq_false_iff_not,hx]
  constructor
  ·intro k h;have e:(A:Rat)<=0:=Rat.intCast_le_intCast.2 (show A<=(0:Int) by omega)
   grind
  ·intro h;have e:(1:Rat)<=A:=Rat.intCast_le_intCast.2 (show (1:Int)<=A by omega)
   grind
theorem rK_le{w:Nat}(hw:1<=w)(B:Int)(x:Rat):rK w x<=B↔(x<bU w B\/x=bU w B/\oU w B=false):=by
 have h:=le_rK hw (B+1) x;rw [(bL_succ hw B).1,(bL_succ hw B).2] at h
 have e:rK w x<=B↔¬ (B+1<=rK w x):=by omega
 rw [e,h]
 cases oU w B
 ·constructor
  ·intro k;by_cases c:x<bU w B
   ·exact .inl c
   ·exact .inr ⟨by grind,rfl⟩
  ·rintro (k | ⟨k,-⟩) (k' | ⟨k',e'⟩)
   ·grind
   ·cases e'
   ·grind
   ·cases e'
 ·constructor
  ·intro k;by_cases c:x<bU w B
   ·exact .inl c
   ·exfalso;apply k
    by_cases c':x=bU w B
    ·exact .inr ⟨c',rfl⟩
    ·exact .inl (by grind)
  ·rintro (k | ⟨k,e'⟩) (k' | ⟨k',-⟩)
   ·grind
   ·grind
   ·cases e'
   ·cases e'
def wh(w:Nat)(i:Int):Int:=if -(M:Int)<i/\i<M then rndI 1 (rK w (fl i)) else i
theorem wh_fin{w:Nat}(hw:1<=w){i:Int}(h0:-(M:Int)<i)(h1:i<M):fl (wh w i)=(rK w (fl i):Rat)/\-(M:Int)<wh w i/\wh w i<M:=by
 obtain⟨j,hj,a,b⟩:=whole_fl hw h0 h1;unfold wh;rw [if_pos ⟨h0,h1⟩,<- hj,rndI_fl (.inr rfl) a b]
 exact⟨rfl,a,b⟩
theorem wh_max(w:Nat):wh w M=M:=by unfold wh;rw [if_neg (by omega)]
theorem wh_min(w:Nat):wh w (-(M:Int))=-(M:Int):=by unfold wh;rw [if_neg (by omega)]
theorem wh_rng{w:Nat}(hw:1<=w){i:Int}(h:-(M:Int)<=i/\i<=M):-(M:Int)<=wh w i/\wh w i<=M/\(wh w i=M↔i=M)/\(wh w i=-(M:Int)↔i=-(M:Int)):=by
 have hM:=M_val
 by_cases h0:i=M
 ·rw [h0,wh_max];omega
 ·by_cases h1:i=-(M:Int)
  ·rw [h1,wh_min];omega
  ·have:=wh_fin hw (i:=i) (by omega) (by omega)
   omega
def stp(V F T:Int->Int)(c x:Int × Int):Int × Int:=
 if c.2<c.1\/x.2<x.1 then ((M:Int),-(M:Int))
 else if wh 1 c.2<wh 2 c.1\/wh 1 c.2<V x.1\/V x.2<wh 2 c.1 then ((M:Int),-(M:Int))
 else (max x.1 (F (wh 2 c.1)),min x.2 (T (wh 1 c.2)))
section
open Go.RowKit
attribute [local go_sem] run_store_float run_negf
theorem itself_any(b:Nat)(w:World):Rt 126 #[.float .f64 b] (.float .f64 b) w:=by
 go_enter Tryz.func126,Tryz.ntmps126
 go_wp2
 go_ret
 exact⟨rfl,Below.refl _ _⟩
theorem ahead_any(b:Nat)(w:World):Calls Tryz.prog 129 #[.float .f64 b] w fun e w'=>e=.returned (.func (.func 197) #[] #[.pointer (some ⟨w.heap.size,0,none⟩)])/\w'=w.alloc (.cells #[.float .f64 b] 26):=by
 have hmf:∀ (fn:Fn) (first cap:Array Value) (w:World),(Instr.makeFunc fn first cap).run Tryz.prog w=.ok (.func fn first cap) w:=fun _ _ _ _=>rfl
 go_enter Tryz.func129,Tryz.ntmps129
 go_wp2
 go_ret
 exact⟨rfl,rfl⟩
theorem behind_any(b:Nat)(w:World):Calls Tryz.prog 127 #[.float .f64 b] w fun e w'=>e=.returned (.func (.func 194) #[] #[.pointer (some ⟨w.heap.size,0,none⟩)])/\w'=w.alloc (.cells #[.float .f64 b] 26):=by
 have hmf:∀ (fn:Fn) (first cap:Array Value) (w:World),(Instr.makeFunc fn first cap).run Tryz.prog w=.ok (.func fn first cap) w:=fun _ _ _ _=>rfl
 go_enter Tryz.func127,Tryz.ntmps127
 go_wp2
 go_ret
 exact⟨rfl,rfl⟩
theorem side_any(b:Nat)(w:World):Calls Tryz.prog 122 #[.float .f64 b] w fun e w'=>e=.returned (.func (.func 123) #[] #[.pointer (some ⟨w.heap.size,0,none⟩)])/\w'=w.alloc (.cells #[.float .f64 b] 26):=by
 have hmf:∀ (fn:Fn) (first cap:Array Value) (w:World),(Instr.makeFunc fn first cap).run Tryz.prog w=.ok (.func fn first cap) w:=fun _ _ _ _=>rfl
 go_enter Tryz.func122,Tryz.ntmps122
 go_wp2
 go_ret
 exact⟨rfl,rfl⟩
theorem ahead1(k by_ r B:Nat)(w:World)(hB:w.cell? ⟨B,0,none⟩=some (.float .f64 by_))(hs:∀ W,Rt 84 #[.int .i64 (-1),.float .f64 k,.float .f64 by_] (.float .f64 r) W):
  Rt 197 #[.float .f64 k,.pointer (some ⟨B,0,none⟩)] (.float .f64 r) w:=by
 have HS:=Hd hs;clear hs
 go_enter Tryz.func197,Tryz.ntmps197
 go_wp2_with fail;refine cx (HS.out _) fun wk hb=>?_;have HB:=Hd hb;clear hb hB;go_wp2
 go_ret
 exact⟨rfl,HB.out⟩
theorem behind1(k by_ r B:Nat)(w:World)(hB:w.cell? ⟨B,0,none⟩=some (.float .f64 by_))(hs:∀ W,Rt 139 #[.int .i64 1,.float .f64 k,.float .f64 by_] (.float .f64 r) W):
  Rt 194 #[.float .f64 k,.pointer (some ⟨B,0,none⟩)] (.float .f64 r) w:=by
 have HS:=Hd hs;clear hs
 go_enter Tryz.func194,Tryz.ntmps194
 go_wp2_with fail;refine cx (HS.out _) fun wk hb=>?_;have HB:=Hd hb;clear hb hB;go_wp2
 go_ret
 exact⟨rfl,HB.out⟩
theorem truncfrom_pos(k:Nat)(w:World)(ho:FloatKind.f64.format.order k 0=some .gt):Rt 130 #[.float .f64 k] (.float .f64 k) w:=by
 go_enter Tryz.func130,Tryz.ntmps130
 go_wp2
 go_ret
 exact⟨rfl,Below.refl _ _⟩
theorem truncto_neg(k:Nat)(w:World)(ho:FloatKind.f64.format.order k 0=some .lt):Rt 131 #[.float .f64 k] (.float .f64 k) w:=by
 go_enter Tryz.func131,Tryz.ntmps131
 go_wp2
 go_ret
 exact⟨rfl,Below.refl _ _⟩
theorem truncfrom_neg(k r:Nat)(o:Ordering)(w:World)(ho:FloatKind.f64.format.order k 0=some o)(hoo:o=.lt\/o=.eq)(hs:∀ W,Rt 84 #[.int .i64 (-1),.float .f64 k,.float .f64 4607182418800017408] (.float .f64 r) W):
  Rt 130 #[.float .f64 k] (.float .f64 r) w:=by
 have HA:=Hd (ahead_any 4607182418800017408 w);have HB:=Hd (below_alloc w (.cells #[.float .f64 4607182418800017408] 26));have HC:=Hd fun B W (hB:W.cell? ⟨B,0,none⟩=some (.float .f64 4607182418800017408))=>ahead1 k 4607182418800017408 r B W hB hs;clear hs
 rcases hoo with rfl | rfl
 all_goals
  go_enter Tryz.func130,Tryz.ntmps130
  go_wp2_with fail;refine HA.out.mono ?_;rintro e wk ⟨rfl,rfl⟩;go_wp2_with fail;refine cx (HC.out _ _ (by simp [World.cell?_alloc_new])) fun wk hb=>?_;have HK:=stB HB hb HB.out.size;clear hb ho;go_wp2
  go_ret
  exact⟨rfl,HK.out⟩
theorem truncto_pos(k r:Nat)(o:Ordering)(w:World)(ho:FloatKind.f64.format.order k 0=some o)(hoo:o=.gt\/o=.eq)(hs:∀ W,Rt 139 #[.int .i64 1,.float .f64 k,.float .f64 4607182418800017408] (.float .f64 r) W):
  Rt 131 #[.float .f64 k] (.float .f64 r) w:=by
 have HA:=Hd (behind_any 4607182418800017408 w);have HB:=Hd (below_alloc w (.cells #[.float .f64 4607182418800017408] 26));have HC:=Hd fun B W (hB:W.cell? ⟨B,0,none⟩=some (.float .f64 4607182418800017408))=>behind1 k 4607182418800017408 r B W hB hs;clear hs
 rcases hoo with rfl | rfl
 all_goals
  go_enter Tryz.func131,Tryz.ntmps131
  go_wp2_with fail;refine HA.out.mono ?_;rintro e wk ⟨rfl,rfl⟩;go_wp2_with fail;refine cx (HC.out _ _ (by simp [World.cell?_alloc_new])) fun wk hb=>?_;have HK:=stB HB hb HB.out.size;clear hb ho;go_wp2
  go_ret
  exact⟨rfl,HK.out⟩
theorem sign1(k:Nat)(o:Ordering)(w:World)(ho:FloatKind.f64.format.order k 0=some o):Rt 121 #[.float .f64 k] (.float .f64 (match o with | .gt=>4607182418800017408 | .lt=>13830554455654793216 | .eq=>0)) w:=by
 cases o
 all_goals
  go_enter Tryz.func121,Tryz.ntmps121
  go_wp2
  go_ret
  exact⟨rfl,Below.refl _ _⟩
theorem side1_no(k far B:Nat)(w:World)(hB:w.cell? ⟨B,0,none⟩=some (.float .f64 far))(ho:(FloatKind.f64.format.order k far == some Ordering.eq)=false):
  Rt 123 #[.float .f64 k,.pointer (some ⟨B,0,none⟩)] (.float .f64 0) w:=by
 go_enter Tryz.func123,Tryz.ntmps123
 go_wp2
 go_ret
 exact⟨rfl,Below.refl _ _⟩
theorem conv_one(w:World):(convert 26 3 (.float .f64 4607182418800017408)).run Tryz.prog w=.ok (.int .i64 1) w:=by kernel_rfl
theorem conv_neg(w:World):(convert 26 3 (.float .f64 13830554455654793216)).run Tryz.prog w=.ok (.int .i64 (-1)) w:=by kernel_rfl
theorem side1_up(B:Nat)(w:World)(hB:w.cell? ⟨B,0,none⟩=some (.float .f64 4607182418800017408)):
  Rt 123 #[.float .f64 4607182418800017408,.pointer (some ⟨B,0,none⟩)] (.float .f64 9218868437227405312) w:=by
 have ho:(FloatKind.f64.format.order 4607182418800017408 4607182418800017408 == some Ordering.eq)=true:=by kernel_rfl
 have hc:=conv_one;have HI:=Hd inf_pos
 go_enter Tryz.func123,Tryz.ntmps123
 go_wp2_with fail;refine (HI.out _).mono ?_;rintro e wk ⟨rfl,rfl⟩;clear hB;go_wp2
 go_ret
 exact⟨rfl,Below.refl _ _⟩
theorem side1_down(B:Nat)(w:World)(hB:w.cell? ⟨B,0,none⟩=some (.float .f64 13830554455654793216)):
  Rt 123 #[.float .f64 13830554455654793216,.pointer (some ⟨B,0,none⟩)] (.float .f64 18442240474082181120) w:=by
 have ho:(FloatKind.f64.format.order 13830554455654793216 13830554455654793216 == some Ordering.eq)=true:=by kernel_rfl
 have hc:=conv_neg;have HI:=Hd inf_neg
 go_enter Tryz.func123,Tryz.ntmps123
 go_wp2_with fail;refine (HI.out _).mono ?_;rintro e wk ⟨rfl,rfl⟩;clear hB;go_wp2
 go_ret
 exact⟨rfl,Below.refl _ _⟩
end
end Go.Proofs.YthlmlmfebpjgdaaGreatDoor
