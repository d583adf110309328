/-
Lemmas for the statement: SqT NpowT WholeP WholeT RootT Root2T Sq2T SrT TzT.
-/
import Derived.Test.YthlmlmfebpjgdaaGreatDoorM14
import Derived.Test.YthlmlmfebpjgdaaGreatDoorM10
import Derived.Deep.DeepCutAuto
import Derived.Test.YthlmlmfebpjgdaaGreatDoorM13
import Derived.Test.YthlmlmfebpjgdaaGreatDoorM02
import Derived.Test.YthlmlmfebpjgdaaGreatDoorM04
import Derived.Lib.RabinKarpLaws
import Derived.Test.YthlmlmfebpjgdaaGreatDoorM07
import Derived.Test.YthlmlmfebpjgdaaGreatDoorM12
import Derived.Test.YthlmlmfebpjgdaaGreatDoorM08
import Derived.Test.YthlmlmfebpjgdaaGreatDoorM05
import Derived.Test.YthlmlmfebpjgdaaGreatDoorM01
import Derived.Lib.TrailingZeros
set_option linter.unusedSimpArgs false
set_option linter.unusedVariables false
set_option maxHeartbeats 12800000
set_option maxRecDepth 8000
namespace Go.Proofs.YthlmlmfebpjgdaaGreatDoor
open Go.Proofs.Tryz
open Go.RowKit
section
attribute [local go_sem] run_store_float run_negf
theorem revroot_walk(x n r1 r2:Nat)(w:World)(h1:∀ W,Rt 174 #[.int .i64 (-1),.float .f64 x,.int .i64 (n:Int)] (.float .f64 r1) W)(h2:∀ W,Rt 174 #[.int .i64 1,.float .f64 x,.int .i64 (n:Int)] (.float .f64 r2) W):
  Rt 105 #[.float .f64 x,.int .i64 (n:Int)] (Zf r1 r2) w:=by
 have H1:=Hd h1;have H2:=Hd h2;clear h1 h2;have LL:=li1 w (Zv 0 0) 78
 go_enter func105,ntmps105
 go_wp2_with fail;refine cx (H1.out _) fun wk hb=>?_;replace LL:=stL LL hb;clear hb;go_wp2_with fail;refine cx (H2.out _) fun wk hb=>?_;replace LL:=stL LL hb;clear hb;replace LL:=Hd (LL.out.loose0 rfl);obtain⟨ha4_0,hf4_0,ha4_1,hf4_1⟩:=(LL.out.has 0 rfl).sf2;have LF:=Hd (LL.out.wr [.float .f64 r1,.float .f64 r2]);obtain⟨hk4_0,hk4_1⟩:=(LF.out.blk 0 rfl).c2
 simp [sets] at hk4_0 hk4_1
 clear LL;go_wp2;refine bodyPost_ret (v:=Zf r1 r2) (by simp [results,results105,go_sem,hk4_0,hk4_1]) rfl ?_
 exact⟨rfl,LF.out.b⟩
theorem pown_none(n b1 b2 c1 c2 A1 A2 x1 x2:Nat)(d1 d2:Bool)(w:World)(t1:∀ W,Rt 102 #[Zf b1 b2] (Zf A1 A2) W)(m1:Em d1 A1 A2)(t2:∀ W,Rt 102 #[Zf c1 c2] (Zf x1 x2) W)(m2:Em d2 x1 x2)(hn:1<=n)(hn2:n<=1024)(hnn:(d1 || d2)=true):
  Rt 39 #[.int .i64 (n:Int),Zf b1 b2,Zf c1 c2] (Zf 9218868437227405312 18442240474082181120) w:=by
 have HE:=Hd emptyf
 have n1:¬ (n:Int) < -1024:=by omega
 have n2:¬ (1024:Int)<(n:Int):=by omega
 clear hn hn2;have HRD:=readL32 w (Zv 0 0) 28 t1 m1 t2 m2 hnn;clear t1 m1 t2 m2 hnn
 go_enter func39,ntmps39
 go_wp2_with fail;refine HRD.out.mono ?_;rintro e wk ⟨rfl,hl⟩;have LL:=Hd hl;clear hl HRD;go_wp2_with fail;refine cx (HE.out _) fun wk hb=>?_;replace LL:=stL LL hb;clear hb;replace LL:=Hd (LL.out.loose2 rfl);obtain⟨ha6_0,hf6_0,ha6_1,hf6_1⟩:=(LL.out.has 0 rfl).sf2;have LF:=Hd (LL.out.wr [.float .f64 9218868437227405312,.float .f64 18442240474082181120]);obtain⟨hk6_0,hk6_1⟩:=(LF.out.blk 2 rfl).c2
 simp [sets] at hk6_0 hk6_1
 clear LL;go_wp2;refine bodyPost_ret (v:=Zf 9218868437227405312 18442240474082181120) (by simp [results,results39,go_sem,hk6_0,hk6_1]) rfl ?_
 exact⟨rfl,LF.out.b⟩
theorem pown_neg(n b1 b2 c1 c2 A1 A2 x1 x2:Nat)(d1 d2:Bool)(w:World)(t1:∀ W,Rt 102 #[Zf b1 b2] (Zf A1 A2) W)(m1:Em d1 A1 A2)(t2:∀ W,Rt 102 #[Zf c1 c2] (Zf x1 x2) W)(m2:Em d2 x1 x2)(hn:1<=n)(hn2:n<=1024)(hp:n % 2=0)(hnn:(d1 || d2)=false)(ho:FloatKind.f64.format.order A2 0=some .lt):
  Rt 39 #[.int .i64 (n:Int),Zf b1 b2,Zf c1 c2] (Zf 9218868437227405312 18442240474082181120) w:=by
 have HE:=Hd emptyf
 have n1:¬ (n:Int) < -1024:=by omega
 have n2:¬ (1024:Int)<(n:Int):=by omega
 have n3:((n:Int) == 0)=false:=by simp;omega
 have n4:¬ (n:Int)<0:=by omega
 have n5:(n:Int) % 2=0:=by omega
 clear hn hn2 hp;have HRD:=readL32 w (Zv 0 0) 28 t1 m1 t2 m2 hnn;clear t1 m1 t2 m2 hnn
 go_enter func39,ntmps39
 go_wp2_with fail;refine HRD.out.mono ?_;rintro e wk ⟨rfl,hl⟩;have LL:=Hd hl;clear hl HRD;obtain⟨q1_0,q1_1⟩:=(LL.out.blk 0 rfl).c2;go_wp2_with fail;refine cx (HE.out _) fun wk hb=>?_;replace LL:=stL LL hb;clear hb q1_0 q1_1 ho;replace LL:=Hd (LL.out.loose2 rfl);obtain⟨ha6_0,hf6_0,ha6_1,hf6_1⟩:=(LL.out.has 0 rfl).sf2;have LF:=Hd (LL.out.wr [.float .f64 9218868437227405312,.float .f64 18442240474082181120]);obtain⟨hk6_0,hk6_1⟩:=(LF.out.blk 2 rfl).c2
 simp [sets] at hk6_0 hk6_1
 clear LL;go_wp2;refine bodyPost_ret (v:=Zf 9218868437227405312 18442240474082181120) (by simp [results,results39,go_sem,hk6_0,hk6_1]) rfl ?_
 exact⟨rfl,LF.out.b⟩
theorem pown_even(n b1 b2 c1 c2 A1 A2 x1 x2 mx p1 p2 q1 q2 r1 r2:Nat)(o:Ordering)(d1 d2:Bool)(w:World)(t1:∀ W,Rt 102 #[Zf b1 b2] (Zf A1 A2) W)(m1:Em d1 A1 A2)(t2:∀ W,Rt 102 #[Zf c1 c2] (Zf x1 x2) W)(m2:Em d2 x1 x2)(hn:1<=n)(hn2:n<=1024)(hp:n % 2=0)(hnn:(d1 || d2)=false)(ho:FloatKind.f64.format.order A2 0=some o)(hoo:o=.eq\/o=.gt)
  (hmx:∀ W ts t,(Builtin.max_ ts t (Zv A1 0)).run prog W=.ok (.float .f64 mx) W)(h1:∀ W,Rt 105 #[.float .f64 mx,.int .i64 (n:Int)] (Zf p1 p2) W)(h2:∀ W,Rt 105 #[.float .f64 A2,.int .i64 (n:Int)] (Zf q1 q2) W)(ht:∀ W,Rt 104 #[Zf x1 x2,Zf p1 p2,Zf q1 q2,.bool false] (Zf r1 r2) W):
  Rt 39 #[.int .i64 (n:Int),Zf b1 b2,Zf c1 c2] (Zf r1 r2) w:=by
 have n1:¬ (n:Int) < -1024:=by omega
 have n2:¬ (1024:Int)<(n:Int):=by omega
 have n3:((n:Int) == 0)=false:=by simp;omega
 have n4:¬ (n:Int)<0:=by omega
 have n5:(n:Int) % 2=0:=by omega
 clear hn hn2 hp;have H1:=Hd h1;have H2:=Hd h2;have HT:=Hd ht;clear h1 h2 ht
 rcases hoo with rfl | rfl
 all_goals
  have HRD:=readL32 w (Zv 0 0) 28 t1 m1 t2 m2 hnn;clear t1 m1 t2 m2 hnn
  go_enter func39,ntmps39
  go_wp2_with fail;refine HRD.out.mono ?_;rintro e wk ⟨rfl,hl⟩;have LL:=Hd hl;clear hl HRD;obtain⟨q1_0,q1_1⟩:=(LL.out.blk 0 rfl).c2
  go_upto_region 12 with fail
  clear ho q1_0 q1_1;replace LL:=Hd (LL.out.loose2 rfl);refine regL LL (fun hHeld=>?_);clear LL;generalize World.drew _=wk at hHeld  ⊢;refine tkb 0 (fun _ h=>(h.blk 1 rfl).c2) ?_;refine tks 1 ?_;refine tkb 2 (fun _ h=>(h.blk 0 rfl).c2) ?_;refine tks 4 ?_;refine tks 6 ?_;refine tkb 7 (fun _ h=>(h.blk 0 rfl).c2) ?_;refine tks 8 ?_;refine rdy 3 fun KK hKK=>?_;go_simp;refine hKK.out _ _ hHeld (fun _=>?_);clear hKK KK hHeld;rename_i hHeld;(try simp only [Act.put,lay]);refine rcs 5 (H1.out _) ?_;clear hHeld;intro wk hb1 hHeld;clear hb1;refine rcs 9 (H2.out _) ?_;clear hHeld;intro wk hb2 hHeld;clear hb2;refine rcs 10 (HT.out _) ?_;clear hHeld;intro wk hb3 hHeld;clear hb3;refine rdy 11 fun KK hKK=>?_;obtain⟨ha0,hf0,ha1,hf1⟩:=(hHeld.has 0 rfl).sf2;go_simp;have HS_0:=(hHeld.has 0 rfl).laid [.float .f64 r1,.float .f64 r2] rfl;refine hKK.out _ _ (hHeld.over 0 rfl [.float .f64 r1,.float .f64 r2] rfl rfl (by first | omega | exact hHeld.le_of 0 rfl) (by simp<;>omega) (by simp<;>omega)) (fun _=>?_);clear hKK KK hHeld;rename_i hHeld;(try simp only [Act.put,lay]);refine wpAnyH_done (by kernel_rfl) ?_ _;have LB:=Hd hHeld.b;clear hHeld;obtain⟨hk6_0,hk6_1⟩:=HS_0.c2;clear HS_0
  simp [sets] at hk6_0 hk6_1
  go_wp2;refine bodyPost_ret (v:=Zf r1 r2) (by simp [results,results39,go_sem,hk6_0,hk6_1]) rfl ?_
  exact⟨rfl,LB.out⟩
theorem pown_odd(n b1 b2 c1 c2 A1 A2 x1 x2 p1 p2 q1 q2 r1 r2:Nat)(d1 d2:Bool)(w:World)(t1:∀ W,Rt 102 #[Zf b1 b2] (Zf A1 A2) W)(m1:Em d1 A1 A2)(t2:∀ W,Rt 102 #[Zf c1 c2] (Zf x1 x2) W)(m2:Em d2 x1 x2)(hn:1<=n)(hn2:n<=1024)(hp:n % 2=1)(hnn:(d1 || d2)=false)
  (h1:∀ W,Rt 105 #[.float .f64 A1,.int .i64 (n:Int)] (Zf p1 p2) W)(h2:∀ W,Rt 105 #[.float .f64 A2,.int .i64 (n:Int)] (Zf q1 q2) W)(ht:∀ W,Rt 77 #[Zf x1 x2,Zf p1 p2,Zf q1 q2,.bool false] (Zf r1 r2) W):
  Rt 39 #[.int .i64 (n:Int),Zf b1 b2,Zf c1 c2] (Zf r1 r2) w:=by
 have n1:¬ (n:Int) < -1024:=by omega
 have n2:¬ (1024:Int)<(n:Int):=by omega
 have n3:((n:Int) == 0)=false:=by simp;omega
 have n4:¬ (n:Int)<0:=by omega
 have n5:(n:Int) % 2=1:=by omega
 clear hn hn2 hp;have H1:=Hd h1;have H2:=Hd h2;have HT:=Hd ht;clear h1 h2 ht;have HRD:=readL32 w (Zv 0 0) 28 t1 m1 t2 m2 hnn;clear t1 m1 t2 m2 hnn
 go_enter func39,ntmps39
 go_wp2_with fail;refine HRD.out.mono ?_;rintro e wk ⟨rfl,hl⟩;have LL:=Hd hl;clear hl HRD
 go_upto_region 13 with fail
 replace LL:=Hd (LL.out.loose2 rfl);refine regL LL (fun hHeld=>?_);clear LL;generalize World.drew _=wk at hHeld  ⊢;refine tkb 0 (fun _ h=>(h.blk 1 rfl).c2) ?_;refine tks 1 ?_;refine tkb 2 (fun _ h=>(h.blk 0 rfl).c2) ?_;refine tks 3 ?_;refine tks 5 ?_;refine tkb 6 (fun _ h=>(h.blk 0 rfl).c2) ?_;refine tks 7 ?_;refine rcs 4 (H1.out _) ?_;clear hHeld;intro wk hb1 hHeld;clear hb1;refine rcs 8 (H2.out _) ?_;clear hHeld;intro wk hb2 hHeld;clear hb2;refine rcs 9 (HT.out _) ?_;clear hHeld;intro wk hb3 hHeld;clear hb3;refine rdy 10 fun KK hKK=>?_;obtain⟨ha0,hf0,ha1,hf1⟩:=(hHeld.has 0 rfl).sf2;go_simp;have HS_0:=(hHeld.has 0 rfl).laid [.float .f64 r1,.float .f64 r2] rfl;refine hKK.out _ _ (hHeld.over 0 rfl [.float .f64 r1,.float .f64 r2] rfl rfl (by first | omega | exact hHeld.le_of 0 rfl) (by simp<;>omega) (by simp<;>omega)) (fun _=>?_);clear hKK KK hHeld;rename_i hHeld;(try simp only [Act.put,lay]);refine wpAnyH_done (by kernel_rfl) ?_ _;have LB:=Hd hHeld.b;clear hHeld;obtain⟨hk6_0,hk6_1⟩:=HS_0.c2;clear HS_0
 simp [sets] at hk6_0 hk6_1
 go_wp2;refine bodyPost_ret (v:=Zf r1 r2) (by simp [results,results39,go_sem,hk6_0,hk6_1]) rfl ?_
 exact⟨rfl,LB.out⟩
theorem sqr_walk(b1 b2 c1 c2 r1 r2:Nat)(w:World)(h:∀ W,Rt 39 #[.int .i64 2,Zf b1 b2,Zf c1 c2] (Zf r1 r2) W):
  Rt 14 #[Zf b1 b2,Zf c1 c2] (Zf r1 r2) w:=by
 have H:=Hd h;clear h;have LL:=li3 w (Zv b1 b2) 28 (Zv c1 c2) 28 (Zv 0 0) 28
 go_enter func14,ntmps14
 obtain⟨q1_0,q1_1⟩:=(LL.out.blk 0 rfl).c2;obtain⟨q2_0,q2_1⟩:=(LL.out.blk 1 rfl).c2;go_wp2_with fail;refine cx (H.out _) fun wk hb=>?_;replace LL:=stL LL hb;clear hb q1_0 q1_1 q2_0 q2_1;replace LL:=Hd (LL.out.loose2 rfl);obtain⟨ha4_0,hf4_0,ha4_1,hf4_1⟩:=(LL.out.has 0 rfl).sf2;have LF:=Hd (LL.out.wr [.float .f64 r1,.float .f64 r2]);obtain⟨hk4_0,hk4_1⟩:=(LF.out.blk 2 rfl).c2
 simp [sets] at hk4_0 hk4_1
 clear LL;go_wp2;refine bodyPost_ret (v:=Zf r1 r2) (by simp [results,results14,go_sem,hk4_0,hk4_1]) rfl ?_
 exact⟨rfl,LF.out.b⟩
end
theorem npow_any(A:Option Addr)(n c N:Nat)(xs:List Nat)(w:World)(hx:U32s w A n c xs)(hl:wlen xs<=16384)(hN:N<=4096)(hb:blen (num xs)*N<=500000):
  Calls prog 251 #[.slice A n c,.int .i64 (N:Int)] w (NewU32E w (digs (num xs ^ N))):=by
 obtain⟨w1,hw1⟩:∃ w1,w.alloc (.cells #[.slice A n c] 40)=w1:=⟨_,rfl⟩
 have hb1:Below w.heap.size w w1:=by rw [<- hw1];exact below_alloc w _
 have hx1:=hx.below hb1;have hlg:=long_one w.heap.size A n c xs w1 hx1 (by rw [<- hw1];simp [World.cell?_alloc_new]) hl;have hnn:=Nat.le_trans (digs_length_le (num_lt_wlen hx.w32)) hl;have hn0:=nnorm_any A n c xs w1 hx1;have hln:=fun W (hb:Below w1.heap.size w1 W)=>nlen_any A n c xs W (hx1.below hb)
 obtain⟨X,hX⟩:∃ X,num xs=X:=⟨_,rfl⟩
 rw [hX] at hb hnn hn0 hln ⊢
 obtain⟨K,hK⟩:∃ K,blen X=K:=⟨_,rfl⟩
 rw [hK] at hb hln
 have hXK:X<2^K:=by rw [<- hK];exact blen_le_iff.1 (Nat.le_refl _)
 have HLG:=Hd hlg;have HN:=Hd hn0;have HL:=Hd hln;have HB1:=Hd hb1;have HW1:=Hd hw1;have HK:=Hd hK;have HXK:=Hd hXK;have HNN:=Hd hnn;have HBB:=Hd hb;have HM:=Hd fun (W:World) (Ap Ax:Option Addr) (np cp nx cx P X:Nat) (h1:U32s W Ap np cp (digs P)) (h2:U32s W Ax nx cx (digs X)) (h3:np<=16384) (h4:nx<=16384)=>nmul_in Ap Ax np cp nx cx (digs P) (digs X) W h1 h2 (by omega) (by omega);have HC:=Hd fun (W:World) (D:Option Addr) (n c:Nat) (ls:List Nat) (h:U32s W D n c ls)=>cut_any D n c ls W h;have hAND:=fun (j:Nat) (hj:j<=4096)=>and_one j (by omega);have HAND:=Hd hAND;clear hx hx1 hlg hnn hn0 hln hX hK hXK hb hl hb1 hw1 hAND
 go_enter func251,ntmps251
 go_wp2_with fail;rw [HW1.out];refine HLG.out.mono ?_;rintro e w' ⟨rfl,rfl⟩;go_wp2_with fail;refine HN.out.mono ?_;rintro e w2 ⟨g,nn,rfl,hl2,ha,hg,hb2⟩;have hnn:=HNN.out;have HU:=Hd (ha.u32s' (W32.digs _) hl2 (by omega));have HNB:=Hd (show nn<=16384 by omega);have HB2:=Hd hb2;clear hl2 ha hg hb2 hnn HNN HN HLG;go_wp2_with fail;refine cy (HL.out _ HB2.out) ?_;have HB3:=Hd (HB1.out.trans (HB2.out.mono HB1.out.size));clear HL HB1 HB2 HW1
 rcases Nat.eq_zero_or_pos N with h0 | h0
 ·subst h0;go_wp2
  go_ret2
  exact⟨_,1,1,rfl,by rw [Nat.pow_zero,digs_one];exact U32s.lit1 w2 117 (a:=1) (by omega),HB3.out.alloc HB3.out.size _⟩
 have hz:((N:Int) == 0)=false:=by simp;omega
 by_cases hK2:K<2
 ·have hk2:(K:Int)<2:=by omega
  have hXN:X ^ N=X:=by
   have h:=HXK.out;have h2:(2:Nat) ^ K<=2 ^ 1:=Nat.pow_le_pow_right (by omega) (by omega)
   rcases (show X=0\/X=1 by omega) with h | h
   ·rw [h,Nat.zero_pow h0]
   ·rw [h,Nat.one_pow]
  have HXI:=Hd hXN;clear hXN hK2;go_wp2
  go_ret2
  exact⟨_,nn,nn,rfl,by rw [HXI.out];exact HU.out,HB3.out⟩
 have hk2:¬ (K:Int)<2:=by omega
 have hX0:0<X:=by
  rcases Nat.eq_zero_or_pos X with h | h
  ·have:=HK.out;rw [h,blen_zero] at this;omega
  ·exact h
 have HX0:=Hd hX0
 have hq:N<=524288 / (K - 1):=by
  rw [Nat.le_div_iff_mul_le (by omega)];have:=HBB.out
  obtain⟨K1,rfl⟩:∃ K1,K=K1+1:=⟨K - 1,by omega⟩
  rw [Nat.mul_comm,Nat.add_sub_cancel];rw [Nat.add_mul,Nat.one_mul] at this
  omega
 obtain⟨K1,hK1⟩:∃ K1,K - 1=K1:=⟨_,rfl⟩
 rw [hK1] at hq
 obtain⟨Q,hQ⟩:∃ Q,524288 / K1=Q:=⟨_,rfl⟩
 rw [hQ] at hq
 have hKL:K<=524288:=by
  have:=HBB.out;have:=Nat.mul_le_mul_left K h0
  omega
 have hk3:wrap64 ((K:Int) - 1)=(K1:Int):=by unfold wrap64;omega
 have hk4:¬ (K1:Int)=0:=by omega
 have hq1:(524288:Int) / (K1:Int)=(Q:Int):=by rw [<- hQ];rfl
 have hq2:(524288:Int).tdiv (K1:Int)=(Q:Int):=by rw [Int.tdiv_eq_ediv_of_nonneg (by omega)];exact hq1
 have hq5:(524288:Int) / ((K:Int) - 1)=(Q:Int):=by rw [show ((K:Int) - 1)=(K1:Int) from by omega];exact hq1
 have hq3:¬ ((Q:Int)<(N:Int)):=by omega
 have hQ2:Q<=524288:=by rw [<- hQ];exact Nat.div_le_self _ _
 have hq4:wrap64 (Q:Int)=(Q:Int):=by unfold wrap64;omega
 clear hK1 hQ hq hQ2
 obtain⟨S,hS⟩:∃ S:Nat,S=15626:=⟨_,rfl⟩
 have HXN:=Hd (show X ^ N<2 ^ (32*S) from by
  calc X ^ N<=(2 ^ K) ^ N:=Nat.pow_le_pow_left (Nat.le_of_lt HXK.out) N
   _=2 ^ (K*N):=by rw [Nat.pow_mul]
   _<2 ^ (32*S):=Nat.pow_lt_pow_right (by omega) (by have:=HBB.out;omega))
 have HS:=Hd hS;clear hX0 hK2 hS HBB HXK HK;go_wp2
 simp only [show decide (Q<N)=false from decide_eq_false (by omega)]
 go_loopw [1,6,8] (fun jv xv pv wr=>∃ (j P Y:Nat) (Ap Ax:Option Addr) (np nx cp cx:Nat),jv=.int .i64 j/\xv=.slice Ax nx cx/\pv=.slice Ap np cp/\(1<=j/\j<=N)/\PowInv X N P Y j /\
  U32s wr Ap np cp (digs P)/\U32s wr Ax nx cx (digs Y)/\(np<=16384/\nx<=16384)/\Below w.heap.size w wr) (fun jv _ _ _=>(intOf jv).toNat)
 case atStart=>exact⟨N,1,X,some ⟨w2.heap.size,0,none⟩,some ⟨g,0,none⟩,1,nn,1,nn,rfl,rfl,rfl,⟨h0,Nat.le_refl _⟩,by unfold PowInv;rw [Nat.one_mul],by rw [digs_one];exact U32s.lit1 w2 117 (a:=1) (by omega),HU.out.alloc _,⟨by omega,HNB.out⟩,HB3.out.alloc HB3.out.size _⟩
 case round=>
  obtain⟨j,P,Y,Ap,Ax,np,nx,cp,cx,rfl,rfl,rfl,hj,hinv,hp,hx,⟨hnp,hnx⟩,hb⟩:=hrel;have HI:=Hd hinv;have HP:=Hd hp;have HX:=Hd hx;have HBB:=Hd hb;clear hinv hp hx hb HU HB3 HNB hk2 hk3 hk4 hq1 hq2 hq3 hq4 hq5 hKL
  by_cases hodd:j % 2=1
  ·have ga:bits .and .i64 (j:Int) 1=1:=by rw [HAND.out j (by omega),hodd];rfl
   have HT:=Hd (HM.out _ Ap Ax np cp nx cx P Y HP.out HX.out hnp hnx);go_wp2_with fail;refine HT.out.mono ?_;rintro e w4 ⟨D4,n4,c4,ls4,rfl,hu4,hv4,hn4,hb4⟩;rw [num_digs,num_digs] at hv4;have HC4:=Hd (HC.out _ D4 n4 c4 ls4 hu4);have hp4:=hu4.cutd;rw [hv4] at hp4;have HP4:=Hd hp4;have HX4:=Hd (HX.out.below hb4);have HB4:=Hd (HBB.out.trans (hb4.mono HBB.out.size))
   have hl4:wlen ls4<=16384:=by
    have h:=digs_length_le (Nat.lt_of_le_of_lt (HI.out.le_px HX0.out (show 0<j by omega)) HXN.out);rw [hp4.len] at h;have:=HS.out;omega
   have HL4:=Hd hl4;clear hu4 hv4 hn4 hb4 hp4 HT HP HX HBB hl4;go_wp2_with fail;refine HC4.out.mono ?_;rintro e w' ⟨rfl,rfl⟩;clear HC4
   obtain⟨k4,hk4⟩:∃ k,wlen ls4=k:=⟨_,rfl⟩
   rw [hk4] at HP4 HL4 ⊢;clear hk4;have hk4:=HL4.out
   have HJ2:=Hd (show (j<2->P*Y=X ^ N)/\PowInv X N (P*Y) (Y*Y) (j / 2) from⟨fun h=>by
    have h2:=HI.out.odd hodd;rw [show j / 2=0 by omega] at h2
    exact h2.done,HI.out.odd hodd⟩)
   clear ga hodd
   by_cases hj1:j<2
   ·have gz:(j:Int) / 2=0:=by omega
    have e:P*Y=X ^ N:=HJ2.out.1 hj1;rw [e] at HP4;clear HM HC HAND hj1 e HJ2;go_wp2
    go_ret2
    exact⟨D4,k4,k4,rfl,HP4.out,HB4.out⟩
   ·have gz:¬ (j:Int) / 2=0:=by omega
    have HT2:=Hd (HM.out _ Ax Ax nx cx nx cx Y Y HX4.out HX4.out hnx hnx);go_wp2_with fail;refine HT2.out.mono ?_;rintro e w5 ⟨D5,n5,c5,ls5,rfl,hu5,hv5,hn5,hb5⟩
    simp only [num_digs] at hv5
    have HC5:=Hd (HC.out _ D5 n5 c5 ls5 hu5);have hx5:=hu5.cutd;rw [hv5] at hx5;have HX5:=Hd hx5;have HP5:=Hd (HP4.out.below hb5);have HB5:=Hd (HB4.out.trans (hb5.mono HB4.out.size))
    have HL5:=Hd (show wlen ls5<=16384 from by
     have h:=digs_length_le (Nat.lt_of_le_of_lt (HI.out.le_xx HX0.out (show 2<=j by omega)) HXN.out);rw [hx5.len] at h
     have:=HS.out;omega)
    clear hu5 hv5 hn5 hb5 hx5 HT2 HP4 HX4 HB4;go_wp2_with fail;refine HC5.out.mono ?_;rintro e w' ⟨rfl,rfl⟩;clear HC5
    obtain⟨k5,hk5⟩:∃ k,wlen ls5=k:=⟨_,rfl⟩
    rw [hk5] at HX5 HL5 ⊢;go_wp2
    go_roundw
    case rel=>exact⟨j / 2,_,_,D4,D5,k4,k5,_,_,by go_num,rfl,rfl,by omega,HJ2.out.2,HP5.out,HX5.out,⟨by omega,HL5.out⟩,HB5.out⟩
    case measure=>simp [intOf];omega
  ·have ga:bits .and .i64 (j:Int) 1=0:=by rw [HAND.out j (by omega),show j % 2=0 by omega];rfl
   have HJ2:=Hd (show (j<2->P=X ^ N)/\PowInv X N P (Y*Y) (j / 2) from⟨fun h=>by omega,HI.out.even (by omega)⟩);clear hodd
   by_cases hj1:j<2
   ·have gz:(j:Int) / 2=0:=by omega
    have e:P=X ^ N:=HJ2.out.1 hj1;rw [e] at HP;clear HM HC HAND hj1 e HJ2;go_wp2
    go_ret2
    exact⟨Ap,np,cp,rfl,HP.out,HBB.out⟩
   ·have gz:¬ (j:Int) / 2=0:=by omega
    have HT2:=Hd (HM.out _ Ax Ax nx cx nx cx Y Y HX.out HX.out hnx hnx);go_wp2_with fail;refine HT2.out.mono ?_;rintro e w5 ⟨D5,n5,c5,ls5,rfl,hu5,hv5,hn5,hb5⟩
    simp only [num_digs] at hv5
    have HC5:=Hd (HC.out _ D5 n5 c5 ls5 hu5);have hx5:=hu5.cutd;rw [hv5] at hx5;have HX5:=Hd hx5;have HP5:=Hd (HP.out.below hb5);have HB5:=Hd (HBB.out.trans (hb5.mono HBB.out.size))
    have HL5:=Hd (show wlen ls5<=16384 from by
     have h:=digs_length_le (Nat.lt_of_le_of_lt (HI.out.le_xx HX0.out (show 2<=j by omega)) HXN.out);rw [hx5.len] at h
     have:=HS.out;omega)
    clear hu5 hv5 hn5 hb5 hx5 HT2 HP HX HBB;go_wp2_with fail;refine HC5.out.mono ?_;rintro e w' ⟨rfl,rfl⟩;clear HC5
    obtain⟨k5,hk5⟩:∃ k,wlen ls5=k:=⟨_,rfl⟩
    rw [hk5] at HX5 HL5 ⊢;go_wp2
    go_roundw
    case rel=>exact⟨j / 2,_,_,Ap,D5,np,k5,_,_,by go_num,rfl,rfl,by omega,HJ2.out.2,HP5.out,HX5.out,⟨by omega,HL5.out⟩,HB5.out⟩
    case measure=>simp [intOf];omega
section
theorem U32s.uniq{w:World}{A:Option Addr}{n c c':Nat}{xs ys:List Nat}(h:U32s w A n c xs)(h':U32s w A n c' ys):xs=ys:=by
 apply List.ext_getElem?
 intro j
 by_cases hj:j<n
 ·obtain⟨ad,e,-,hc⟩:=h.at_ (by omega);obtain⟨ad',e',-,hc'⟩:=h'.at_ (by omega);rw [e] at e';cases e';have h3:=(hc j hj).symm.trans (hc' j hj)
  have l1:j<xs.length:=by rw [h.len];exact hj
  have l2:j<ys.length:=by rw [h'.len];exact hj
  rw [List.getElem?_eq_getElem l1,List.getElem?_eq_getElem l2] at h3 ⊢
  simp only [Option.getD_some,Option.some.injEq,Value.int.injEq,true_and] at h3
  rw [show xs[j]=ys[j] from by omega]
 ·rw [List.getElem?_eq_none (by rw [h.len];omega),List.getElem?_eq_none (by rw [h'.len];omega)]
open Classical in
noncomputable def xval(w:World)(v:Value):Nat:=if h:∃ x A n c,v=.slice A n c/\U32s w A n c (digs x) then h.choose else 0
theorem xval_eq{w:World}{A:Option Addr}{n c x:Nat}(h:U32s w A n c (digs x)):xval w (.slice A n c)=x:=by
 unfold xval
 have k:∃ y A' n' c',(.slice A n c:Value)=.slice A' n' c'/\U32s w A' n' c' (digs y):=⟨x,A,n,c,rfl,h⟩
 rw [dif_pos k];obtain⟨A',n',c',e,h'⟩:=k.choose_spec
 cases e
 have e2:=congrArg num (h.uniq h');rw [num_digs,num_digs] at e2
 exact e2.symm
section
variable {A B:Option Addr} {n c m d x y:Nat} {w:World}
theorem wl{x:Nat}(h:blen x<=500000):wlen (digs x)<=15625:=wlen_digs_le (by omega)
theorem pow_d(N:Nat)(hx:U32s w A n c (digs x))(h1:blen x<=500000)(hN:N<=4096)(hb:blen x*N<=500000):
  Calls prog 251 #[.slice A n c,.int .i64 (N:Int)] w (NewU32E w (digs (x ^ N))):=by
 have h:=npow_any A n c N _ w hx (by have:=wl h1;omega) hN (by rw [num_digs];exact hb)
 rwa [num_digs] at h
theorem quo_d(hx:U32s w A n c (digs x))(hy:U32s w B m d (digs y))(h1:blen x<=500000)(h2:blen y<=500000)(h0:0<y):
  Calls prog 240 #[.slice A n c,.slice B m d] w (NewQR w (x / y) (x % y)):=by
 have h:=nquo_any A B n c m d _ _ w hx hy (by have:=wl h1;omega) (by have:=wl h2;omega) (by rw [num_digs];exact h0)
 rwa [num_digs,num_digs] at h
theorem mul_d(hx:U32s w A n c (digs x))(hy:U32s w B m d (digs y))(h1:blen x<=250000)(h2:blen y<=250000):
  Calls prog 229 #[.slice A n c,.slice B m d] w (NewU32E w (digs (x*y))):=by
 have w1:=wlen_digs_le (S:=x) (K:=7813) (by omega);have w2:=wlen_digs_le (S:=y) (K:=7813) (by omega);have h:=nmul_any A B n c m d _ _ w hx hy (by omega) (by rw [num_digs,num_digs];omega)
 rwa [num_digs,num_digs] at h
theorem add_d(hx:U32s w A n c (digs x))(hy:U32s w B m d (digs y))(h1:blen x<=500000)(h2:blen y<=500000):
  Calls prog 159 #[.slice A n c,.slice B m d] w (NewU32E w (digs (x+y))):=by
 have h:=nadd_any A B n c m d _ _ w hx hy (by have:=wl h1;omega) (by have:=wl h2;omega)
 rwa [num_digs,num_digs] at h
theorem shl_d(k:Nat)(hx:U32s w A n c (digs x))(h1:blen x+k<=500000):
  Calls prog 202 #[.slice A n c,.int .i64 (k:Int)] w (NewU32E w (digs (x*2 ^ k))):=by
 have h:=nshl_any A n c k _ w hx (by have:=wl (x:=x) (by omega);omega) (by rw [num_digs];omega)
 rwa [num_digs] at h
theorem shr_d(k:Nat)(hx:U32s w A n c (digs x))(h1:blen x<=500000)(hk:k<=500000):
  Calls prog 254 #[.slice A n c,.int .i64 (k:Int)] w fun e w'=>
   ∃ A2 n2 c2,e=.returned (.tuple #[.slice A2 n2 c2,.bool (decide (x % 2^k≠0)),.int .i64 0])/\U32s w' A2 n2 c2 (digs (x / 2^k))/\Below w.heap.size w w':=by
 have h:=nshr_any A n c k _ w hx (by have:=wl h1;omega) (by omega)
 rwa [num_digs] at h
theorem len_d(hx:U32s w A n c (digs x)):Calls prog 232 #[.slice A n c] w fun e w'=>e=.returned (.int .i64 (blen x:Int))/\w=w':=by
 have h:=nlen_any A n c _ w hx
 rwa [num_digs] at h
theorem cmp_d(hx:U32s w A n c (digs x))(hy:U32s w B m d (digs y)):Calls prog 142 #[.slice A n c,.slice B m d] w (QuietRet w (.int .i64 (cmp3 x y))):=by
 have h:=ncmp_any A B n c m d _ _ w hx hy
 rwa [num_digs,num_digs] at h
end
theorem blen_pow(x N:Nat):blen (x ^ N)<=blen x*N+1:=by
 have h:x<2 ^ blen x:=blen_le_iff.1 (Nat.le_refl _);refine blen_le_iff.2 (Nat.lt_of_le_of_lt (Nat.pow_le_pow_left (Nat.le_of_lt h) N) ?_);rw [<- Nat.pow_mul]
 exact Nat.pow_lt_pow_right (by omega) (by omega)
theorem blen_mul(x y:Nat):blen (x*y)<=blen x+blen y:=by
 have h:x<2 ^ blen x:=blen_le_iff.1 (Nat.le_refl _);have h2:y<2 ^ blen y:=blen_le_iff.1 (Nat.le_refl _);refine blen_le_iff.2 ?_;rw [Nat.pow_add]
 exact Nat.mul_lt_mul'' h h2
theorem blen_add(x y k:Nat)(h1:blen x<=k)(h2:blen y<=k):blen (x+y)<=k+1:=by
 have h:=blen_le_iff.1 h1;have h3:=blen_le_iff.1 h2
 exact blen_le_iff.2 (by rw [Nat.pow_succ];omega)
end
theorem digs_32:digs 32=[32]:=by rw [digs_pos (by omega)];simp [digs_zero]
theorem whole_start{a n h r r':Nat}(hn:0<n)(hr:IsR a n r)(hr':IsR (a / 2 ^ (h*n)) n r'):r<=(r'+1)*2 ^ h/\blen (r'+1)<=(blen a - h*n) / n+2:=by
 refine⟨root_shift hr hr',?_⟩;have h1:=hr'.1;have h2:a<2 ^ blen a:=blen_le_iff.1 (Nat.le_refl _)
 have h3:a / 2 ^ (h*n)<2 ^ (blen a - h*n):=by
  rw [Nat.div_lt_iff_lt_mul (Nat.two_pow_pos _),<- Nat.pow_add]
  exact Nat.lt_of_lt_of_le h2 (Nat.pow_le_pow_right (by omega) (by omega))
 obtain⟨t,ht⟩:∃ t,blen a - h*n=t:=⟨_,rfl⟩
 rw [ht] at h3 ⊢
 have h4:r'<2 ^ (t / n+1):=by
  rcases Nat.lt_or_ge r' (2 ^ (t / n+1)) with k | k
  ·exact k
  ·exfalso
   have h5:=Nat.pow_le_pow_left k n;rw [<- Nat.pow_mul] at h5
   have h6:t<=(t / n+1)*n:=by
    have:=Nat.div_add_mod t n;have:=Nat.mod_lt t hn;rw [Nat.add_mul,Nat.one_mul,Nat.mul_comm];omega
   have h7:(2:Nat) ^ t<=2 ^ ((t / n+1)*n):=Nat.pow_le_pow_right (by omega) h6
   omega
 refine blen_le_iff.2 ?_;rw [Nat.pow_succ]
 omega
theorem whole_any(n:Nat)(hn:1<=n)(hn2:n<=1024)(L:Nat):∀ (a r:Nat) (A:Option Addr) (m c:Nat) (w:World),blen a<=L->L<=140000->0<a->U32s w A m c (digs a)->IsR a n r ->
  Calls prog 250 #[.slice A m c,.int .i64 (n:Int)] w (NewU32 w (digs r)):=by
 induction L using Nat.strongRecOn with
 | ind L ih=>
 intro a r A m c w hL hL2 ha hx hr
 by_cases h1:n=1
 ·subst h1;rw [hr.one];have HX:=Hd hx;clear hx ih hr
  go_enter func250,ntmps250
  go_wp2
  go_ret
  exact⟨A,m,c,rfl,HX.out,Below.refl _ _⟩
 have hne:((n:Int) == 1)=false:=by simp;omega
 have HX:=Hd hx;have HR:=Hd hr;have HLN:=Hd (len_d hx);have HIH:=Hd fun (b r':Nat) (B:Option Addr) (m' c':Nat) (W:World) (h:blen b<L) (h0:0<b) (hb:U32s W B m' c' (digs b)) (hr':IsR b n r')=>ih (blen b) h b r' B m' c' W (Nat.le_refl _) (by omega) h0 hb hr'
 obtain⟨l,hl⟩:∃ l,blen a=l:=⟨_,rfl⟩
 rw [hl] at hL HLN;have HLL:=Hd hl;have HA0:=Hd ha
 obtain⟨qn,hqn⟩:∃ q,l / n=q:=⟨_,rfl⟩
 have hq:qn<=l:=by rw [<- hqn];exact Nat.div_le_self _ _
 have HQN:=Hd hqn
 have e0:(l:Int) / (n:Int)=(qn:Int):=by rw [<- hqn];rfl
 obtain⟨h,hh⟩:∃ h,qn / 2=h:=⟨_,rfl⟩
 have HH:=Hd hh
 have e2:(qn:Int) / 2=(h:Int):=by rw [<- hh];rfl
 have hn0:¬ (n:Int)=0:=by omega
 clear hx hr ih hl hh hqn ha
 go_enter func250,ntmps250
 go_wp2_with fail;refine HLN.out.mono ?_;rintro e w' ⟨rfl,rfl⟩;clear HLN
 go_upto_region 4 with fail
 skip;clear e2 e0
 go_upto_if 26 with fail
 go_cut [6,7,8,9] (fun s6 s7 s8 s9 wx=>∃ (x:Nat) (Ax:Option Addr) (nx cx:Nat),s6=.slice Ax nx cx/\U32s wx Ax nx cx (digs x)/\r<=x/\blen x<=qn+7/\0<x/\U32s wx A m c (digs a)/\Below w.heap.size w wx)
 case first=>
  by_cases h2:h<2
  ·have hi:(h:Int)<2:=by omega
   have hs:r<=32:=root_small HR.out (by
    have e:=HLL.out;have e3:=HH.out
    have e4:l / n<4:=by rw [HQN.out];omega
    rw [Nat.div_lt_iff_lt_mul (by omega)] at e4
    exact Nat.lt_of_lt_of_le (blen_le_iff.1 (Nat.le_refl _)) (Nat.pow_le_pow_right (by omega) (by rw [e];omega)))
   have HSM:=Hd hs;have HB3:=Hd (show blen 32<=qn+7 from by have:blen 32<=6:=blen_le_iff.2 (by omega);omega);clear hs h2 HIH;go_wp2_with fail
   go_meet
   case rel=>exact⟨32,_,1,1,rfl,by rw [digs_32];exact U32s.lit1 w 117 (a:=32) (by omega),HSM.out,HB3.out,by omega,HX.out.alloc _,below_alloc w _⟩
  ·have hi:¬ (h:Int)<2:=by omega
   have hhn:h*n<=l:=by
    have e:=HH.out;have e3:=HQN.out
    have e4:h<=l / n:=by omega
    exact (Nat.le_div_iff_mul_le (by omega)).1 e4
   have hhn2:2*1<=h*n:=Nat.mul_le_mul (by omega) hn
   obtain⟨k,hk⟩:∃ k,h*n=k:=⟨_,rfl⟩
   rw [hk] at hhn hhn2
   have ek:(h:Int)*(n:Int)=(k:Int):=by rw [<- hk];rfl
   obtain⟨r',hr'⟩:=exists_root n (by omega) (a / 2 ^ k);have hst:=whole_start (h:=h) (by omega) HR.out (by rw [hk];exact hr');rw [hk,HLL.out] at hst
   have hb:blen (a / 2 ^ k)<=l - k:=by
    refine blen_le_iff.2 ?_;rw [Nat.div_lt_iff_lt_mul (Nat.two_pow_pos _),<- Nat.pow_add]
    exact Nat.lt_of_lt_of_le (blen_le_iff.1 (Nat.le_refl _)) (Nat.pow_le_pow_right (by omega) (by rw [HLL.out];omega))
   have hq2:(l - k) / n+h<=qn:=by
    have e3:=HQN.out;rw [<- hk,<- e3,Nat.mul_comm h n,Nat.sub_mul_div]
    have:h<=l / n:=by rw [e3];have:=HH.out;omega
    omega
   have HSH:=Hd (shr_d k HX.out (by rw [HLL.out];omega) (by omega));have HS1:=Hd hst.1;have hb2:=blen_mul (r'+1) (2 ^ h);have hb3:blen (2 ^ h)<=h+1:=blen_le_iff.2 (Nat.pow_lt_pow_right (by omega) (by omega));have HBX:=Hd (show blen ((r'+1)*2 ^ h)<=qn+7 from by have:=hst.2;omega);have HB1:=Hd (show blen (r'+1)+h<=500000/\blen r'<=500000 from⟨by have:=hst.2;omega,by have:=hst.2;have:=blen_mono (show r'<=r'+1 by omega);omega⟩);have HRR:=Hd hr';have HLB:=Hd (show blen (a / 2 ^ k)<L by omega)
   have HB0:=Hd (show 0<a / 2 ^ k from by
    have h5:2*k<=l:=by
     have e3:=HQN.out;have e4:=HH.out
     have e5:2*h<=l / n:=by omega
     have e6:=(Nat.le_div_iff_mul_le (by omega)).1 e5;rw [<- hk,<- Nat.mul_assoc];exact e6
    refine Nat.div_pos ?_ (Nat.two_pow_pos _)
    rcases Nat.lt_or_ge a (2 ^ k) with c | c
    ·have:=blen_le_iff.2 c;rw [HLL.out] at this;omega
    ·exact c)
   have ek2:wrap64 (k:Int)=(k:Int):=by unfold wrap64;omega
   clear hk hhn hhn2 hr' hst hb hq2 hb2 hb3 h2;go_wp2_with fail;refine HSH.out.mono ?_;rintro e w1 ⟨A1,n1,c1,rfl,hu1,hb1⟩;have HI:=Hd (HIH.out _ r' A1 n1 c1 w1 HLB.out HB0.out hu1 HRR.out);have HX1:=Hd (HX.out.below hb1);have HBW1:=Hd hb1;clear hu1 hb1 HSH HIH HLB HB0 HRR ek ek2 HX;go_wp2_with fail;refine HI.out.mono ?_;rintro e w2 ⟨A2,n2,c2,rfl,hu2,hb2⟩;have HU2:=Hd hu2;have HX2:=Hd (HX1.out.below hb2);have HBW2:=Hd (HBW1.out.trans (hb2.mono HBW1.out.size));clear hu2 hb2 HI HX1 HBW1
   have hl1:U32s (w2.alloc (.cells #[.int .u32 1] 117)) (some ⟨w2.heap.size,0,none⟩) 1 1 (digs 1):=by rw [digs_one];exact U32s.lit1 w2 117 (a:=1) (by omega)
   have HAD:=Hd (add_d (HU2.out.alloc (.cells #[.int .u32 1] 117)) hl1 HB1.out.2 (by have:blen 1<=1:=blen_le_iff.2 (by omega);omega));have HX3:=Hd (HX2.out.alloc (.cells #[.int .u32 1] 117));have HBW3:=Hd (HBW2.out.alloc HBW2.out.size (.cells #[.int .u32 1] 117));clear hl1 HX2 HBW2 HU2;go_wp2_with fail;refine HAD.out.mono ?_;rintro e w4 ⟨A4,n4,c4,rfl,hu4,hb4⟩;have HSL:=Hd (shl_d h hu4 HB1.out.1);have HX4:=Hd (HX3.out.below hb4);have HBW4:=Hd (HBW3.out.trans (hb4.mono HBW3.out.size));clear hu4 hb4 HAD HX3 HBW3;go_wp2_with fail;refine HSL.out.mono ?_;rintro e w5 ⟨A5,n5,c5,rfl,hu5,hb5⟩;have HU5:=Hd hu5;have HX5:=Hd (HX4.out.below hb5);have HBW5:=Hd (HBW4.out.trans (hb5.mono HBW4.out.size));clear hu5 hb5 HSL HX4 HBW4;go_wp2_with fail
   go_meet
   case rel=>exact⟨_,A5,n5,c5,rfl,HU5.out,HS1.out,HBX.out,Nat.mul_pos (by omega) (Nat.two_pow_pos _),HX5.out,HBW5.out⟩
 case rest=>
  obtain⟨x0,Ax0,nx0,cx0,rfl,hu,hr1,hb1,hp1,hxa,hbw⟩:=hcut;rename World=>wx;have HU:=Hd hu;have HXA:=Hd hxa;have HBW:=Hd hbw
  obtain⟨n1,hn1⟩:∃ k,n=k+1:=⟨n - 1,by omega⟩
  have en:(n:Int) - 1=(n1:Int):=by omega
  have HQB:=Hd (show (qn+7)*n1<=160000 from by
   have e:=HQN.out
   have e2:qn*n<=l:=by rw [<- e];exact Nat.div_mul_le_self _ _
   rw [hn1,Nat.mul_add,Nat.mul_one] at e2
   rw [Nat.add_mul];omega)
  have HN1:=Hd hn1
  have hn1s:n1<=1023:=by omega
  clear hu hxa hbw HX HIH HH hn1;go_wp2
  go_loopw [6] (fun xv wr=>∃ (x:Nat) (Ax:Option Addr) (nx cx:Nat),xv=.slice Ax nx cx/\U32s wr Ax nx cx (digs x)/\r<=x/\blen x<=qn+7/\0<x/\U32s wr A m c (digs a)/\Below w.heap.size w wr) (fun xv wr=>xval wr xv)
  case atStart=>exact⟨x0,Ax0,nx0,cx0,rfl,HU.out,hr1,hb1,hp1,HXA.out,HBW.out⟩
  case round=>
   obtain⟨x,Ax,nx,cx,rfl,hu,hrx,hbx,hpx,hxa,hbw⟩:=hrel;have hmul:blen x*n1<=160000:=Nat.le_trans (Nat.mul_le_mul_right _ hbx) HQB.out;have hst:=newton_step (a:=a) (m:=n1) (r:=r) (x:=x) (by have:=HR.out;rwa [HN1.out] at this) hpx hrx;have hpp:=blen_pow x n1
   obtain⟨P,hP⟩:∃ P,x ^ n1=P:=⟨_,rfl⟩
   have hP0:0<P:=by rw [<- hP];exact Nat.pow_pos hpx
   have HPW:=Hd (pow_d n1 hu (by omega) (by omega) (by omega));rw [hP] at hst HPW hpp;have hy1:=blen_mul x n1;have hn1b:blen n1<=11:=blen_le_iff.2 (by omega)
   have hqa:blen (a / P)<=l:=by rw [<- HLL.out];exact blen_mono (Nat.div_le_self _ _)
   obtain⟨Qt,hQt⟩:∃ q,a / P=q:=⟨_,rfl⟩
   rw [hQt] at hst hqa;have hya:=blen_add (x*n1) Qt 200000 (by omega) (by omega)
   obtain⟨Y,hY⟩:∃ y,(x*n1+Qt) / (n1+1)=y:=⟨_,rfl⟩
   rw [hY] at hst;have HXR:=Hd hu;have HAR:=Hd hxa;have HBR:=Hd hbw;have HST:=Hd hst;have HXV:=Hd (xval_eq hu);have HFX:=Hd (And.intro hbx (And.intro hpx hrx));have HPF:=Hd (And.intro hP0 hpp);have HQT:=Hd hQt;have HYY:=Hd hY;have HYB:=Hd (And.intro hy1 (And.intro hqa hya));have hml:=hmul;clear hu hxa hbw hst hrx hpx hP0 hpp hP hy1 hqa hya hQt hY HU HXA HBW hr1 hb1 hp1;go_wp2_with fail;refine HPW.out.mono ?_;rintro e w1 ⟨A1,m1,c1,rfl,hu1,hb1⟩;have HA1:=Hd (HAR.out.below hb1);have HX1:=Hd (HXR.out.below hb1);have HB1:=Hd (HBR.out.trans (hb1.mono HBR.out.size));have HP1:=Hd hu1;have HQ1:=Hd (quo_d HA1.out hu1 (by rw [HLL.out];omega) (by have:=HPF.out.2;omega) HPF.out.1);rw [HQT.out] at HQ1;clear hu1 hb1 HPW HAR HXR HBR;go_wp2_with fail;refine HQ1.out.mono ?_;rintro e w2 ⟨A2,m2,c2,B2,p2,d2,rfl,hu2,-,hb2⟩;have HA2:=Hd (HA1.out.below hb2);have HX2:=Hd (HX1.out.below hb2);have HB2:=Hd (HB1.out.trans (hb2.mono HB1.out.size));have HQ2:=Hd hu2;have HS2:=Hd (nsmall_any n1 w2 (by omega));clear hu2 hb2 HQ1 HA1 HX1 HB1 HP1;go_wp2_with fail;refine HS2.out.mono ?_;rintro e w3 ⟨A3,m3,c3,rfl,hu3,hb3⟩;have HA3:=Hd (HA2.out.below hb3);have HX3:=Hd (HX2.out.below hb3);have HQ3:=Hd (HQ2.out.below hb3);have HB3:=Hd (HB2.out.trans (hb3.mono HB2.out.size));have HM3:=Hd (mul_d HX3.out hu3 (by have:=HFX.out.1;omega) (by omega));clear hu3 hb3 HS2 HA2 HX2 HB2 HQ2;go_wp2_with fail;refine HM3.out.mono ?_
   rintro e w4 ⟨A4,m4,c4,rfl,hu4,hb4⟩;have HA4:=Hd (HA3.out.below hb4);have HX4:=Hd (HX3.out.below hb4);have HB4:=Hd (HB3.out.trans (hb4.mono HB3.out.size));have HD4:=Hd (add_d hu4 (HQ3.out.below hb4) (by have:=HYB.out.1;omega) (by have:=HYB.out.2.1;omega));clear hu4 hb4 HM3 HA3 HX3 HB3 HQ3;go_wp2_with fail;refine HD4.out.mono ?_;rintro e w5 ⟨A5,m5,c5,rfl,hu5,hb5⟩;have HA5:=Hd (HA4.out.below hb5);have HX5:=Hd (HX4.out.below hb5);have HY5:=Hd hu5;have HB5:=Hd (HB4.out.trans (hb5.mono HB4.out.size));have HS5:=Hd (show Calls prog 169 #[.int .u64 (n:Int)] w5 (NewU32 w5 (digs (n1+1))) from by have h:=nsmall_any n w5 (by omega);rwa [HN1.out] at h ⊢);clear hu5 hb5 HD4 HA4 HX4 HB4;go_wp2_with fail;refine HS5.out.mono ?_;rintro e w6 ⟨A6,m6,c6,rfl,hu6,hb6⟩;have HA6:=Hd (HA5.out.below hb6);have HX6:=Hd (HX5.out.below hb6);have HB6:=Hd (HB5.out.trans (hb6.mono HB5.out.size));have HQ6:=Hd (quo_d (HY5.out.below hb6) hu6 (by have:=HYB.out.2.2;omega) (by have:blen (n1+1)<=11:=blen_le_iff.2 (by omega);omega) (by omega));rw [HYY.out] at HQ6;clear hu6 hb6 HS5 HA5 HX5 HB5 HY5;go_wp2_with fail;refine HQ6.out.mono ?_;rintro e w7 ⟨A7,m7,c7,B7,p7,d7,rfl,hu7,-,hb7⟩;have HX7:=Hd (HX6.out.below hb7);have hc7:=cmp_d hu7 HX7.out;have HA7:=Hd (HA6.out.below hb7);have HY7:=Hd hu7;have HB7:=Hd (HB6.out.trans (hb7.mono HB6.out.size))
   obtain⟨cc,hcc⟩:∃ z,cmp3 Y x=z:=⟨_,rfl⟩
   rw [hcc] at hc7;have HC7:=Hd hc7;have HCC:=Hd hcc;clear hu7 hb7 HQ6 HA6 HX6 HB6 hc7 hcc;go_wp2_with fail;refine HC7.out.mono ?_;rintro e w8 ⟨rfl,k8,hk8⟩
   have hb8:Below w7.heap.size w7 w8:=by rw [hk8];exact below_drewN (Below.refl _ _) k8
   have HX8:=Hd (HX7.out.below hb8);have HA8:=Hd (HA7.out.below hb8);have HY8:=Hd (HY7.out.below hb8);have HB8:=Hd (HB7.out.trans (hb8.mono HB7.out.size));clear hb8 hk8 HC7 HX7 HA7 HY7 HB7
   by_cases hneg:cc<0
   ·have hlt:Y<x:=cmp3_neg.1 (by rw [HCC.out];exact hneg);have HLT:=Hd hlt;have HV8:=Hd (xval_eq HY8.out);clear hlt HCC;go_wp2
    go_roundw
    case rel=>exact⟨Y,A7,m7,c7,rfl,HY8.out,HST.out.1,Nat.le_trans (blen_mono (Nat.le_of_lt HLT.out)) HFX.out.1,Nat.lt_of_lt_of_le (HR.out.pos HA0.out) HST.out.1,HA8.out,HB8.out⟩
    case measure=>show xval w8 (.slice A7 m7 c7)<xval wr (.slice Ax nx cx);rw [HV8.out,HXV.out];exact HLT.out
   ·have hge:x<=Y:=cmp3_nonneg.1 (by rw [HCC.out];omega);have HRX:=Hd (HST.out.2 hge);have hng:¬ cc<0:=hneg;clear hge HCC HST;go_wp2
    go_ret
    exact⟨Ax,nx,cx,rfl,by rw [HRX.out];exact HX8.out,HB8.out⟩
theorem cmp_b{A B:Option Addr}{n c m d x y:Nat}{w:World}{cc:Int}(hx:U32s w A n c (digs x))(hy:U32s w B m d (digs y))(h:cmp3 x y=cc):Rt 142 #[.slice A n c,.slice B m d] (.int .i64 cc) w:=by
 rw [<- h];refine (cmp_d hx hy).mono ?_;rintro e w' ⟨he,k,hk⟩
 exact⟨he,by rw [hk];exact below_drewN (Below.refl _ _) k⟩
theorem run_max_int{a b E:Int}(h:max a b=E)(W:World)(ts:Array TypeId)(t:TypeId):(Builtin.max_ ts t #[.int .i64 a,.int .i64 b]).run prog W=.ok (.int .i64 E) W:=by
 have e:(Builtin.max_ ts t #[.int .i64 a,.int .i64 b])=Builtin.max2 (.int .i64 a) (.int .i64 b):=by simp [Builtin.max_]
 rw [e];unfold Builtin.max2;subst h
 simp [Int.max_def]
 split<;>split<;>omega
theorem root_walk(d:Int)(neg more:Bool)(S n k0 J r s z:Nat)(e E cc:Int)(A:Option Addr)(m c:Nat)(w:World)(hu:U32s w A m c (digs S))(hS:blen S<=64)(hn:1<=n)(hn2:n<=1024)(he:-2000<=e/\e<=2000)(hk0:max 0 (58*(n:Int) - (blen S:Int))=(k0:Int))(hJ:J<=1024)
  (hj1:∀ i:Nat,i<J->¬ (e - ((k0+i:Nat):Int)).tmod (n:Int)=0)(hj2:(e - ((k0+J:Nat):Int)).tmod (n:Int)=0)(hE:(e - ((k0+J:Nat):Int)).tdiv (n:Int)=E)(hEb:-100000<=E/\E<=100000)(hs:S*2 ^ (k0+J)=s)(hs0:0<s)(hr:IsR s n r)(hcc:cmp3 (r ^ n) s=cc)(hm:(!(cc == 0))=more)
  (hof:∀ W B m' c',U32s W B m' c' (digs r)->Rt 230 #[.int .i64 d,.bool neg,.slice B m' c',.int .i64 E,.bool more] (.float .f64 z) W):
  Rt 223 #[.int .i64 d,.agg #[.bool neg,.slice A m c,.int .i64 e],.int .i64 (n:Int)] (.float .f64 z) w:=by
 have hb1:k0<=58*1024:=by omega
 have hsb:blen s<=70000:=by rw [<- hs];have:=blen_mul S (2 ^ (k0+J));have:blen (2 ^ (k0+J))<=k0+J+1:=blen_le_iff.2 (Nat.pow_lt_pow_right (by omega) (by omega));omega
 have hrb:blen r<=70000:=by
  refine Nat.le_trans (blen_mono ?_) hsb;refine Nat.le_trans ?_ hr.1
  rcases Nat.eq_zero_or_pos r with h | h
  ·omega
  ·calc r=r ^ 1:=(Nat.pow_one r).symm
    _<=r ^ n:=Nat.pow_le_pow_right h hn
 have hrn:blen r*n<=200000:=by
  have h1:=hr.1
  rcases Nat.eq_zero_or_pos r with h | h
  ·subst h;rw [blen_zero];omega
  ·have h2:2 ^ (blen r - 1)<=r:=by
    rcases Nat.lt_or_ge r (2 ^ (blen r - 1)) with q | q
    ·have:=blen_le_iff.2 q
     have:blen r≠0:=fun h0=>by have:=blen_eq_zero.1 h0;omega
     omega
    ·exact q
   have h3:=Nat.pow_le_pow_left h2 n;rw [<- Nat.pow_mul] at h3;have h4:2 ^ ((blen r - 1)*n)<2 ^ blen s:=Nat.lt_of_le_of_lt (Nat.le_trans h3 h1) (blen_le_iff.1 (Nat.le_refl _));have h5:=(Nat.pow_lt_pow_iff_right (show 1<2 by omega)).1 h4;rw [Nat.sub_mul] at h5
   omega
 have HU:=Hd hu;have HLN:=Hd fun W (h:U32s W A m c (digs S))=>len_d h
 obtain⟨b,hb⟩:∃ b,blen S=b:=⟨_,rfl⟩
 rw [hb] at hk0 hS HLN;have HMX:=Hd fun (W:World) (ts:Array TypeId) (t:TypeId)=>run_max_int hk0 W ts t
 have hw1:wrap64 (58*(n:Int))=58*(n:Int):=by unfold wrap64;omega
 have hw2:wrap64 (58*(n:Int) - (b:Int))=58*(n:Int) - (b:Int):=by unfold wrap64;omega
 have HSL:=Hd fun W (h:U32s W A m c (digs S))=>shl_d (k0+J) h (by rw [hb];omega);rw [hs] at HSL;have HWH:=Hd fun W B m' c' (h:U32s W B m' c' (digs s))=>whole_any n hn hn2 140000 s r B m' c' W (by omega) (by omega) hs0 h hr;have HPW:=Hd fun W B m' c' (h:U32s W B m' c' (digs r))=>pow_d (w:=W) n h (by omega) (by omega) (by omega);have HCM:=Hd fun W B m' c' C p q (h:U32s W B m' c' (digs (r ^ n))) (h2:U32s W C p q (digs s))=>cmp_b h h2 hcc;have HJ1:=Hd hj1;have HJ2:=Hd hj2;have HE:=Hd hE;have HOF:=Hd hof;have HM:=Hd hm
 have hn0:¬ (n:Int)=0:=by omega
 clear hu hs hr hcc hof hj1 hj2 hE hsb hrb hrn hb hs0 hm;have LL:=li1 w #[.bool neg,.slice A m c,.int .i64 e] 168;have HU0:=Hd (HU.out.below LL.out.b);clear HU
 go_enter func223,ntmps223
 obtain⟨q1_0,q1_1,q1_2⟩:=(LL.out.blk 0 rfl).c3;have hmx:=HMX.out;go_wp2_with fail;refine (HLN.out _ HU0.out).mono ?_;rintro e1 w1 ⟨rfl,rfl⟩;clear HLN q1_0 q1_1 q1_2
 obtain⟨wa,hwa⟩:∃ X,(w.alloc (.cells #[.bool neg,.slice A m c,.int .i64 e] 168))=X:=⟨_,rfl⟩
 rw [hwa] at HU0 LL ⊢;clear hwa;obtain⟨q2_0,q2_1,q2_2⟩:=(LL.out.blk 0 rfl).c3;go_wp2;clear hmx HMX hw1 hw2 q2_0 q2_1 q2_2
 go_loopw [7] (fun kv wr=>∃ i:Nat,kv=.int .i64 ((k0+i:Nat):Int)/\i<=J/\wr=wa) (fun kv _=>k0+J - (intOf kv).toNat)
 case atStart=>exact⟨0,rfl,by omega,rfl⟩
 case round=>
  obtain⟨i,rfl,hi,hwr⟩:=hrel;subst hwr
  have hk:(0:Int)<=((k0+i:Nat):Int)/\((k0+i:Nat):Int)<=61000:=by omega
  obtain⟨kk,hkk⟩:∃ z:Int,((k0+i:Nat):Int)=z:=⟨_,rfl⟩
  have hw3:wrap64 (e - kk)=e - kk:=by unfold wrap64;omega
  by_cases hlt:i<J
  ·skip;obtain⟨q3_0,q3_1,q3_2⟩:=(LL.out.blk 0 rfl).c3;have t1:=HJ1.out i hlt;rw [hkk] at t1 hk ⊢
   have t2:((e - kk).tmod (n:Int) == 0)=false:=by simpa using t1
   go_wp2
   exact⟨⟨i+1,by rw [<- hkk,show k0+(i+1)=k0+i+1 from by omega];rfl,by omega,trivial⟩,by simp [intOf];omega⟩
  ·skip
   obtain rfl:i=J:=by omega
   have t1:=HJ2.out;have te:=HE.out;rw [hkk] at t1 te hk ⊢;have HT1:=Hd t1;have HSK:=Hd (HSL.out _ HU0.out);rw [hkk] at HSK;have hkh:=Hd hkk;clear HJ1 HJ2 HE HSL hlt hi hkk;obtain⟨q4_0,q4_1,q4_2⟩:=(LL.out.blk 0 rfl).c3;go_wp2_with fail;refine HSK.out.mono ?_;rintro e2 w2 ⟨A2,m2,c2,rfl,hu2,hb2⟩;have HU2:=Hd hu2;replace LL:=stL LL hb2;clear hu2 hb2 HSK HU0 q4_0 q4_1 q4_2;have HW2:=Hd (HWH.out _ A2 m2 c2 HU2.out);go_wp2_with fail;refine HW2.out.mono ?_;rintro e2 w3 ⟨A3,m3,c3,rfl,hu3,hb3⟩;have HU3:=Hd hu3;replace HU2:=Hd (HU2.out.below hb3);replace LL:=stL LL hb3;clear hu3 hb3 HW2 HWH;have HW3:=Hd (HPW.out _ A3 m3 c3 HU3.out);go_wp2_with fail;refine HW3.out.mono ?_;rintro e2 w4 ⟨A4,m4,c4,rfl,hu4,hb4⟩;have HU4:=Hd hu4;replace HU2:=Hd (HU2.out.below hb4);replace HU3:=Hd (HU3.out.below hb4);replace LL:=stL LL hb4;clear hu4 hb4 HW3 HPW
   have hn1:¬ n=0:=by omega
   have f1:IntKind.i64.wrap (e - kk)=e - kk:=by rw [IntKind.wrap_i64];omega
   have f2:IntKind.i64.wrap E=E:=by rw [IntKind.wrap_i64];omega
   have hm1:(cc != 0)=more:=HM.out;have hm2:(!(cc == 0))=more:=HM.out
   have hm3:(!decide (cc=0))=more:=by rw [<- HM.out];rfl
   have hm4:decide (¬ cc=0)=more:=by rw [<- hm3];simp
   go_wp2_with fail;refine regL LL (fun hHeld=>?_);clear LL;replace HU2:=Hd (HU2.out.below (Below.refl _ _).drew);replace HU3:=Hd (HU3.out.below (Below.refl _ _).drew);replace HU4:=Hd (HU4.out.below (Below.refl _ _).drew);generalize World.drew _=wk at hHeld HU2 HU3 HU4 ⊢;refine tks 0 ?_;refine tks 1 ?_;refine tkb 2 (fun _ h=>(h.blk 0 rfl).c3) ?_;refine tks 3 ?_;refine tks 4 ?_;refine tkb 5 (fun _ h=>(h.blk 0 rfl).c3) ?_;refine tks 6 ?_;refine tks 7 ?_;refine tks 8 ?_;refine tks 9 ?_;refine tks 10 ?_;refine tks 11 ?_;refine rcs 12 (HCM.out _ A4 m4 c4 A2 m2 c2 HU4.out HU2.out) ?_;clear hHeld;intro wk hb5 hHeld;replace HU2:=Hd (HU2.out.below hb5);replace HU3:=Hd (HU3.out.below hb5);replace HU4:=Hd (HU4.out.below hb5);clear hb5;refine tks 13 ?_;refine rcs 14 (HOF.out _ A3 m3 c3 HU3.out) ?_;clear hHeld;intro wk hb6 hHeld;replace HU2:=Hd (HU2.out.below hb6);replace HU3:=Hd (HU3.out.below hb6);replace HU4:=Hd (HU4.out.below hb6);clear hb6;refine tks 15 ?_;refine wpAnyH_done (by kernel_rfl) ?_ _;have LL:=Hd hHeld;clear hHeld;go_wp2
   go_ret
   exact⟨rfl,LL.out.b⟩
theorem sgn_pat2{i:Int}(h:-(M:Int)<=i/\i<=M)(h0:i≠0):sgn (pat i)=decide (i<0):=by
 have c:=pat_cases (pat_lt h.1 h.2);rw [idx_pat h.1 h.2] at c
 rcases c with ⟨c1,c2,c3,c4⟩ | ⟨c1,c2,c3,c4⟩
 ·rw [c3,decide_eq_false (by omega)]
 ·rw [c3,decide_eq_true (by omega)]
theorem rv_rq{s n R:Nat}(neg:Bool)(E:Int):(if R ^ n=s then rv neg R 1*2 ^ E else rv neg (2*R+1) 2*2 ^ E)=if neg=true then - rq s n R (2 ^ E) else rq s n R (2 ^ E):=by
 unfold rq rv
 by_cases h:R ^ n=s
 ·rw [if_pos h,if_pos h]
  cases neg<;>simp<;>grind
 ·rw [if_neg h,if_neg h]
  cases neg
  ·simp only [Bool.false_eq_true,if_false];push_cast;grind
  ·simp only [if_true];push_cast;grind
theorem root_q(S n:Nat)(e:Int)(hS:0<S)(hS2:S<9007199254740992)(he:-1074<=e/\e<=971)(hn:1<=n)(hn2:n<=1024):∃ q:Rat,(∀ i:Int,fl i=(S:Rat)*2 ^ e->RtOk i n q) /\
  ∀ (d:Int) (neg:Bool) (A:Option Addr) (m c:Nat) (w:World),d=-1\/d=1->U32s w A m c (digs S) ->
   Calls prog 223 #[.int .i64 d,.agg #[.bool neg,.slice A m c,.int .i64 e],.int .i64 (n:Int)] w fun e' w'=>e'=.returned (.float .f64 (pat (rndI d (if neg=true then -q else q))))/\Below w.heap.size w w':=by
 have hb:blen S<=53:=blen_le_iff.2 (by omega)
 have hb0:0<blen S:=by
  rcases Nat.eq_zero_or_pos (blen S) with h | h
  ·have:=blen_eq_zero.1 h;omega
  ·exact h
 obtain⟨k0,hk0⟩:∃ k:Nat,max 0 (58*(n:Int) - (blen S:Int))=(k:Int):=⟨58*n - blen S,by omega⟩
 have hn0:(0:Int)<(n:Int):=by omega
 have hm1:=Int.emod_nonneg (e - (k0:Int)) (show (n:Int)≠0 by omega);have hm2:=Int.emod_lt_of_pos (e - (k0:Int)) hn0;have hdm:=Int.mul_ediv_add_emod (e - (k0:Int)) (n:Int)
 obtain⟨J,hJ⟩:∃ J:Nat,(e - (k0:Int)) % (n:Int)=(J:Int):=⟨((e - (k0:Int)) % (n:Int)).toNat,by omega⟩
 obtain⟨E,hE⟩:∃ E:Int,(e - (k0:Int)) / (n:Int)=E:=⟨_,rfl⟩
 rw [hJ,hE] at hdm;rw [hJ] at hm2
 have hek:e - ((k0+J:Nat):Int)=(n:Int)*E:=by omega
 have hEb:-100000<=E/\E<=100000:=by
  rw [<- hE]
  constructor
  ·rw [Int.le_ediv_iff_mul_le hn0];omega
  ·exact Int.le_of_lt (Int.ediv_lt_of_lt_mul hn0 (by omega))
 obtain⟨s,hs⟩:∃ s,S*2 ^ (k0+J)=s:=⟨_,rfl⟩
 have hs0:0<s:=by rw [<- hs];exact Nat.mul_pos hS (Nat.two_pow_pos _)
 obtain⟨r,hr⟩:=exists_root n (by omega) s
 have h58:2 ^ (58*n - 1)<=s:=by
  rw [<- hs]
  have h1:2 ^ (blen S - 1)<=S:=by
   rcases Nat.lt_or_ge S (2 ^ (blen S - 1)) with q | q
   ·have:=blen_le_iff.2 q;omega
   ·exact q
  calc 2 ^ (58*n - 1)<=2 ^ (blen S - 1+(k0+J)):=Nat.pow_le_pow_right (by omega) (by omega)
   _=2 ^ (blen S - 1)*2 ^ (k0+J):=Nat.pow_add ..
   _<=S*2 ^ (k0+J):=Nat.mul_le_mul_right _ h1
 have hR:144115188075855872<=r:=by
  rcases Nat.lt_or_ge r 144115188075855872 with q | q
  ·exfalso
   have h2:=Nat.pow_le_pow_left (show r+1<=2 ^ 57 by omega) n;rw [<- Nat.pow_mul] at h2;have h3:(2:Nat) ^ (57*n)<=2 ^ (58*n - 1):=Nat.pow_le_pow_right (by omega) (by omega);have:=hr.2
   omega
  ·exact q
 refine⟨rq s n r (2 ^ E),fun i hi=>?_,fun d neg A m c w hd hu=>?_⟩
 ·refine rq_ok (by omega) hr hR ?_;rw [hi,<- hek,<- hs,show e=((k0+J:Nat):Int)+(e - ((k0+J:Nat):Int)) from by omega,zpow_add,zpow_nat]
  push_cast
  rw [show ((k0:Int)+(J:Int)+(e - ((k0:Int)+(J:Int))) - ((k0:Int)+(J:Int)))=e - ((k0:Int)+(J:Int)) from by omega]
  grind
 ·have hrb:blen r<=70000:=by
   have h1:r<=s:=by
    refine Nat.le_trans ?_ hr.1
    calc r=r ^ 1:=(Nat.pow_one r).symm
     _<=r ^ n:=Nat.pow_le_pow_right (by omega) hn
   refine Nat.le_trans (blen_mono h1) ?_;rw [<- hs];have:=blen_mul S (2 ^ (k0+J));have:blen (2 ^ (k0+J))<=k0+J+1:=blen_le_iff.2 (Nat.pow_lt_pow_right (by omega) (by omega))
   omega
  have hb58:58<=blen r:=by
   rcases Nat.lt_or_ge (blen r) 58 with q | q
   ·have:=blen_le_iff.1 (show blen r<=57 by omega);omega
   ·exact q
  obtain⟨more,hmo⟩:∃ b,(!(cmp3 (r ^ n) s == 0))=b:=⟨_,rfl⟩
  refine root_walk d neg more S n k0 J r s _ e E _ A m c w hu (by omega) hn hn2 (by omega) hk0 (by omega) (fun i hi=>?_) ?_ ?_ hEb hs hs0 hr rfl hmo (fun W B m' c' hB=>?_)
  ·rw [<- Int.dvd_iff_tmod_eq_zero];rintro⟨t,ht⟩
   have h1:(e - ((k0+i:Nat):Int))=(n:Int)*E+((J:Int) - (i:Int)):=by omega
   have h2:(n:Int)*(t - E)=(J:Int) - (i:Int):=by rw [Int.mul_sub];omega
   have h3:0<t - E:=by
    rcases Int.lt_or_le 0 (t - E) with q | q
    ·exact q
    ·have:=Int.mul_nonneg (show 0<=(n:Int) by omega) (show 0<=-(t - E) by omega);rw [Int.mul_neg] at this;omega
   have h4:(n:Int)*1<=(n:Int)*(t - E):=Int.mul_le_mul_of_nonneg_left (by omega) (by omega)
   omega
  ·rw [hek,Int.mul_tmod_right]
  ·rw [hek,Int.mul_tdiv_cancel_left _ (by omega)]
  ·rw [<- rv_rq]
   by_cases h:r ^ n=s
   ·rw [if_pos h]
    have e1:more=false:=by rw [<- hmo,cmp3_eq h];rfl
    rw [e1];have ho:=of_quo d neg B m' c' r 1 0 E W (by omega) (by omega) (by omega) (by omega) (by have:blen 1<=1:=blen_le_iff.2 (by omega);omega) (by rw [Nat.pow_zero,Nat.mul_one,Nat.div_one];exact hB) hd (by omega) (by omega);rw [Nat.pow_zero,Nat.mul_one,Nat.mod_one,show (E - ((0:Nat):Int))=E from by omega] at ho
    exact ho
   ·rw [if_neg h]
    have e1:more=true:=by
     rw [<- hmo];have:cmp3 (r ^ n) s≠0:=fun k=>h (cmp3_zero.1 k)
     simpa using this
    rw [e1]
    have b2:blen (2*r+1)<=blen r+1:=by
     have:=blen_le_iff.1 (Nat.le_refl (blen r))
     exact blen_le_iff.2 (by rw [Nat.pow_succ];omega)
    have b3:blen r+1<=blen (2*r+1):=by
     have:=blen_half (n:=2*r+1) (by omega);rw [show (2*r+1) / 2=r by omega] at this;omega
    have ho:=of_quo d neg B m' c' (2*r+1) 2 0 E W (by omega) (by omega) (by omega) (by omega) (by have:blen 2<=2:=blen_le_iff.2 (by omega);omega) (by rw [Nat.pow_zero,Nat.mul_one,show (2*r+1) / 2=r by omega];exact hB) hd (by omega) (by omega);rw [Nat.pow_zero,Nat.mul_one,show (2*r+1) % 2=1 by omega,show (E - ((0:Nat):Int))=E from by omega] at ho
    exact ho
theorem root_nought(d:Int)(n:Nat)(w:World)(hn:1<=n)(hn2:n<=1024):
  Rt 174 #[.int .i64 d,.float .f64 0,.int .i64 (n:Int)] (.float .f64 0) w:=by
 have hM:=M_val;have HN:=Hd fun W=>isnanf (pat 0) W (by rw [rung_pat (by omega) (by omega)];omega);have o:=ord0_eq (i:=0) rfl;rw [pat_zero] at HN o
 have h1:¬ (n:Int)<1:=by omega
 have h2:¬ (1024:Int)<(n:Int):=by omega
 rcases Nat.mod_two_eq_zero_or_one n with hp | hp
 all_goals
  have hpi:(n:Int) % 2=((n % 2:Nat):Int):=by omega
  rw [hp] at hpi;clear hp
  go_enter func174,ntmps174
  go_wp2_with fail;refine cy (HN.out _) ?_;go_wp2
  go_ret
  exact⟨rfl,Below.refl _ _⟩
theorem root_far(d i:Int)(n:Nat)(o:Ordering)(w:World)(hn:1<=n)(hn2:n<=1024)(hi:i=M\/i=-(M:Int))(hp:n % 2=1\/i=M):
  Rt 174 #[.int .i64 d,.float .f64 (pat i),.int .i64 (n:Int)] (.float .f64 (pat i)) w:=by
 have hM:=M_val
 have hr:-(M:Int)<=i/\i<=M:=by omega
 have HN:=Hd fun W=>isnanf (pat i) W (by rw [rung_pat hr.1 hr.2];omega);have HF:=Hd fun W=>isinff (pat i) W (pat_lt hr.1 hr.2) (by rw [rung_pat hr.1 hr.2];omega);rw [rung_pat hr.1 hr.2,decide_eq_true (show i.natAbs=M by omega)] at HF;have o:=ord0 hr
 obtain⟨x,hx⟩:∃ x,pat i=x:=⟨_,rfl⟩
 rw [hx] at HN HF o ⊢
 have h1:¬ (n:Int)<1:=by omega
 have h2:¬ (1024:Int)<(n:Int):=by omega
 have hpi:(n:Int) % 2=((n % 2:Nat):Int):=by omega
 have hc:(n % 2=1/\(compare i 0=.lt\/compare i 0=.gt))\/(n % 2=0/\compare i 0=.gt):=by
  rcases hi with hi | hi
  ·have:compare i 0=.gt:=Int.compare_eq_gt.2 (by omega)
   rcases Nat.mod_two_eq_zero_or_one n with hp | hp
   ·exact .inr ⟨hp,this⟩
   ·exact .inl ⟨hp,.inr this⟩
  ·exact .inl ⟨by rcases hp with h | h<;>omega,.inl (Int.compare_eq_lt.2 (by omega))⟩
 clear hi hp hr hx
 rcases hc with ⟨e1,e2 | e2⟩ | ⟨e1,e2⟩
 all_goals
  rw [e1] at hpi;rw [e2] at o;clear e1 e2
  go_enter func174,ntmps174
  go_wp2_with fail;refine cy (HN.out _) ?_;go_wp2_with fail;refine cy (HF.out _) ?_;go_wp2
  go_ret
  exact⟨rfl,Below.refl _ _⟩
theorem root_some(d:Int)(x n z:Nat)(neg:Bool)(S:Nat)(e:Int)(o:Ordering)(w:World)(hn:1<=n)(hn2:n<=1024)(hN:∀ W,Calls prog 221 #[.float .f64 x] W fun e w'=>e=.returned (.bool false)/\W=w')(hF:∀ W,Calls prog 161 #[.float .f64 x,.int .i64 0] W fun e w'=>e=.returned (.bool false)/\W=w')
  (ho:FloatKind.f64.format.order x 0=some o)(hc:(n % 2=1/\(o=.lt\/o=.gt))\/(n % 2=0/\o=.gt))(hP:∀ W,Calls prog 189 #[.float .f64 x] W (NewDy W neg S e))(hR:∀ A m c W,U32s W A m c (digs S)->Calls prog 223 #[.int .i64 d,.agg #[.bool neg,.slice A m c,.int .i64 e],.int .i64 (n:Int)] W fun e' w'=>e'=.returned (.float .f64 z)/\Below W.heap.size W w'):
  Rt 174 #[.int .i64 d,.float .f64 x,.int .i64 (n:Int)] (.float .f64 z) w:=by
 have HN:=Hd hN;have HF:=Hd hF;have HP:=Hd hP;have HR:=Hd hR
 have h1:¬ (n:Int)<1:=by omega
 have h2:¬ (1024:Int)<(n:Int):=by omega
 have hpi:(n:Int) % 2=((n % 2:Nat):Int):=by omega
 clear hN hF hP hR
 rcases hc with ⟨e1,rfl | rfl⟩ | ⟨e1,rfl⟩
 all_goals
  rw [e1] at hpi;clear e1
  go_enter func174,ntmps174
  go_wp2_with fail;refine cy (HN.out _) ?_;go_wp2_with fail;refine cy (HF.out _) ?_;go_wp2_with fail;refine (HP.out _).mono ?_;rintro e' w1 ⟨A,m,c,rfl,hu,hb⟩;have HRR:=Hd (HR.out A m c w1 hu);have HB:=Hd hb;clear hu hb HR HP;go_wp2_with fail;refine HRR.out.mono ?_;rintro e' w2 ⟨rfl,hb2⟩;have HB2:=Hd (HB.out.trans (hb2.mono HB.out.size));clear hb2 HB HRR;go_wp2
  go_ret
  exact⟨rfl,HB2.out⟩
theorem rt_ok{i:Int}{n:Nat}(h0:0<i)(h1:i<M)(hn:1<=n)(hn2:n<=1024):RtOk i n (rootq i n):=by
 have hM:=M_val
 have hi:-(M:Int)<=i/\i<=M:=by omega
 obtain⟨S,e,b1,b2,b3,hv,-⟩:=part_any (pat i) (pat_lt hi.1 hi.2) (by unfold fin;rw [rung_pat hi.1 hi.2];omega);rw [idx_pat hi.1 hi.2,sgn_pat2 hi (by omega),decide_eq_false (by omega)] at hv
 have hf:fl i=(S:Rat)*2 ^ e:=by
  rw [hv];unfold rv;simp only [Bool.false_eq_true,if_false];grind
 have hS:0<S:=by
  rcases Nat.eq_zero_or_pos S with h | h
  ·exfalso
   have hz:fl i=0:=by rw [hf,h];grind
   have:=fl_lt_iff.2 h0;rw [fl_zero] at this;grind
  ·exact h
 obtain⟨q,hq,-⟩:=root_q S n e hS b1 ⟨b2,b3⟩ hn hn2
 exact rootq_ok (hq i hf)
theorem rti_lo{d a:Int}{n:Nat}(hd:d=-1\/d=1)(h0:0<=a)(h1:a<=M)(hn:1<=n)(hn2:n<=1024):0<=rti d a n/\rti d a n<=M/\(d=-1->a<M->rti d a n<M):=by
 have hM:=M_val;unfold rti rt1;rw [if_neg (by omega)]
 by_cases h:a=0\/a=M
 ·rw [if_pos h];omega
 ·rw [if_neg h];have hq:=(rt_ok (i:=a) (n:=n) (by omega) (by omega) hn hn2).1;have r1:=rndI_down (rootq a n);have r2:=rndI_up (rootq a n);have r3:=rndI_mono hd (x:=0) (y:=rootq a n) (by grind);rw [rndI_zero hd] at r3
  rcases hd with rfl | rfl<;>omega
theorem rti_mono{a b:Int}{n:Nat}(h0:0<=a)(hab:a<=b)(ha:a<M)(h1:b<=M)(hn:1<=n)(hn2:n<=1024):rti (-1) a n<=rti 1 b n:=by
 have hM:=M_val;have ra:=rti_lo (d:=-1) (a:=a) (n:=n) (.inl rfl) h0 (by omega) hn hn2;have rb:=rti_lo (d:=1) (a:=b) (n:=n) (.inr rfl) (by omega) h1 hn hn2;unfold rti rt1 at *;rw [if_neg (by omega)] at *
 by_cases hb:b=M
 ·have eb:(if b<0 then -(if -b=0\/-b=(M:Int) then -b else rndI (-1) (rootq (-b) n)) else if b=0\/b=(M:Int) then b else rndI 1 (rootq b n))=M:=by
   rw [if_neg (by omega),if_pos (.inr hb)];exact hb
  rw [eb];omega
 ·by_cases hz:a=0
  ·rw [if_pos (.inl hz)];omega
  ·rw [if_neg (by omega)] at *;rw [if_neg (by omega)] at *;rw [if_neg (by omega)] at *;have qa:=rt_ok (i:=a) (n:=n) (by omega) ha hn hn2;have qb:=rt_ok (i:=b) (n:=n) (by omega) (by omega) hn hn2;have da:=rndI_down (rootq a n);have ub:=rndI_up (rootq b n);have f1:=(da.2.2 (rndI (-1) (rootq a n)) (by omega) (by omega)).1 (Int.le_refl _);have f2:=(qa.2 _ ra.1).1.1 f1;have f3:fl a<=fl b:=fl_le_iff.2 hab;have f4:=(qb.2 _ ra.1).1.2 (Rat.le_trans f2 f3)
   by_cases hu:rndI 1 (rootq b n)=M
   ·omega
   ·have f5:=(ub.2.2 (rndI 1 (rootq b n)) (by omega) (by omega)).1 (Int.le_refl _)
    exact fl_le_iff.1 (Rat.le_trans f4 f5)
theorem rroot_any(d i:Int)(n:Nat)(w:World)(hd:d=-1\/d=1)(hi:-(M:Int)<=i/\i<=M)(hn:1<=n)(hn2:n<=1024)(hp:n % 2=1\/0<=i):
  Rt 174 #[.int .i64 d,.float .f64 (pat i),.int .i64 (n:Int)] (.float .f64 (pat (rti d i n))) w:=by
 have hM:=M_val
 by_cases h0:i=0
 ·subst h0
  have e:rti d 0 n=0:=by unfold rti rt1;rw [if_neg (by omega),if_pos (.inl rfl)]
  rw [e,pat_zero]
  exact root_nought d n w hn hn2
 by_cases h1:i=M\/i=-(M:Int)
 ·have e:rti d i n=i:=by
   unfold rti rt1
   split
   ·rw [if_pos (by omega)];omega
   ·rw [if_pos (by omega)]
  rw [e]
  exact root_far d i n .eq w hn hn2 h1 (by omega)
 obtain⟨S,e,b1,b2,b3,hv,hpt⟩:=part_any (pat i) (pat_lt hi.1 hi.2) (by unfold fin;rw [rung_pat hi.1 hi.2];omega);rw [idx_pat hi.1 hi.2,sgn_pat2 hi h0] at hv;rw [sgn_pat2 hi h0] at hpt
 have hS:0<S:=by
  rcases Nat.eq_zero_or_pos S with h | h
  ·exfalso
   have hz:fl i=0:=by rw [hv,h];unfold rv;split<;>grind
   rcases Int.lt_or_lt_of_ne h0 with c | c
   ·have:=fl_lt_iff.2 c;rw [fl_zero] at this;grind
   ·have:=fl_lt_iff.2 c;rw [fl_zero] at this;grind
  ·exact h
 obtain⟨q,hq,hroot⟩:=root_q S n e hS b1 ⟨b2,b3⟩ hn hn2;have HF:=fun W=>isinff (pat i) W (pat_lt hi.1 hi.2) (by rw [rung_pat hi.1 hi.2];omega);rw [rung_pat hi.1 hi.2,decide_eq_false (show ¬ i.natAbs=M by omega)] at HF
 have er:rndI d (if decide (i<0)=true then -q else q)=rti d i n:=by
  unfold rti
  by_cases hneg:i<0
  ·rw [if_pos (decide_eq_true hneg),if_pos hneg]
   have hf:fl (-i)=(S:Rat)*2 ^ e:=by
    rw [fl_neg,hv,decide_eq_true hneg];unfold rv;simp only [if_true];grind
   rw [rt1_of (by omega) (hq (-i) hf) (by omega) (by omega),<- rndI_neg (by omega),Int.neg_neg]
  ·rw [if_neg (by simpa using hneg),if_neg hneg]
   have hf:fl i=(S:Rat)*2 ^ e:=by
    rw [hv,decide_eq_false hneg];unfold rv;simp only [Bool.false_eq_true,if_false];grind
   rw [rt1_of hd (hq i hf) h0 (by omega)]
 rw [<- er]
 exact root_some d (pat i) n _ (decide (i<0)) S e (compare i 0) w hn hn2 (fun W=>isnanf (pat i) W (by rw [rung_pat hi.1 hi.2];omega)) HF (ord0 hi) (by
  rcases Int.lt_or_lt_of_ne h0 with c | c
  ·exact .inl ⟨by omega,.inl (Int.compare_eq_lt.2 c)⟩
  ·rcases Nat.mod_two_eq_zero_or_one n with k | k
   ·exact .inr ⟨k,Int.compare_eq_gt.2 c⟩
   ·exact .inl ⟨k,.inr (Int.compare_eq_gt.2 c)⟩) hpt (fun A m c W hu=>hroot d _ A m c W hd hu)
theorem rti_rng{d a:Int}{n:Nat}(hd:d=-1\/d=1)(h:-(M:Int)<=a/\a<=M)(hn:1<=n)(hn2:n<=1024):-(M:Int)<=rti d a n/\rti d a n<=M:=by
 have hM:=M_val
 by_cases h0:a<0
 ·have r:=rti_lo (d:=-d) (a:=-a) (n:=n) (by omega) (by omega) (by omega) hn hn2;unfold rti at *;rw [if_neg (by omega)] at r;rw [if_pos h0];omega
 ·have r:=rti_lo (d:=d) (a:=a) (n:=n) hd (by omega) h.2 hn hn2
  omega
theorem revroot_any(i:Int)(n:Nat)(w:World)(hi:-(M:Int)<=i/\i<=M)(hn:1<=n)(hn2:n<=1024)(hp:n % 2=1\/0<=i):
  Rt 105 #[.float .f64 (pat i),.int .i64 (n:Int)] (Zf (pat (rti (-1) i n)) (pat (rti 1 i n))) w:=
 revroot_walk _ n _ _ w (fun W=>rroot_any (-1) i n W (.inl rfl) hi hn hn2 hp) (fun W=>rroot_any 1 i n W (.inr rfl) hi hn hn2 hp)
def tw(i j pd pu qd qu:Int):Int × Int:=(min (ctO false i j pd pu qd qu).1 (ctO false i j (-qu) (-qd) (-pu) (-pd)).1,max (ctO false i j pd pu qd qu).2 (ctO false i j (-qu) (-qd) (-pu) (-pd)).2)
theorem ctO_iv2{i j pd pu qd qu:Int}(h:Iv i j)(h0:¬ j<i)(h1:-(M:Int)<=pd/\pd<M)(h2:-(M:Int)<qu/\qu<=M)(a:pd<=pu)(b:qd<=qu)(c:pd<=qu):Iv (ctO false i j pd pu qd qu).1 (ctO false i j pd pu qd qu).2:=by
 have hM:=M_val;unfold ctO
 by_cases k:qd<i\/j<pu
 ·rw [if_pos k];exact Iv.none
 ·rw [if_neg k,if_neg (by rintro⟨h,-⟩;cases h)];have n:=ne_or h h0;unfold Ne at n
  exact .inl ⟨by dsimp only;omega,by dsimp only;omega,by dsimp only;omega,by dsimp only;omega,by dsimp only;omega⟩
theorem twice_any(i j pd pu qd qu:Int)(w:World)(h:Iv i j)(h0:¬ j<i)(h1:-(M:Int)<=pd/\pd<M)(h2:-(M:Int)<qu/\qu<=M)(h3:-(M:Int)<=pu/\pu<=M)(h4:-(M:Int)<=qd/\qd<=M)(a:pd<=pu)(b:qd<=qu)(c:pd<=qu):
  Rt 104 #[Zf (pat i) (pat j),Zf (pat pd) (pat pu),Zf (pat qd) (pat qu),.bool false] (Zf (pat (tw i j pd pu qd qu).1) (pat (tw i j pd pu qd qu).2)) w:=
 twice_walk _ _ _ _ _ _ _ _ _ _ _ _ _ _ _ _ false w (fun W=>rcut2_any false i j pd pu qd qu W h.lo h.hi (by omega) h3 h4 (by omega)) (fun W=>turned_idx qd qu W h4 (by omega)) (fun W=>turned_idx pd pu W (by omega) h3) (fun W=>rcut2_any false i j (-qu) (-qd) (-pu) (-pd) W h.lo h.hi (by omega) (by omega) (by omega) (by omega))
  (fun W=>hullf _ _ _ _ W (ctO_iv2 h h0 h1 h2 a b c) (ctO_iv2 h h0 (by omega) (by omega) (by omega) (by omega) (by omega)))
noncomputable def pwr(n:Nat)(i2 j2 i j:Int):Int × Int:=
 if j2<i2\/j<i\/(n % 2=0/\j2<0) then ((M:Int),-(M:Int))
 else if n % 2=0 then tw i j (rti (-1) (max i2 0) n) (rti 1 (max i2 0) n) (rti (-1) j2 n) (rti 1 j2 n)
 else ctO false i j (rti (-1) i2 n) (rti 1 i2 n) (rti (-1) j2 n) (rti 1 j2 n)
theorem pown_any(n c1 c2 x y:Nat)(w:World)(hn:1<=n)(hn2:n<=1024)(hc1:L64 c1)(hc2:L64 c2)(hx:L64 x)(hy:L64 y):
  Rt 39 #[.int .i64 (n:Int),Zf c1 c2,Zf x y] (Zf (pat (pwr n (rd c1 c2).1 (rd c1 c2).2 (rd x y).1 (rd x y).2).1) (pat (pwr n (rd c1 c2).1 (rd c1 c2).2 (rd x y).1 (rd x y).2).2)) w:=by
 have hM:=M_val;have v2:=rd_iv c1 c2;have v3:=rd_iv x y;have t2:=fun W=>readf c1 c2 W hc1 hc2;have t3:=fun W=>readf x y W hx hy
 obtain⟨⟨i2,j2⟩,r2⟩:∃ z,rd c1 c2=z:=⟨_,rfl⟩
 obtain⟨⟨i3,j3⟩,r3⟩:∃ z,rd x y=z:=⟨_,rfl⟩
 rw [r2] at v2 t2;rw [r3] at v3 t3;rw [r2,r3]
 dsimp only at *
 have m2:=em_idx v2;have m3:=em_idx v3;unfold pwr
 by_cases hno:j2<i2\/j3<i3
 ·rw [if_pos (by omega),pat_max,pat_min]
  exact pown_none n _ _ _ _ _ _ _ _ _ _ w t2 m2 t3 m3 hn hn2 (by simp;omega)
 have hnn:(decide (j2<i2) || decide (j3<i3))=false:=by simp;omega
 have k2:=ne_or v2 (by omega);unfold Ne at k2
 rcases Nat.mod_two_eq_zero_or_one n with hp | hp
 ·by_cases h0:j2<0
  ·rw [if_pos (by omega),pat_max,pat_min]
   exact pown_neg n _ _ _ _ _ _ _ _ _ _ w t2 m2 t3 m3 hn hn2 hp hnn (ord0_lt v2.hi h0)
  ·rw [if_neg (by omega),if_pos hp];have hmx:=fun W ts t=>run_maxf v2.lo (show -(M:Int)<=0/\(0:Int)<=M by omega) W ts t;rw [pat_zero] at hmx;have a1:=rti_lo (d:=-1) (a:=max i2 0) (n:=n) (.inl rfl) (by omega) (by omega) hn hn2;have a2:=rti_lo (d:=1) (a:=max i2 0) (n:=n) (.inr rfl) (by omega) (by omega) hn hn2;have b1:=rti_lo (d:=-1) (a:=j2) (n:=n) (.inl rfl) (by omega) (by omega) hn hn2;have b2:=rti_lo (d:=1) (a:=j2) (n:=n) (.inr rfl) (by omega) (by omega) hn hn2;have c1':=rti_mono (a:=max i2 0) (b:=max i2 0) (n:=n) (by omega) (by omega) (by omega) (by omega) hn hn2;have c3':=rti_mono (a:=max i2 0) (b:=j2) (n:=n) (by omega) (by omega) (by omega) (by omega) hn hn2
   have c2':rti (-1) j2 n<=rti 1 j2 n:=by
    by_cases hj:j2=M
    ·have e:rti 1 j2 n=M:=by unfold rti rt1;rw [if_neg (by omega),if_pos (.inr hj)];exact hj
     omega
    ·exact rti_mono (by omega) (Int.le_refl _) (by omega) (by omega) hn hn2
   have a3:=a1.2.2 rfl (by omega)
   exact pown_even n _ _ _ _ _ _ _ _ _ _ _ _ _ _ _ (compare j2 0) _ _ w t2 m2 t3 m3 hn hn2 hp hnn (ord0 v2.hi) (by
    by_cases h:j2=0
    ·exact .inl (Int.compare_eq_eq.2 h)
    ·exact .inr (Int.compare_eq_gt.2 (by omega))) hmx (fun W=>revroot_any (max i2 0) n W (by omega) hn hn2 (.inr (by omega))) (fun W=>revroot_any j2 n W v2.hi hn hn2 (.inr (by omega)))
    (fun W=>twice_any i3 j3 _ _ _ _ W v3 (by omega) (by omega) (by omega) (by omega) (by omega) c1' c2' c3')
 ·rw [if_neg (by omega),if_neg (by omega)]
  exact pown_odd n _ _ _ _ _ _ _ _ _ _ _ _ _ _ _ _ w t2 m2 t3 m3 hn hn2 hp hnn (fun W=>revroot_any i2 n W v2.lo hn hn2 (.inl hp)) (fun W=>revroot_any j2 n W v2.hi hn hn2 (.inl hp))
   (fun W=>rcut2_any false i3 j3 _ _ _ _ W v3.lo v3.hi (rti_rng (.inl rfl) v2.lo hn hn2) (rti_rng (.inr rfl) v2.lo hn hn2) (rti_rng (.inl rfl) v2.hi hn hn2) (rti_rng (.inr rfl) v2.hi hn hn2))
theorem sqrrev_any(c1 c2 x y:Nat)(w:World)(hc1:L64 c1)(hc2:L64 c2)(hx:L64 x)(hy:L64 y):
  Rt 14 #[Zf c1 c2,Zf x y] (Zf (pat (pwr 2 (rd c1 c2).1 (rd c1 c2).2 (rd x y).1 (rd x y).2).1) (pat (pwr 2 (rd c1 c2).1 (rd c1 c2).2 (rd x y).1 (rd x y).2).2)) w:=
 sqr_walk _ _ _ _ _ _ w (fun W=>pown_any 2 c1 c2 x y W (by omega) (by omega) hc1 hc2 hx hy)
section
attribute [local go_sem] run_store_float run_negf
theorem sqrt_none(b1 b2 c1 c2 A1 A2 x1 x2:Nat)(d1 d2:Bool)(w:World)(t1:∀ W,Rt 102 #[Zf b1 b2] (Zf A1 A2) W)(m1:Em d1 A1 A2)(t2:∀ W,Rt 102 #[Zf c1 c2] (Zf x1 x2) W)(m2:Em d2 x1 x2)(hnn:(d1 || d2)=true):
  Rt 17 #[Zf b1 b2,Zf c1 c2] (Zf 9218868437227405312 18442240474082181120) w:=by
 have HE:=Hd emptyf;have HRD:=readL32 w (Zv 0 0) 28 t1 m1 t2 m2 hnn;clear t1 m1 t2 m2 hnn
 go_enter func17,ntmps17
 go_wp2_with fail;refine HRD.out.mono ?_;rintro e wk ⟨rfl,hl⟩;have LL:=Hd hl;clear hl HRD;go_wp2_with fail;refine cx (HE.out _) fun wk hb=>?_;replace LL:=stL LL hb;clear hb;replace LL:=Hd (LL.out.loose2 rfl);obtain⟨ha4_0,hf4_0,ha4_1,hf4_1⟩:=(LL.out.has 0 rfl).sf2;have LF:=Hd (LL.out.wr [.float .f64 9218868437227405312,.float .f64 18442240474082181120]);obtain⟨hk4_0,hk4_1⟩:=(LF.out.blk 2 rfl).c2
 simp [sets] at hk4_0 hk4_1
 clear LL;go_wp2;refine bodyPost_ret (v:=Zf 9218868437227405312 18442240474082181120) (by simp [results,results17,go_sem,hk4_0,hk4_1]) rfl ?_
 exact⟨rfl,LF.out.b⟩
theorem sqrt_neg(b1 b2 c1 c2 A1 A2 x1 x2:Nat)(d1 d2:Bool)(w:World)(t1:∀ W,Rt 102 #[Zf b1 b2] (Zf A1 A2) W)(m1:Em d1 A1 A2)(t2:∀ W,Rt 102 #[Zf c1 c2] (Zf x1 x2) W)(m2:Em d2 x1 x2)(hnn:(d1 || d2)=false)(ho:FloatKind.f64.format.order A2 0=some .lt):
  Rt 17 #[Zf b1 b2,Zf c1 c2] (Zf 9218868437227405312 18442240474082181120) w:=by
 have HE:=Hd emptyf;have HRD:=readL32 w (Zv 0 0) 28 t1 m1 t2 m2 hnn;clear t1 m1 t2 m2 hnn
 go_enter func17,ntmps17
 go_wp2_with fail;refine HRD.out.mono ?_;rintro e wk ⟨rfl,hl⟩;have LL:=Hd hl;clear hl HRD;obtain⟨q1_0,q1_1⟩:=(LL.out.blk 0 rfl).c2;go_wp2_with fail;refine cx (HE.out _) fun wk hb=>?_;replace LL:=stL LL hb;clear hb q1_0 q1_1 ho;replace LL:=Hd (LL.out.loose2 rfl);obtain⟨ha4_0,hf4_0,ha4_1,hf4_1⟩:=(LL.out.has 0 rfl).sf2;have LF:=Hd (LL.out.wr [.float .f64 9218868437227405312,.float .f64 18442240474082181120]);obtain⟨hk4_0,hk4_1⟩:=(LF.out.blk 2 rfl).c2
 simp [sets] at hk4_0 hk4_1
 clear LL;go_wp2;refine bodyPost_ret (v:=Zf 9218868437227405312 18442240474082181120) (by simp [results,results17,go_sem,hk4_0,hk4_1]) rfl ?_
 exact⟨rfl,LF.out.b⟩
theorem sqrt_some(b1 b2 c1 c2 A1 A2 x1 x2 mx p1 p2 q1 q2 r1 r2:Nat)(o:Ordering)(d1 d2:Bool)(w:World)(t1:∀ W,Rt 102 #[Zf b1 b2] (Zf A1 A2) W)(m1:Em d1 A1 A2)(t2:∀ W,Rt 102 #[Zf c1 c2] (Zf x1 x2) W)(m2:Em d2 x1 x2)(hnn:(d1 || d2)=false)(ho:FloatKind.f64.format.order A2 0=some o)(hoo:o=.eq\/o=.gt)
  (hmx:∀ W ts t,(Builtin.max_ ts t (Zv A1 0)).run prog W=.ok (.float .f64 mx) W)(h1:∀ W,Calls prog 78 (Zv mx mx) W fun e w'=>e=.returned (Zf p1 p2)/\Below W.heap.size W w')(h2:∀ W,Calls prog 78 (Zv A2 A2) W fun e w'=>e=.returned (Zf q1 q2)/\Below W.heap.size W w')(ht:∀ W,Rt 77 #[Zf x1 x2,Zf p1 p2,Zf q1 q2,.bool false] (Zf r1 r2) W):
  Rt 17 #[Zf b1 b2,Zf c1 c2] (Zf r1 r2) w:=by
 have H1:=Hd h1;have H2:=Hd h2;have HT:=Hd ht;clear h1 h2 ht
 rcases hoo with rfl | rfl
 all_goals
  have HRD:=readL32 w (Zv 0 0) 28 t1 m1 t2 m2 hnn;clear t1 m1 t2 m2 hnn
  go_enter func17,ntmps17
  go_wp2_with fail;refine HRD.out.mono ?_;rintro e wk ⟨rfl,hl⟩;have LL:=Hd hl;clear hl HRD;obtain⟨q1_0,q1_1⟩:=(LL.out.blk 0 rfl).c2
  go_upto_region 4 with fail
  clear ho q1_0 q1_1;replace LL:=Hd (LL.out.loose2 rfl);refine regL LL (fun hHeld=>?_);clear LL;generalize World.drew _=wk at hHeld  ⊢;refine tkb 0 (fun _ h=>(h.blk 1 rfl).c2) ?_;refine tks 1 ?_;refine tks 2 ?_;refine tks 4 ?_;refine tkb 5 (fun _ h=>(h.blk 0 rfl).c2) ?_;refine tks 6 ?_;refine tkb 7 (fun _ h=>(h.blk 0 rfl).c2) ?_;refine rcs 3 (H1.out _) ?_;clear hHeld;intro wk hb1 hHeld;clear hb1;refine rcs 8 (H2.out _) ?_;clear hHeld;intro wk hb2 hHeld;clear hb2;refine rcs 9 (HT.out _) ?_;clear hHeld;intro wk hb3 hHeld;clear hb3;refine rdy 10 fun KK hKK=>?_;obtain⟨ha0,hf0,ha1,hf1⟩:=(hHeld.has 0 rfl).sf2;go_simp;have HS_0:=(hHeld.has 0 rfl).laid [.float .f64 r1,.float .f64 r2] rfl;refine hKK.out _ _ (hHeld.over 0 rfl [.float .f64 r1,.float .f64 r2] rfl rfl (by first | omega | exact hHeld.le_of 0 rfl) (by simp<;>omega) (by simp<;>omega)) (fun _=>?_);clear hKK KK hHeld;rename_i hHeld;(try simp only [Act.put,lay]);refine wpAnyH_done (by kernel_rfl) ?_ _;have LB:=Hd hHeld.b;clear hHeld;obtain⟨hk4_0,hk4_1⟩:=HS_0.c2;clear HS_0
  simp [sets] at hk4_0 hk4_1
  go_wp2;refine bodyPost_ret (v:=Zf r1 r2) (by simp [results,results17,go_sem,hk4_0,hk4_1]) rfl ?_
  exact⟨rfl,LB.out⟩
def sq(d i:Int):Int:=if i=0 then 0 else mu d i i
theorem mul_nought(d:Int)(w:World)(hd:d=-1\/d=1):Rt 119 #[.int .i64 d,.float .f64 0,.float .f64 0] (.float .f64 0) w:=by
 have h:=rmul_exact d 0 0 0 w hd (by decide) (by decide) (by decide) (by decide) (by kernel_rfl) (by decide) (by decide) (by decide)
 have e:rndI d (fl (idx 0)*fl (idx 0))=0:=by
  rw [show idx 0=0 from by decide,fl_zero,show (0:Rat)*0=0 from by grind];exact rndI_zero hd
 rw [e,pat_zero] at h
 exact h
theorem sq_any(i:Int)(w:World)(hi:0<=i/\i<=M):Calls prog 78 (Zv (pat i) (pat i)) w fun e w'=>e=.returned (Zf (pat (sq (-1) i)) (pat (sq 1 i)))/\Below w.heap.size w w':=by
 have hM:=M_val;unfold sq
 by_cases h:i=0
 ·subst h;rw [if_pos rfl,if_pos rfl,pat_zero]
  exact product_walk _ _ _ _ w (fun W=>mul_nought (-1) W (.inl rfl)) (fun W=>mul_nought 1 W (.inr rfl))
 ·rw [if_neg h,if_neg h]
  exact product_walk _ _ _ _ w (fun W=>rmul_pat (-1) i i W (.inl rfl) (by omega) (by omega) h h) (fun W=>rmul_pat 1 i i W (.inr rfl) (by omega) (by omega) h h)
theorem sq_rng{d i:Int}(hd:d=-1\/d=1)(hi:0<=i/\i<=M):-(M:Int)<=sq d i/\sq d i<=M:=by
 have hM:=M_val;unfold sq mu;have a:=rndI_down (fl i*fl i);have b:=rndI_up (fl i*fl i)
 split
 ·omega
 ·split
  ·split<;>omega
  ·rcases hd with rfl | rfl<;>omega
def sqt(i2 j2 i j:Int):Int × Int:=
 if j2<i2\/j<i\/j2<0 then ((M:Int),-(M:Int)) else ctO false i j (sq (-1) (max i2 0)) (sq 1 (max i2 0)) (sq (-1) j2) (sq 1 j2)
theorem sqrtrev_any(c1 c2 x y:Nat)(w:World)(hc1:L64 c1)(hc2:L64 c2)(hx:L64 x)(hy:L64 y):
  Rt 17 #[Zf c1 c2,Zf x y] (Zf (pat (sqt (rd c1 c2).1 (rd c1 c2).2 (rd x y).1 (rd x y).2).1) (pat (sqt (rd c1 c2).1 (rd c1 c2).2 (rd x y).1 (rd x y).2).2)) w:=by
 have hM:=M_val;have v2:=rd_iv c1 c2;have v3:=rd_iv x y;have t2:=fun W=>readf c1 c2 W hc1 hc2;have t3:=fun W=>readf x y W hx hy
 obtain⟨⟨i2,j2⟩,r2⟩:∃ z,rd c1 c2=z:=⟨_,rfl⟩
 obtain⟨⟨i3,j3⟩,r3⟩:∃ z,rd x y=z:=⟨_,rfl⟩
 rw [r2] at v2 t2;rw [r3] at v3 t3;rw [r2,r3]
 dsimp only at *
 have m2:=em_idx v2;have m3:=em_idx v3;unfold sqt
 by_cases hno:j2<i2\/j3<i3
 ·rw [if_pos (by omega),pat_max,pat_min]
  exact sqrt_none _ _ _ _ _ _ _ _ _ _ w t2 m2 t3 m3 (by simp;omega)
 have hnn:(decide (j2<i2) || decide (j3<i3))=false:=by simp;omega
 have k2:=ne_or v2 (by omega);unfold Ne at k2
 by_cases h0:j2<0
 ·rw [if_pos (by omega),pat_max,pat_min]
  exact sqrt_neg _ _ _ _ _ _ _ _ _ _ w t2 m2 t3 m3 hnn (ord0_lt v2.hi h0)
 ·rw [if_neg (by omega)];have hmx:=fun W ts t=>run_maxf v2.lo (show -(M:Int)<=0/\(0:Int)<=M by omega) W ts t;rw [pat_zero] at hmx
  exact sqrt_some _ _ _ _ _ _ _ _ _ _ _ _ _ _ _ (compare j2 0) _ _ w t2 m2 t3 m3 hnn (ord0 v2.hi) (by
   by_cases h:j2=0
   ·exact .inl (Int.compare_eq_eq.2 h)
   ·exact .inr (Int.compare_eq_gt.2 (by omega))) hmx (fun W=>sq_any (max i2 0) W (by omega)) (fun W=>sq_any j2 W (by omega))
   (fun W=>rcut2_any false i3 j3 _ _ _ _ W v3.lo v3.hi (sq_rng (.inl rfl) (by omega)) (sq_rng (.inr rfl) (by omega)) (sq_rng (.inl rfl) (by omega)) (sq_rng (.inr rfl) (by omega)))
end
def Tab(w:World):Prop:=∀ j,j<32->w.cell? ⟨1,j,none⟩=some (.int .u8 (Lib.deBruijn32tab.getD j 0))
theorem Tab.below{w w':World}(h:Tab w)(hb:Below w.heap.size w w'):Tab w':=fun j hj=>by
 have h1:=h j hj;have h2:=h 0 (by omega)
 have hlt:1<w.heap.size:=by
  rcases Nat.lt_or_ge 1 w.heap.size with c | c
  ·exact c
  ·have e:w.heap[1]?=none:=Array.getElem?_eq_none c;unfold World.cell? at h1;rw [e] at h1
   simp at h1
 exact (hb.cell (p:=⟨1,j,none⟩) hlt).trans h1
theorem Tab.drew{w:World}(h:Tab w):Tab w.drew:=h.below (Below.refl _ _).drew
theorem and_u32_nat(a b:Nat)(ha:a<4294967296)(hb:b<4294967296):bits .and .u32 (a:Int) (b:Int)=((a &&& b:Nat):Int):=u32_and_nat a b ha hb
theorem tz_any(x:Nat)(w:World)(hx:x<4294967296)(h0:x≠0)(hT:Tab w):
  Calls prog 277 #[.int .u32 (x:Int)] w fun e w'=>e=.returned (.int .i64 (Lib.ctz 32 x:Int))/\w=w':=by
 obtain⟨hlow,hk⟩:=Lib.lowest_bit 32 x h0 hx;obtain⟨hi,htab⟩:=Lib.deBruijn32_at _ hk;have hcell:=hT _ hi;rw [htab] at hcell
 obtain⟨k,hk2⟩:∃ k,Lib.ctz 32 x=k:=⟨_,rfl⟩
 obtain⟨idx,hidx⟩:∃ i,2 ^ Lib.ctz 32 x*125613361 % 4294967296 / 134217728=i:=⟨_,rfl⟩
 have key:bits BinOp.and IntKind.u32 (x:Int) (-(x:Int) % 4294967296)*125613361 % 4294967296 / 134217728=(idx:Int):=by
  have e1:-(x:Int) % 4294967296=((4294967296 - x:Nat):Int):=by omega
  rw [e1,and_u32_nat x _ hx (by omega),show (4294967296:Nat) - x=2^32 - x from rfl,hlow,<- hidx];generalize 2 ^ Lib.ctz 32 x=P
  omega
 rw [hidx] at hcell hi;rw [hk2] at hcell hk ⊢
 have hx0:((x:Int) == 0)=false:=by simp;omega
 clear hlow htab hT hk2 hidx h0
 go_enter func277,ntmps277
 go_wp2_with (simp only [key])
 go_ret
 exact⟨rfl,rfl⟩
theorem ctz_dvd(x:Nat)(h0:x≠0)(hx:x<4294967296):2 ^ Lib.ctz 32 x ∣ x/\Lib.ctz 32 x<32:=by
 refine⟨?_,(Lib.lowest_bit 32 x h0 hx).2⟩;unfold Lib.ctz;rw [if_neg h0];obtain⟨m,hm,-⟩:=Lib.ctzFrom_spec 32 x (by omega) hx
 exact⟨2*m+1,hm⟩
theorem nzeros_one(A:Option Addr)(n c x:Nat)(xs:List Nat)(w:World)(hu:U32s w A n c (x :: xs))(h0:x≠0)(hT:Tab w):
  Calls prog 274 #[.slice A n c] w fun e w'=>e=.returned (.int .i64 (Lib.ctz 32 x:Int))/\w=w':=by
 have hx:x<4294967296:=hu.w32 x (by simp)
 have hn:n=xs.length+1:=by have:=hu.len;simp at this;omega
 obtain⟨ad,rfl,hlt,hc⟩:=hu.at_ (by omega);have c0:=hc 0 (by omega)
 simp only [List.getElem?_cons_zero,Option.getD_some] at c0
 rw [show ad.add 0=ad from by simp [Addr.add]] at c0
 have hnn:0<(n:Int):=by omega
 have hx0:((x:Int) == 0)=false:=by simp;omega
 have H:=Hd (tz_any x w hx h0 hT);have hk:=(Lib.lowest_bit 32 x h0 hx).2
 obtain⟨k,hk2⟩:∃ k,Lib.ctz 32 x=k:=⟨_,rfl⟩
 rw [hk2] at H hk ⊢;clear hc hu hT hk2 h0 hn hlt
 go_enter func274,ntmps274
 go_wp2_with fail;refine wp_loop_rounds 1 ?_;rw [rounds_succ];go_wp2_with fail;refine H.out.mono ?_;rintro e w' ⟨rfl,rfl⟩;go_wp2
 go_ret
 exact⟨rfl,rfl⟩
theorem nzeros_two(A:Option Addr)(n c y:Nat)(xs:List Nat)(w:World)(hu:U32s w A n c (0 :: y :: xs))(h0:y≠0)(hT:Tab w):
  Calls prog 274 #[.slice A n c] w fun e w'=>e=.returned (.int .i64 ((32+Lib.ctz 32 y:Nat):Int))/\w=w':=by
 have hx:y<4294967296:=hu.w32 y (by simp)
 have hn:n=xs.length+2:=by have:=hu.len;simp at this;omega
 have hcap:=hu.cap;obtain⟨ad,rfl,hlt,hc⟩:=hu.at_ (by omega);have c0:=hc 0 (by omega);have c1:=hc 1 (by omega)
 simp only [List.getElem?_cons_zero,Option.getD_some] at c0
 simp only [List.getElem?_cons_succ,List.getElem?_cons_zero,Option.getD_some] at c1
 rw [show ad.add 0=ad from by simp [Addr.add]] at c0
 simp [Addr.add] at c1
 have hnn:0<(n:Int):=by omega
 have hn1:1<(n:Int):=by omega
 have hx0:((y:Int) == 0)=false:=by simp;omega
 have H:=Hd (tz_any y w hx h0 hT);have hk:=(Lib.lowest_bit 32 y h0 hx).2
 obtain⟨k,hk2⟩:∃ k,Lib.ctz 32 y=k:=⟨_,rfl⟩
 rw [hk2] at H hk ⊢;clear hc hu hT hk2 h0 hn hlt
 go_enter func274,ntmps274
 go_wp2_with fail;refine wp_loop_rounds 2 ?_;rw [rounds_succ];go_wp2_with fail;rw [rounds_succ];go_wp2_with fail;refine H.out.mono ?_;rintro e w' ⟨rfl,rfl⟩;go_wp2
 go_ret
 exact⟨rfl,rfl⟩
theorem nzeros_any(A:Option Addr)(n c S:Nat)(w:World)(hu:U32s w A n c (digs S))(hS:0<S)(h:L64 S)(hT:Tab w):
  Calls prog 274 #[.slice A n c] w fun e w'=>(∃ z:Nat,e=.returned (.int .i64 (z:Int))/\z<64/\2^z ∣ S)/\w=w':=by
 have hd:digs S=S % 4294967296 :: digs (S / 4294967296):=digs_pos (by omega)
 by_cases c0:S % 4294967296=0
 ·have hd2:digs (S / 4294967296)=S / 4294967296 % 4294967296 :: digs (S / 4294967296 / 4294967296):=digs_pos (by omega);rw [hd,hd2,c0] at hu
  have e:S / 4294967296 % 4294967296=S / 4294967296:=by omega
  rw [e] at hu;obtain⟨a,b⟩:=ctz_dvd (S / 4294967296) (by omega) (by omega)
  refine (nzeros_two A n c _ _ w hu (by omega) hT).mono fun e w' ⟨h1,h2⟩=>⟨⟨_,h1,by omega,?_⟩,h2⟩
  rw [Nat.pow_add];obtain⟨q,hq⟩:=a;refine⟨q,?_⟩;rw [Nat.mul_assoc,<- hq,show (2:Nat)^32=4294967296 by decide];omega
 ·rw [hd] at hu;obtain⟨a,b⟩:=ctz_dvd (S % 4294967296) c0 (by omega)
  refine (nzeros_one A n c _ _ w hu c0 hT).mono fun e w' ⟨h1,h2⟩=>⟨⟨_,h1,by omega,?_⟩,h2⟩
  have h3:2 ^ Lib.ctz 32 (S % 4294967296) ∣ 4294967296:=by
   rw [show (4294967296:Nat)=2^32 by decide];exact Nat.pow_dvd_pow 2 (by rw [show (2:Nat)^32=4294967296 by decide];omega)
  have h4:=Nat.dvd_add (Nat.dvd_trans h3 (Nat.dvd_mul_right 4294967296 (S / 4294967296))) a
  rwa [Nat.div_add_mod] at h4
end Go.Proofs.YthlmlmfebpjgdaaGreatDoor
