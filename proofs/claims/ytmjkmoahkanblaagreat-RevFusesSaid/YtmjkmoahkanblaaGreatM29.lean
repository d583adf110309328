/-
Walks: package vergeref10, against.
Walks: package vergeref10, Within of pieces whose bounds are numbers or infinities.
Walks: package vergeref10, Within, whatever the bounds are: by how the ends lie to them.
-/
import Derived.Test.YtmjkmoahkanblaaGreatM04
import Derived.Test.YtmjkmoahkanblaaGreatPPairT
import Derived.Test.YtmjkmoahkanblaaGreatPAddT
import Derived.Test.YtmjkmoahkanblaaGreatM09
set_option linter.unusedSimpArgs false
set_option linter.unusedVariables false
set_option maxHeartbeats 12800000
namespace Go.Proofs.YtmjkmoahkanblaaGreat
open Go.RowKit
theorem rc_neg(x y:Rat):rc (-x) (-y)=- rc x y:=by
 unfold rc
 by_cases h:x<y
 ·rw [if_neg (show ¬ -x < -y by grind),if_pos (show -y < -x by grind),if_pos h];rfl
 ·by_cases h2:y<x
  ·rw [if_pos (show -x < -y by grind),if_neg h,if_pos h2]
  ·rw [if_neg (show ¬ -x < -y by grind),if_neg (show ¬ -y < -x by grind),if_neg h,if_neg h2];rfl
theorem rc_range(x y:Rat):-1≤rc x y∧rc x y≤1:=by unfold rc;split<;>(try split)<;>omega
theorem rsg_range(x:Rat):-1≤rsg x∧rsg x≤1:=by unfold rsg;split<;>(try split)<;>omega
theorem rc_zero_zero:rc 0 0=0:=by decide
theorem rsg_zero_iff{x:Rat}:rsg x=0↔x=0:=by
 unfold rsg
 constructor
 ·intro h
  split at h
  ·assumption
  ·split at h<;>cases h
 ·rintro rfl;rfl
def SameSign(r c:Int):Prop:=(r<0↔c<0)∧(0<r↔0<c)
theorem SameSign.refl(c:Int):SameSign c c:=⟨Iff.rfl,Iff.rfl⟩
theorem same_diff{x y:Rat}(h:rsg x≠rsg y):SameSign (rsg x - rsg y) (rc x y):=by
 rcases Int.lt_trichotomy (rsg x) (rsg y) with h1 | h1 | h1
 ·rw [rc_below h1];unfold SameSign;omega
 ·exact absurd h1 h
 ·rw [rc_above h1];unfold SameSign;omega
def Ag(w:World)(c:Int)(e:Ending)(w':World):Prop:=∃ r:Int,e=.returned (.int .i64 r)∧SameSign r c∧Below w.heap.size w w'
theorem against_inf(K:Nat)(i:Int)(s1:Int)(g1:Bool)(A1:Option Addr)(n1 c1:Nat)(B1:Option Addr)(m1 d1:Nat)(x1:Rat)(o1:Bool)(w:World)(hi:i=M∨i=-(M:Int))(h1:RatV w K g1 (.slice A1 n1 c1) (.slice B1 m1 d1) x1)(hK:34≤K)(hK2:K≤1048576):
  Calls Tryz.prog 157 #[.int .u64 (pat i:Int),.agg #[.int .i64 s1,.bool g1,.slice A1 n1 c1,.slice B1 m1 d1,.int .i64 1,.bool o1]] w (Ag w (ec (es i) (ex i) s1 x1)):=by
 have hM:M=9218868437227405312:=rfl;have hr:=rung_pat (i:=i) (by omega) (by omega);have hpl:=pat_lt (i:=i) (by omega) (by omega);have HI:=Hd fun W=>isinf_any (pat i) W hpl;have HB:=Hd fun W=>bound_raw (pat i) W hpl (by rw [hr];omega);rw [idx_pat (by omega) (by omega)] at HB;rw [hr,show decide (i.natAbs=M)=true from by simp;omega] at HI;have HC:=Hd fun W (g:Bool) (A:Option Addr) (n c:Nat) (B:Option Addr) (m d:Nat) (hW:Below w.heap.size w W) (h:RatV W 34 g (.slice A n c) (.slice B m d) (ex i))=>ecmp_any K (es i) g A n c B m d (ex i) s1 g1 A1 n1 c1 B1 m1 d1 x1 W (h.mono hK) (h1.below hW) (by omega)
 obtain⟨P,hP⟩:∃ P,pat i=P:=⟨_,rfl⟩
 rw [hP] at HI HB hpl ⊢
 obtain⟨s0,e1⟩:∃ s,es i=s:=⟨_,rfl⟩
 obtain⟨x0,e2⟩:∃ s,ex i=s:=⟨_,rfl⟩
 rw [e1,e2] at HB HC ⊢
 obtain⟨r,hr⟩:∃ r,ec s0 x0 s1 x1=r:=⟨_,rfl⟩
 rw [hr] at HC ⊢;clear hi hM hP e1 e2 hr h1 hpl hK hK2;obtain⟨LB0,LG0_0⟩:=bx1 w #[.int .i64 s1,.bool g1,.slice A1 n1 c1,.slice B1 m1 d1,.int .i64 1,.bool o1] 62
 go_enter Tryz.func157,Tryz.ntmps157
 go_wp2_with fail;refine (HI.out _).mono ?_;rintro e w1 ⟨rfl,k,rfl⟩;have LB1:=Hd (below_drewN LB0.out k);have LG0_1:=Hd (LG0_0.out.drewN k);clear LB0 LG0_0;have q0_0:=LG0_1.out.ce 0 rfl
 go_upto_region 2 with fail
 clear q0_0;refine wp_region_held_drew (S:=fun W'=>Blk W' w.heap.size 62 #[.int .i64 s1,.bool g1,.slice A1 n1 c1,.slice B1 m1 d1,.int .i64 1,.bool o1]∧Below w.heap.size w W') (by kernel_rfl) (by exact⟨LG0_1.out.drew,LB1.out.drew⟩) (fun hHeld=>?_);refine tk 0 ?_;(try simp only [Act.put,lay]);refine tk 2 ?_;(try simp only [Act.put,lay]);refine tk 3 ?_ (hv:=by intro W2 hSw;obtain⟨q0,q1,q2,q3,q4,q5⟩:=hSw.1.c6;go_simp;(try with_reducible rfl));(try simp only [Act.put,lay]);refine tk 4 ?_;(try simp only [Act.put,lay]);refine tk 5 ?_ (hv:=by intro W2 hSw;obtain⟨q0,q1,q2,q3,q4,q5⟩:=hSw.1.c6;go_simp;(try with_reducible rfl));(try simp only [Act.put,lay]);refine tk 6 ?_;(try simp only [Act.put,lay]);refine rdy 1 (fun KK hKK=>?_);go_simp;refine (HB.out _).mono ?_;rintro e w2 ⟨g2,A2,n2,c2,B2,m2,d2,rfl,h2,hb2⟩;go_wp2_with fail;refine hKK.out _ _ (⟨hHeld.1.keep hb2,hHeld.2.trans (hb2.mono hHeld.2.size)⟩) (fun _=>?_);clear hKK KK hHeld;rename_i hHeld;(try simp only [Act.put,lay]);refine rdy 7 (fun KK hKK=>?_);go_simp;refine (HC.out _ g2 A2 n2 c2 B2 m2 d2 hHeld.2 h2).mono ?_;rintro e w3 ⟨rfl,hb3⟩;go_wp2_with fail;refine hKK.out _ _ (⟨hHeld.1.keep hb3,hHeld.2.trans (hb3.mono hHeld.2.size)⟩) (fun _=>?_);clear hKK KK hHeld;rename_i hHeld;(try simp only [Act.put,lay]);refine tk 8 ?_;(try simp only [Act.put,lay]);refine wpAnyH_done (by kernel_rfl) ?_ _;have LB3:=Hd hHeld.2;clear hHeld hb2 hb3 h2 LB1 LG0_1 HB HC HI;go_wp2
 go_ret
 exact⟨r,rfl,SameSign.refl r,LB3.out⟩
theorem against_far(K:Nat)(i:Int)(s1:Int)(g1:Bool)(A1:Option Addr)(n1 c1:Nat)(B1:Option Addr)(m1 d1:Nat)(x1:Rat)(o1:Bool)(w:World)(hi:-(M:Int)<i∧i<M)(hs:s1≠0)(h1:RatV w K g1 (.slice A1 n1 c1) (.slice B1 m1 d1) x1)(hK:34≤K)(hK2:K≤1048576):
  Calls Tryz.prog 157 #[.int .u64 (pat i:Int),.agg #[.int .i64 s1,.bool g1,.slice A1 n1 c1,.slice B1 m1 d1,.int .i64 1,.bool o1]] w (Ag w (ec (es i) (ex i) s1 x1)):=by
 have hM:M=9218868437227405312:=rfl;have hr:=rung_pat (i:=i) (by omega) (by omega);have hpl:=pat_lt (i:=i) (by omega) (by omega);have HI:=Hd fun W=>isinf_any (pat i) W hpl;have HB:=Hd fun W=>bound_raw (pat i) W hpl (by rw [hr];omega);rw [idx_pat (by omega) (by omega)] at HB;rw [hr,show decide (i.natAbs=M)=false from by simp;omega] at HI;have HC:=Hd fun W (g:Bool) (A:Option Addr) (n c:Nat) (B:Option Addr) (m d:Nat) (hW:Below w.heap.size w W) (h:RatV W 34 g (.slice A n c) (.slice B m d) (ex i))=>ecmp_any K (es i) g A n c B m d (ex i) s1 g1 A1 n1 c1 B1 m1 d1 x1 W (h.mono hK) (h1.below hW) (by omega)
 obtain⟨P,hP⟩:∃ P,pat i=P:=⟨_,rfl⟩
 rw [hP] at HI HB hpl ⊢
 obtain⟨s0,e1⟩:∃ s,es i=s:=⟨_,rfl⟩
 obtain⟨x0,e2⟩:∃ s,ex i=s:=⟨_,rfl⟩
 rw [e1,e2] at HB HC ⊢
 obtain⟨r,hr⟩:∃ r,ec s0 x0 s1 x1=r:=⟨_,rfl⟩
 rw [hr] at HC ⊢
 have hq:(s1 == 0)=false:=by simp;omega
 clear hi hM hP e1 e2 hr h1 hpl hK hK2;obtain⟨LB0,LG0_0⟩:=bx1 w #[.int .i64 s1,.bool g1,.slice A1 n1 c1,.slice B1 m1 d1,.int .i64 1,.bool o1] 62
 go_enter Tryz.func157,Tryz.ntmps157
 go_wp2_with fail;refine (HI.out _).mono ?_;rintro e w1 ⟨rfl,k,rfl⟩;have LB1:=Hd (below_drewN LB0.out k);have LG0_1:=Hd (LG0_0.out.drewN k);clear LB0 LG0_0;have q0_0:=LG0_1.out.ce 0 rfl
 go_upto_region 2 with fail
 clear q0_0;refine wp_region_held_drew (S:=fun W'=>Blk W' w.heap.size 62 #[.int .i64 s1,.bool g1,.slice A1 n1 c1,.slice B1 m1 d1,.int .i64 1,.bool o1]∧Below w.heap.size w W') (by kernel_rfl) (by exact⟨LG0_1.out.drew,LB1.out.drew⟩) (fun hHeld=>?_);refine tk 0 ?_;(try simp only [Act.put,lay]);refine tk 2 ?_;(try simp only [Act.put,lay]);refine tk 3 ?_ (hv:=by intro W2 hSw;obtain⟨q0,q1,q2,q3,q4,q5⟩:=hSw.1.c6;go_simp;(try with_reducible rfl));(try simp only [Act.put,lay]);refine tk 4 ?_;(try simp only [Act.put,lay]);refine tk 5 ?_ (hv:=by intro W2 hSw;obtain⟨q0,q1,q2,q3,q4,q5⟩:=hSw.1.c6;go_simp;(try with_reducible rfl));(try simp only [Act.put,lay]);refine tk 6 ?_;(try simp only [Act.put,lay]);refine rdy 1 (fun KK hKK=>?_);go_simp;refine (HB.out _).mono ?_;rintro e w2 ⟨g2,A2,n2,c2,B2,m2,d2,rfl,h2,hb2⟩;go_wp2_with fail;refine hKK.out _ _ (⟨hHeld.1.keep hb2,hHeld.2.trans (hb2.mono hHeld.2.size)⟩) (fun _=>?_);clear hKK KK hHeld;rename_i hHeld;(try simp only [Act.put,lay]);refine rdy 7 (fun KK hKK=>?_);go_simp;refine (HC.out _ g2 A2 n2 c2 B2 m2 d2 hHeld.2 h2).mono ?_;rintro e w3 ⟨rfl,hb3⟩;go_wp2_with fail;refine hKK.out _ _ (⟨hHeld.1.keep hb3,hHeld.2.trans (hb3.mono hHeld.2.size)⟩) (fun _=>?_);clear hKK KK hHeld;rename_i hHeld;(try simp only [Act.put,lay]);refine tk 8 ?_;(try simp only [Act.put,lay]);refine wpAnyH_done (by kernel_rfl) ?_ _;have LB3:=Hd hHeld.2;clear hHeld hb2 hb3 h2 LB1 LG0_1 HB HC HI;go_wp2
 go_ret
 exact⟨r,rfl,SameSign.refl r,LB3.out⟩
set_option maxRecDepth 2000 in
theorem against_fin(K:Nat)(i:Int)(g1:Bool)(A1:Option Addr)(n1 c1:Nat)(B1:Option Addr)(m1 d1:Nat)(x1:Rat)(o1:Bool)(w:World)(hi:-(M:Int)<i∧i<M)(h1:RatV w K g1 (.slice A1 n1 c1) (.slice B1 m1 d1) x1)(hK:34≤K)(hK2:K≤1048576):
  Calls Tryz.prog 157 #[.int .u64 (pat i:Int),.agg #[.int .i64 0,.bool g1,.slice A1 n1 c1,.slice B1 m1 d1,.int .i64 1,.bool o1]] w (Ag w (rc (fl i) x1)):=by
 have hM:M=9218868437227405312:=rfl;have hr:=rung_pat (i:=i) (by omega) (by omega);have hpl:=pat_lt (i:=i) (by omega) (by omega);have HI:=Hd fun W=>isinf_any (pat i) W hpl;have HF:=Hd fun W=>(frombits_any (pat i) W hpl (by show rungOf _<M;rw [hr];omega)).mono fun _ _ h=>h.s;rw [idx_pat (by omega) (by omega)] at HF;rw [hr,show decide (i.natAbs=M)=false from by simp;omega] at HI;have HZ:=Hd (size_i hpl);rw [hr] at HZ;have HS1:=Hd fun W (g:Bool) (A:Option Addr) (n c:Nat) (B:Option Addr) (m d:Nat) (h:RatV W 34 g (.slice A n c) (.slice B m d) (fl i))=>rsign_any 34 g _ _ (fl i) W h (by omega);have HS2:=Hd fun W (hW:Below w.heap.size w W)=>rsign_any K g1 _ _ x1 W (h1.below hW) (by omega);have hs1:=rsg_range (fl i);have hs2:=rsg_range x1
 have HPW:∀ W,Below w.heap.size w W→rsg (fl i)=rsg x1→rsg (fl i)≠0→Calls Tryz.prog 214 #[.int .u64 (i.natAbs:Int),.int .i64 1,.agg #[.bool false,.slice A1 n1 c1,.slice B1 m1 d1]] W fun e w'=>∃ r:Int,e=.returned (.int .i64 r)∧-1≤r∧r≤1∧rsg (fl i)*r=rc (fl i) x1∧Below W.heap.size W w':=by
  intro W hW he h0;obtain⟨p,q,A,n,c,B,m,d,e1,e2,hu,hv,hq,hp0,hpK,hqK,rfl⟩:=h1
  cases e1;cases e2
  have hp:0<p:=by
   rcases Nat.eq_zero_or_pos p with h | h
   ·subst h;rw [rv_zero] at he;exact absurd (he.trans (rsg_zero_iff.2 rfl)) h0
   ·exact h
  have hi0:i≠0:=by rintro rfl;rw [fl_zero] at h0;exact h0 (rsg_zero_iff.2 rfl)
  refine (power_fin K i.natAbs A1 B1 n1 c1 m1 d1 p q W (by omega) (by omega) (hu.below hW) (hv.below hW) hp hq hpK hqK hK2).mono ?_;rintro e w' ⟨rfl,hb⟩;refine⟨_,rfl,(rc_range _ _).1,(rc_range _ _).2,?_,hb⟩;rw [rsg_rv hq hp0,if_neg (by omega)] at he
  rcases Int.lt_or_le i 0 with h | h
  ·have hneg:fl i<0:=by rw [← fl_zero];exact fl_lt_iff.2 h
   have hr1:rsg (fl i)=-1:=by unfold rsg;rw [if_neg (by grind),if_pos hneg]
   rw [hr1] at he ⊢
   have hg:g1=true:=by
    cases g1
    ·simp at he
    ·rfl
   subst hg;rw [rv_true,show i=-((i.natAbs:Nat):Int) from by omega,fl_neg,rc_neg,Int.natAbs_neg,Int.natAbs_natCast]
   omega
  ·have hpos:0<fl i:=by rw [← fl_zero];exact fl_lt_iff.2 (by omega)
   have hr1:rsg (fl i)=1:=by unfold rsg;rw [if_neg (by grind),if_neg (by grind)]
   rw [hr1] at he ⊢
   have hg:g1=false:=by
    cases g1
    ·rfl
    ·simp at he
   subst hg;rw [show i=((i.natAbs:Nat):Int) from by omega,Int.natAbs_natCast,Int.one_mul]
 have HD:=Hd (same_diff (x:=fl i) (y:=x1))
 have HZZ:rsg (fl i)=0→rsg x1=0→rc (fl i) x1=0:=by
  intro a b;rw [rsg_zero_iff.1 a,rsg_zero_iff.1 b];exact rc_zero_zero
 obtain⟨P,hP⟩:∃ P,pat i=P:=⟨_,rfl⟩
 rw [hP] at HI HF HZ ⊢
 obtain⟨N,hN⟩:∃ N,i.natAbs=N:=⟨_,rfl⟩
 rw [hN] at HZ HPW
 obtain⟨z,hz⟩:∃ z,fl i=z:=⟨_,rfl⟩
 rw [hz] at HF HS1 HPW HD HZZ hs1 ⊢
 obtain⟨s,hs⟩:∃ s,rsg z=s:=⟨_,rfl⟩
 obtain⟨t,ht⟩:∃ t,rsg x1=t:=⟨_,rfl⟩
 obtain⟨r,hr⟩:∃ r,rc z x1=r:=⟨_,rfl⟩
 rw [hs] at HS1 hs1 HPW HD HZZ;rw [ht] at HS2 hs2 HPW HD HZZ;rw [hr] at HPW HD HZZ ⊢;have HPW:=Hd HPW;have HZZ:=Hd HZZ;have zz:=HZ.out;clear hi hM hP hz hN hs ht hr h1 hpl hK hK2 HZ
 by_cases hst:s=t
 ·subst hst
  by_cases h0:s=0
  ·subst h0;have hr0:=HZZ.out rfl rfl;obtain⟨LB0,LG0_0⟩:=bx1 w #[.int .i64 0,.bool g1,.slice A1 n1 c1,.slice B1 m1 d1,.int .i64 1,.bool o1] 62
   go_enter Tryz.func157,Tryz.ntmps157
   go_wp2_with fail;refine (HI.out _).mono ?_;rintro e w1 ⟨rfl,k,rfl⟩;have LB1:=Hd (below_drewN LB0.out k);have LG0_1:=Hd (LG0_0.out.drewN k);clear LB0 LG0_0;go_wp2_with fail;refine (HF.out _).mono ?_;rintro e w2 ⟨g2,A2,n2,c2,B2,m2,d2,rfl,h2,hb2⟩;have LB2:=stB LB1 hb2 LB1.out.size;have LG0_2:=stG LG0_1 hb2;clear LB1 LG0_1
   go_upto_region 4 with fail
   have h3:=h2.below (below_alloc w2 (.cells #[.bool g2,.slice A2 n2 c2,.slice B2 m2 d2] 60));have LB3:=Hd (LB2.out.alloc LB2.out.size (.cells #[.bool g2,.slice A2 n2 c2,.slice B2 m2 d2] 60));have LG0_3:=Hd (LG0_2.out.alloc (.cells #[.bool g2,.slice A2 n2 c2,.slice B2 m2 d2] 60));have LG1_3:=Hd (Blk.new w2 60 #[.bool g2,.slice A2 n2 c2,.slice B2 m2 d2]);clear LB2 LG0_2;rw [show w2.heap.size=w2.heap.size from rfl]
   obtain⟨V3,hV3⟩:∃ X,w2.alloc (.cells #[.bool g2,.slice A2 n2 c2,.slice B2 m2 d2] 60)=X:=⟨_,rfl⟩
   rw [hV3] at LB3 LG0_3 LG1_3 h3 ⊢;clear hV3 h2 hb2;obtain⟨q1_0,q1_1,q1_2⟩:=LG1_3.out.c3;go_wp2_with fail;refine (HS1.out V3 g2 A2 n2 c2 B2 m2 d2 h3).mono ?_;rintro e w4 ⟨rfl,hb4⟩;have LB4:=stB LB3 hb4 LB3.out.size;have LG0_4:=stG LG0_3 hb4;have LG1_4:=stG LG1_3 hb4;clear LB3 LG0_3 LG1_3;clear h3 hb4 q1_0 q1_1 q1_2;obtain⟨q0_0,q0_1,q0_2,q0_3,q0_4,q0_5⟩:=LG0_4.out.c6;go_wp2_with fail;refine (HS2.out _ LB4.out).mono ?_;rintro e w5 ⟨rfl,hb5⟩;have LB5:=stB LB4 hb5 LB4.out.size;have LG0_5:=stG LG0_4 hb5;have LG1_5:=stG LG1_4 hb5;clear LB4 LG0_4 LG1_4;clear hb5 q0_0 q0_1 q0_2 q0_3 q0_4 q0_5;go_wp2
   go_ret
   exact⟨0,rfl,by rw [hr0];exact SameSign.refl 0,LB5.out⟩
  ·have hq:(s == 0)=false:=by simp;omega
   have hs3:s=-1∨s=1:=by omega
   clear h0
   rcases hs3 with rfl | rfl
   all_goals
    obtain⟨LB0,LG0_0⟩:=bx1 w #[.int .i64 0,.bool g1,.slice A1 n1 c1,.slice B1 m1 d1,.int .i64 1,.bool o1] 62
    go_enter Tryz.func157,Tryz.ntmps157
    go_wp2_with fail;refine (HI.out _).mono ?_;rintro e w1 ⟨rfl,k,rfl⟩;have LB1:=Hd (below_drewN LB0.out k);have LG0_1:=Hd (LG0_0.out.drewN k);clear LB0 LG0_0;go_wp2_with fail;refine (HF.out _).mono ?_;rintro e w2 ⟨g2,A2,n2,c2,B2,m2,d2,rfl,h2,hb2⟩;have LB2:=stB LB1 hb2 LB1.out.size;have LG0_2:=stG LG0_1 hb2;clear LB1 LG0_1
    go_upto_region 4 with fail
    have h3:=h2.below (below_alloc w2 (.cells #[.bool g2,.slice A2 n2 c2,.slice B2 m2 d2] 60));have LB3:=Hd (LB2.out.alloc LB2.out.size (.cells #[.bool g2,.slice A2 n2 c2,.slice B2 m2 d2] 60));have LG0_3:=Hd (LG0_2.out.alloc (.cells #[.bool g2,.slice A2 n2 c2,.slice B2 m2 d2] 60));have LG1_3:=Hd (Blk.new w2 60 #[.bool g2,.slice A2 n2 c2,.slice B2 m2 d2]);clear LB2 LG0_2;rw [show w2.heap.size=w2.heap.size from rfl]
    obtain⟨V3,hV3⟩:∃ X,w2.alloc (.cells #[.bool g2,.slice A2 n2 c2,.slice B2 m2 d2] 60)=X:=⟨_,rfl⟩
    rw [hV3] at LB3 LG0_3 LG1_3 h3 ⊢;clear hV3 h2 hb2;obtain⟨q1_0,q1_1,q1_2⟩:=LG1_3.out.c3;go_wp2_with fail;refine (HS1.out V3 g2 A2 n2 c2 B2 m2 d2 h3).mono ?_;rintro e w4 ⟨rfl,hb4⟩;have LB4:=stB LB3 hb4 LB3.out.size;have LG0_4:=stG LG0_3 hb4;have LG1_4:=stG LG1_3 hb4;clear LB3 LG0_3 LG1_3;clear h3 hb4 q1_0 q1_1 q1_2;obtain⟨q0_0,q0_1,q0_2,q0_3,q0_4,q0_5⟩:=LG0_4.out.c6;go_wp2_with fail;refine (HS2.out _ LB4.out).mono ?_;rintro e w5 ⟨rfl,hb5⟩;have LB5:=stB LB4 hb5 LB4.out.size;have LG0_5:=stG LG0_4 hb5;have LG1_5:=stG LG1_4 hb5;clear LB4 LG0_4 LG1_4;clear hb5 q0_0 q0_1 q0_2 q0_3 q0_4 q0_5;obtain⟨q0_0,q0_1,q0_2,q0_3,q0_4,q0_5⟩:=LG0_5.out.c6
    go_upto_region 10 with fail
    clear q0_0 q0_1 q0_2 q0_3 q0_4 q0_5;have LB6:=Hd (LB5.out.alloc LB5.out.size (.cells #[.bool false,.slice A1 n1 c1,.slice B1 m1 d1] 60));have LG0_6:=Hd (LG0_5.out.alloc (.cells #[.bool false,.slice A1 n1 c1,.slice B1 m1 d1] 60));have LG1_6:=Hd (LG1_5.out.alloc (.cells #[.bool false,.slice A1 n1 c1,.slice B1 m1 d1] 60));have LG2_6:=Hd (Blk.new w5 60 #[.bool false,.slice A1 n1 c1,.slice B1 m1 d1]);clear LB5 LG0_5 LG1_5
    obtain⟨V6,hV6⟩:∃ X,(w5.alloc (.cells #[.bool false,.slice A1 n1 c1,.slice B1 m1 d1] 60))=X:=⟨_,rfl⟩
    rw [hV6] at LB6 LG0_6 LG1_6 LG2_6 ⊢;clear hV6;have q0_4:=LG0_6.out.ce 4 rfl;obtain⟨q2_0,q2_1,q2_2⟩:=LG2_6.out.c3;go_wp2_with fail;refine (HPW.out _ LB6.out trivial (by decide)).mono ?_;rintro e w6 ⟨r0,rfl,hr1,hr2,hr3,hb6⟩;have LBF:=Hd (LB6.out.trans (hb6.mono LB6.out.size));have HR3:=Hd hr3;clear hb6 hr3 q0_4 q2_0 q2_1 q2_2;go_wp2
    go_ret
    exact⟨_,rfl,by rw [← HR3.out];exact⟨by omega,by omega⟩,LBF.out⟩
 ·have hq:(s == t)=false:=by simp;omega
  have HDD:=Hd (HD.out hst);clear hst;obtain⟨LB0,LG0_0⟩:=bx1 w #[.int .i64 0,.bool g1,.slice A1 n1 c1,.slice B1 m1 d1,.int .i64 1,.bool o1] 62
  go_enter Tryz.func157,Tryz.ntmps157
  go_wp2_with fail;refine (HI.out _).mono ?_;rintro e w1 ⟨rfl,k,rfl⟩;have LB1:=Hd (below_drewN LB0.out k);have LG0_1:=Hd (LG0_0.out.drewN k);clear LB0 LG0_0;go_wp2_with fail;refine (HF.out _).mono ?_;rintro e w2 ⟨g2,A2,n2,c2,B2,m2,d2,rfl,h2,hb2⟩;have LB2:=stB LB1 hb2 LB1.out.size;have LG0_2:=stG LG0_1 hb2;clear LB1 LG0_1
  go_upto_region 4 with fail
  have h3:=h2.below (below_alloc w2 (.cells #[.bool g2,.slice A2 n2 c2,.slice B2 m2 d2] 60));have LB3:=Hd (LB2.out.alloc LB2.out.size (.cells #[.bool g2,.slice A2 n2 c2,.slice B2 m2 d2] 60));have LG0_3:=Hd (LG0_2.out.alloc (.cells #[.bool g2,.slice A2 n2 c2,.slice B2 m2 d2] 60));have LG1_3:=Hd (Blk.new w2 60 #[.bool g2,.slice A2 n2 c2,.slice B2 m2 d2]);clear LB2 LG0_2;rw [show w2.heap.size=w2.heap.size from rfl]
  obtain⟨V3,hV3⟩:∃ X,w2.alloc (.cells #[.bool g2,.slice A2 n2 c2,.slice B2 m2 d2] 60)=X:=⟨_,rfl⟩
  rw [hV3] at LB3 LG0_3 LG1_3 h3 ⊢;clear hV3 h2 hb2;obtain⟨q1_0,q1_1,q1_2⟩:=LG1_3.out.c3;go_wp2_with fail;refine (HS1.out V3 g2 A2 n2 c2 B2 m2 d2 h3).mono ?_;rintro e w4 ⟨rfl,hb4⟩;have LB4:=stB LB3 hb4 LB3.out.size;have LG0_4:=stG LG0_3 hb4;have LG1_4:=stG LG1_3 hb4;clear LB3 LG0_3 LG1_3;clear h3 hb4 q1_0 q1_1 q1_2;obtain⟨q0_0,q0_1,q0_2,q0_3,q0_4,q0_5⟩:=LG0_4.out.c6;go_wp2_with fail;refine (HS2.out _ LB4.out).mono ?_;rintro e w5 ⟨rfl,hb5⟩;have LB5:=stB LB4 hb5 LB4.out.size;have LG0_5:=stG LG0_4 hb5;have LG1_5:=stG LG1_4 hb5;clear LB4 LG0_4 LG1_4;clear hb5 q0_0 q0_1 q0_2 q0_3 q0_4 q0_5;go_wp2
  go_ret
  exact⟨_,rfl,HDD.out,LB5.out⟩
theorem ec_idx{i b:Int}(h1:-(M:Int)≤i)(h2:i≤M)(h3:-(M:Int)≤b)(h4:b≤M):SameSign (ec (es i) (ex i) (es b) (ex b)) (i - b):=by
 have hM:M=9218868437227405312:=rfl
 have ei:es i=if i=M then 1 else if i=-(M:Int) then -1 else 0:=rfl
 have eb:es b=if b=M then 1 else if b=-(M:Int) then -1 else 0:=rfl
 rcases Int.lt_trichotomy (es i) (es b) with h | h | h
 ·rw [ec_lt _ _ h];rw [ei,eb] at h;unfold SameSign
  split at h<;>split at h<;>(try split at h)<;>(try split at h)<;>omega
 ·by_cases h0:es i=0
  ·have h0':es b=0:=by omega
   rw [h0,h0',ec_zero,ex_zero h0,ex_zero h0'];unfold rc SameSign
   by_cases hc:i<b
   ·rw [if_pos (fl_lt_iff.2 hc)];omega
   ·rw [if_neg (fun h=>hc (fl_lt_iff.1 h))]
    by_cases hd:b<i
    ·rw [if_pos (fl_lt_iff.2 hd)];omega
    ·rw [if_neg (fun h=>hd (fl_lt_iff.1 h))];omega
  ·rw [ec_inf _ _ h h0];rw [ei,eb] at h;rw [ei] at h0;unfold SameSign
   split at h0<;>(try split at h0)<;>split at h<;>(try split at h)<;>(try split at h)<;>(try split at h)<;>omega
 ·rw [ec_gt _ _ h];rw [ei,eb] at h;unfold SameSign
  split at h<;>split at h<;>(try split at h)<;>(try split at h)<;>omega
theorem SameSign.trans{a b c:Int}(h:SameSign a b)(h':SameSign b c):SameSign a c:=⟨h.1.trans h'.1,h.2.trans h'.2⟩
theorem Ag.trans{w w':World}{a b:Int}{e:Ending}(h:Ag w a e w')(h':SameSign a b):Ag w b e w':=by
 obtain⟨r,h1,h2,h3⟩:=h
 exact⟨r,h1,h2.trans h',h3⟩
theorem rounded10(K:Nat)(g1:Bool)(A1:Option Addr)(n1 c1:Nat)(B1:Option Addr)(m1 d1:Nat)(s1:Int)(x1:Rat)(o1:Bool)(dd:Int)(w:World)(h1:RatV w K g1 (.slice A1 n1 c1) (.slice B1 m1 d1) x1)(hK:K≤1048576)(hd:dd=-1∨dd=1):
  Calls Tryz.prog 158 #[.int .i64 dd,.agg #[.int .i64 s1,.bool g1,.slice A1 n1 c1,.slice B1 m1 d1,.int .i64 1,.bool o1]] w (IsRnd w dd x1):=by
 have HB:=Hd fun W (hW:Below w.heap.size w W)=>bits_any K g1 A1 B1 n1 c1 m1 d1 x1 dd W (h1.below hW) hK hd;clear h1 hd;obtain⟨LB0,LG0_0⟩:=bx1 w #[.int .i64 s1,.bool g1,.slice A1 n1 c1,.slice B1 m1 d1,.int .i64 1,.bool o1] 62
 go_enter Tryz.func158,Tryz.ntmps158
 go_wp2_with fail;refine (HB.out _ LB0.out).mono ?_;rintro e w1 ⟨i,rfl,hr,hb1⟩;have LB1:=stB LB0 hb1 LB0.out.size;have LG0_1:=stG LG0_0 hb1;clear LB0 LG0_0;have HR:=Hd hr;clear hr hb1;go_wp2
 go_ret
 exact⟨i,rfl,HR.out,LB1.out⟩
theorem within_none(s1:Int)(g1:Bool)(A1:Option Addr)(n1 c1:Nat)(B1:Option Addr)(m1 d1:Nat)(x1:Rat)(s2:Int)(g2:Bool)(A2:Option Addr)(n2 c2:Nat)(B2:Option Addr)(m2 d2:Nat)(x2:Rat)(o1 o2:Bool)(w:World):
  Calls Tryz.prog 88 #[.agg #[.int .u64 9218868437227405312,.int .u64 18442240474082181120],.agg #[.bool false,.int .i64 s1,.bool g1,.slice A1 n1 c1,.slice B1 m1 d1,.int .i64 1,.bool o1,.int .i64 s2,.bool g2,.slice A2 n2 c2,.slice B2 m2 d2,.int .i64 1,.bool o2]] w fun e w'=>e=.returned (.agg #[.int .u64 9218868437227405312,.int .u64 18442240474082181120])∧Below w.heap.size w w':=by
 have HE:=Hd empty6;obtain⟨LB0,LG0_0,LG1_0,LR⟩:=bx3 w #[.int .u64 9218868437227405312,.int .u64 18442240474082181120] 24 #[.bool false,.int .i64 s1,.bool g1,.slice A1 n1 c1,.slice B1 m1 d1,.int .i64 1,.bool o1,.int .i64 s2,.bool g2,.slice A2 n2 c2,.slice B2 m2 d2,.int .i64 1,.bool o2] 64 #[.int .u64 0,.int .u64 0] 24;have LR0:=Hd (HasBlk.of (n:=2) LR.out rfl rfl);clear LR
 go_enter Tryz.func88,Tryz.ntmps88
 go_wp2_with fail;refine wp_region_held_drew (S:=fun W'=>Blk W' w.heap.size 24 #[.int .u64 9218868437227405312,.int .u64 18442240474082181120]∧Blk W' (w.heap.size+1) 64 #[.bool false,.int .i64 s1,.bool g1,.slice A1 n1 c1,.slice B1 m1 d1,.int .i64 1,.bool o1,.int .i64 s2,.bool g2,.slice A2 n2 c2,.slice B2 m2 d2,.int .i64 1,.bool o2]∧HasBlk W' (w.heap.size+2) 24 2∧Below w.heap.size w W') (by kernel_rfl) (by exact⟨LG0_0.out.drew,LG1_0.out.drew,LR0.out.drew,LB0.out.drew⟩) (fun hHeld=>?_);refine tk 0 ?_;(try simp only [Act.put,lay]);refine tk 1 ?_ (hv:=by intro W2 hSw;obtain⟨q0,q1,q2,q3,q4,q5,q6,q7,q8,q9,q10,q11,q12⟩:=hSw.2.1.c13;go_simp;(try with_reducible rfl));(try simp only [Act.put,lay]);refine tk 2 ?_;(try simp only [Act.put,lay]);refine tk 3 ?_ (hv:=by intro W2 hSw;obtain⟨q0,q1⟩:=hSw.1.c2;go_simp;(try with_reducible rfl));(try simp only [Act.put,lay]);refine rdy 4 (fun KK hKK=>?_);go_simp;refine (HE.out _).mono ?_;rintro e w1 ⟨rfl,hb1⟩;go_wp2_with fail;refine hKK.out _ _ (⟨hHeld.1.keep hb1,hHeld.2.1.keep hb1,hHeld.2.2.1.keep hb1,hHeld.2.2.2.trans (hb1.mono hHeld.2.2.2.size)⟩) (fun _=>?_);clear hKK KK hHeld;rename_i hHeld;(try simp only [Act.put,lay]);refine tk 5 ?_;(try simp only [Act.put,lay]);refine tk 6 ?_;(try simp only [Act.put,lay]);refine wpAnyH_done (by kernel_rfl) ?_ _;have LB1:=Hd hHeld.2.2.2;have LR1:=Hd hHeld.2.2.1;have LG0_1:=Hd hHeld.1;have LG1_1:=Hd hHeld.2.1;clear hHeld hb1 LB0 LR0 LG0_0 LG1_0;go_wp2_with fail;refine (HE.out _).mono ?_;rintro e w2 ⟨rfl,hb2⟩
 have LB2:=stB LB1 hb2 LB1.out.size;have LR2:=stR LR1 hb2;have LG0_2:=stG LG0_1 hb2;have LG1_2:=stG LG1_1 hb2;clear LB1 LR1 LG0_1 LG1_1;clear hb2;obtain⟨ha0,hf0,ha1,hf1⟩:=LR2.out.sf2;obtain⟨hk0,hk1⟩:=LR2.out.sc2 (.int .u64 9218868437227405312) (.int .u64 18442240474082181120);have F:=Hd (below_sets (w0:=w) (r:=(w.heap.size+2)) (by omega) [.int .u64 9218868437227405312,.int .u64 18442240474082181120] 0 _ LB2.out)
 simp [sets] at hk0 hk1
 go_wp2;refine bodyPost_ret (v:=.agg #[.int .u64 9218868437227405312,.int .u64 18442240474082181120]) (by simp [results,Tryz.results88,go_sem,hk0,hk1]) rfl ?_
 exact⟨rfl,F.out⟩
def wg(i j c1 c2 c3 c4 a b:Int)(o1 o2:Bool):Int × Int:=if 0<c1∨(c1=0∧o2=true)∨c2<0∨(c2=0∧o1=true) then ((M:Int),-(M:Int)) else (if c3<0 then a else i,if 0<c4 then b else j)
theorem within_nothing(i j:Int)(N1 N2:Int)(s1:Int)(g1:Bool)(A1:Option Addr)(n1 c1:Nat)(B1:Option Addr)(m1 d1:Nat)(x1:Rat)(s2:Int)(g2:Bool)(A2:Option Addr)(n2 c2:Nat)(B2:Option Addr)(m2 d2:Nat)(x2:Rat)(o1 o2:Bool)(w:World):
  Calls Tryz.prog 88 #[.agg #[.int .u64 (pat i:Int),.int .u64 (pat j:Int)],.agg #[.bool true,.int .i64 s1,.bool g1,.slice A1 n1 c1,.slice B1 m1 d1,.int .i64 N1,.bool o1,.int .i64 s2,.bool g2,.slice A2 n2 c2,.slice B2 m2 d2,.int .i64 N2,.bool o2]] w fun e w'=>e=.returned (.agg #[.int .u64 9218868437227405312,.int .u64 18442240474082181120])∧Below w.heap.size w w':=by
 have HE:=Hd empty6
 obtain⟨p,hpp⟩:∃ p,pat i=p:=⟨_,rfl⟩
 obtain⟨q,hqq⟩:∃ q,pat j=q:=⟨_,rfl⟩
 rw [hpp,hqq];clear hpp hqq;obtain⟨LB0,LG0_0,LG1_0,LR⟩:=bx3 w #[.int .u64 (p:Int),.int .u64 (q:Int)] 24 #[.bool true,.int .i64 s1,.bool g1,.slice A1 n1 c1,.slice B1 m1 d1,.int .i64 N1,.bool o1,.int .i64 s2,.bool g2,.slice A2 n2 c2,.slice B2 m2 d2,.int .i64 N2,.bool o2] 64 #[.int .u64 0,.int .u64 0] 24;have LR0:=Hd (HasBlk.of (n:=2) LR.out rfl rfl);clear LR
 go_enter Tryz.func88,Tryz.ntmps88
 go_wp2_with fail;refine wp_region_held_drew (S:=fun W'=>Blk W' w.heap.size 24 #[.int .u64 (p:Int),.int .u64 (q:Int)]∧Blk W' (w.heap.size+1) 64 #[.bool true,.int .i64 s1,.bool g1,.slice A1 n1 c1,.slice B1 m1 d1,.int .i64 N1,.bool o1,.int .i64 s2,.bool g2,.slice A2 n2 c2,.slice B2 m2 d2,.int .i64 N2,.bool o2]∧HasBlk W' (w.heap.size+2) 24 2∧Below w.heap.size w W') (by kernel_rfl) (by exact⟨LG0_0.out.drew,LG1_0.out.drew,LR0.out.drew,LB0.out.drew⟩) (fun hHeld=>?_);refine tk 0 ?_;(try simp only [Act.put,lay]);refine tk 1 ?_ (hv:=by intro W2 hSw;obtain⟨q0,q1,q2,q3,q4,q5,q6,q7,q8,q9,q10,q11,q12⟩:=hSw.2.1.c13;go_simp;(try with_reducible rfl));(try simp only [Act.put,lay]);refine tk 2 ?_;(try simp only [Act.put,lay]);refine tkn 3 ?_;(try simp only [Act.put,lay]);refine tkn 4 ?_;(try simp only [Act.put,lay]);refine tkn 5 ?_;(try simp only [Act.put,lay]);refine tk 6 ?_;(try simp only [Act.put,lay]);refine wpAnyH_done (by kernel_rfl) ?_ _;have LB1:=Hd hHeld.2.2.2;have LR1:=Hd hHeld.2.2.1;have LG0_1:=Hd hHeld.1;have LG1_1:=Hd hHeld.2.1;clear hHeld LB0 LR0 LG0_0 LG1_0;go_wp2_with fail;refine (HE.out _).mono ?_;rintro e w2 ⟨rfl,hb2⟩;have LB2:=stB LB1 hb2 LB1.out.size;have LR2:=stR LR1 hb2;have LG0_2:=stG LG0_1 hb2;have LG1_2:=stG LG1_1 hb2;clear LB1 LR1 LG0_1 LG1_1;clear hb2;obtain⟨ha0,hf0,ha1,hf1⟩:=LR2.out.sf2;obtain⟨hk0,hk1⟩:=LR2.out.sc2 (.int .u64 9218868437227405312) (.int .u64 18442240474082181120);have F:=Hd (below_sets (w0:=w) (r:=(w.heap.size+2)) (by omega) [.int .u64 9218868437227405312,.int .u64 18442240474082181120] 0 _ LB2.out)
 simp [sets] at hk0 hk1
 go_wp2;refine bodyPost_ret (v:=.agg #[.int .u64 9218868437227405312,.int .u64 18442240474082181120]) (by simp [results,Tryz.results88,go_sem,hk0,hk1]) rfl ?_
 exact⟨rfl,F.out⟩
theorem within_gen(i j:Int)(N1 N2:Int)(s1:Int)(g1:Bool)(A1:Option Addr)(n1 c1:Nat)(B1:Option Addr)(m1 d1:Nat)(x1:Rat)(s2:Int)(g2:Bool)(A2:Option Addr)(n2 c2:Nat)(B2:Option Addr)(m2 d2:Nat)(x2:Rat)(o1 o2:Bool)(c1' c2' c3' c4' a b:Int)(w:World)(hi:-(M:Int)≤i∧i<M)
  (t1:∀ W,Below w.heap.size w W→Calls Tryz.prog 157 #[.int .u64 (pat i:Int),.agg #[.int .i64 s2,.bool g2,.slice A2 n2 c2,.slice B2 m2 d2,.int .i64 N2,.bool o2]] W (Ag W c1'))
  (t2:∀ W,Below w.heap.size w W→Calls Tryz.prog 157 #[.int .u64 (pat j:Int),.agg #[.int .i64 s1,.bool g1,.slice A1 n1 c1,.slice B1 m1 d1,.int .i64 N1,.bool o1]] W (Ag W c2'))
  (t3:∀ W,Below w.heap.size w W→Calls Tryz.prog 157 #[.int .u64 (pat i:Int),.agg #[.int .i64 s1,.bool g1,.slice A1 n1 c1,.slice B1 m1 d1,.int .i64 N1,.bool o1]] W (Ag W c3'))
  (t4:∀ W,Below w.heap.size w W→Calls Tryz.prog 157 #[.int .u64 (pat j:Int),.agg #[.int .i64 s2,.bool g2,.slice A2 n2 c2,.slice B2 m2 d2,.int .i64 N2,.bool o2]] W (Ag W c4'))
  (t5:∀ W,Below w.heap.size w W→c3'<0→Calls Tryz.prog 158 #[.int .i64 (-1),.agg #[.int .i64 s1,.bool g1,.slice A1 n1 c1,.slice B1 m1 d1,.int .i64 N1,.bool o1]] W fun e w'=>e=.returned (.int .u64 (pat a:Int))∧Below W.heap.size W w')
  (t6:∀ W,Below w.heap.size w W→0<c4'→Calls Tryz.prog 158 #[.int .i64 1,.agg #[.int .i64 s2,.bool g2,.slice A2 n2 c2,.slice B2 m2 d2,.int .i64 N2,.bool o2]] W fun e w'=>e=.returned (.int .u64 (pat b:Int))∧Below W.heap.size W w'):
  Calls Tryz.prog 88 #[.agg #[.int .u64 (pat i:Int),.int .u64 (pat j:Int)],.agg #[.bool false,.int .i64 s1,.bool g1,.slice A1 n1 c1,.slice B1 m1 d1,.int .i64 N1,.bool o1,.int .i64 s2,.bool g2,.slice A2 n2 c2,.slice B2 m2 d2,.int .i64 N2,.bool o2]] w fun e w'=>e=.returned (.agg #[.int .u64 (pat (wg i j c1' c2' c3' c4' a b o1 o2).1:Int),.int .u64 (pat (wg i j c1' c2' c3' c4' a b o1 o2).2:Int)])∧Below w.heap.size w w':=by
 have HE:=Hd empty6;have T1:=Hd t1;have T2:=Hd t2;have T3:=Hd t3;have T4:=Hd t4;have T5:=Hd t5;have T6:=Hd t6;have hp:=pat_ne_max (i:=i) (by omega) (by omega)
 have HW:wg i j c1' c2' c3' c4' a b o1 o2=if 0<c1'∨(c1'=0∧o2=true)∨c2'<0∨(c2'=0∧o1=true) then ((M:Int),-(M:Int)) else (if c3'<0 then a else i,if 0<c4' then b else j):=rfl
 obtain⟨r,hr⟩:∃ r:Value,(.agg #[.int .u64 (pat (wg i j c1' c2' c3' c4' a b o1 o2).1:Int),.int .u64 (pat (wg i j c1' c2' c3' c4' a b o1 o2).2:Int)]:Value)=r:=⟨_,rfl⟩
 rw [hr];rw [HW] at hr
 obtain⟨p,hpp⟩:∃ p,pat i=p:=⟨_,rfl⟩
 obtain⟨q,hqq⟩:∃ q,pat j=q:=⟨_,rfl⟩
 obtain⟨k,hkk⟩:∃ p,pat a=p:=⟨_,rfl⟩
 obtain⟨l,hll⟩:∃ q,pat b=q:=⟨_,rfl⟩
 rw [hpp] at T1 T3 hp ⊢;rw [hqq] at T2 T4 ⊢;rw [hkk] at T5;rw [hll] at T6;have HR:=Hd hr;have HPP:=Hd hpp;have HQQ:=Hd hqq;have HKK:=Hd hkk;have HLL:=Hd hll;clear hr hpp hqq hkk hll t1 t2 t3 t4 t5 t6 HW hi;obtain⟨LB0,LG0_0,LG1_0,LR⟩:=bx3 w #[.int .u64 (p:Int),.int .u64 (q:Int)] 24 #[.bool false,.int .i64 s1,.bool g1,.slice A1 n1 c1,.slice B1 m1 d1,.int .i64 N1,.bool o1,.int .i64 s2,.bool g2,.slice A2 n2 c2,.slice B2 m2 d2,.int .i64 N2,.bool o2] 64 #[.int .u64 0,.int .u64 0] 24;have LR0:=Hd (HasBlk.of (n:=2) LR.out rfl rfl);clear LR
 go_enter Tryz.func88,Tryz.ntmps88
 go_wp2_with fail;refine wp_region_held_drew (S:=fun W'=>Blk W' w.heap.size 24 #[.int .u64 (p:Int),.int .u64 (q:Int)]∧Blk W' (w.heap.size+1) 64 #[.bool false,.int .i64 s1,.bool g1,.slice A1 n1 c1,.slice B1 m1 d1,.int .i64 N1,.bool o1,.int .i64 s2,.bool g2,.slice A2 n2 c2,.slice B2 m2 d2,.int .i64 N2,.bool o2]∧HasBlk W' (w.heap.size+2) 24 2∧Below w.heap.size w W') (by kernel_rfl) (by exact⟨LG0_0.out.drew,LG1_0.out.drew,LR0.out.drew,LB0.out.drew⟩) (fun hHeld=>?_);refine tk 0 ?_;(try simp only [Act.put,lay]);refine tk 1 ?_ (hv:=by intro W2 hSw;obtain⟨q0,q1,q2,q3,q4,q5,q6,q7,q8,q9,q10,q11,q12⟩:=hSw.2.1.c13;go_simp;(try with_reducible rfl));(try simp only [Act.put,lay]);refine tk 2 ?_;(try simp only [Act.put,lay]);refine tk 3 ?_ (hv:=by intro W2 hSw;obtain⟨q0,q1⟩:=hSw.1.c2;go_simp;(try with_reducible rfl));(try simp only [Act.put,lay]);refine rdy 4 (fun KK hKK=>?_);go_simp;refine (HE.out _).mono ?_;rintro e w1 ⟨rfl,hb1⟩;go_wp2_with fail;refine hKK.out _ _ (⟨hHeld.1.keep hb1,hHeld.2.1.keep hb1,hHeld.2.2.1.keep hb1,hHeld.2.2.2.trans (hb1.mono hHeld.2.2.2.size)⟩) (fun _=>?_);clear hKK KK hHeld;rename_i hHeld;(try simp only [Act.put,lay]);refine tk 5 ?_;(try simp only [Act.put,lay]);refine tk 6 ?_;(try simp only [Act.put,lay]);refine wpAnyH_done (by kernel_rfl) ?_ _;have LB1:=Hd hHeld.2.2.2;have LR1:=Hd hHeld.2.2.1;have LG0_1:=Hd hHeld.1;have LG1_1:=Hd hHeld.2.1;clear hHeld hb1 LB0 LR0 LG0_0 LG1_0;obtain⟨q0_0,q0_1⟩:=LG0_1.out.c2;obtain⟨q1_0,q1_1,q1_2,q1_3,q1_4,q1_5,q1_6,q1_7,q1_8,q1_9,q1_10,q1_11,q1_12⟩:=LG1_1.out.c13
 go_wp2_with fail;refine (T1.out _ LB1.out).mono ?_;rintro e w2 ⟨r1,rfl,hs1,hb2⟩;have LB2:=stB LB1 hb2 LB1.out.size;have LR2:=stR LR1 hb2;have LG0_2:=stG LG0_1 hb2;have LG1_2:=stG LG1_1 hb2;clear LB1 LR1 LG0_1 LG1_1;have S1:=Hd hs1;clear hs1 hb2 q0_0 q0_1 q1_0 q1_1 q1_2 q1_3 q1_4 q1_5 q1_6 q1_7 q1_8 q1_9 q1_10 q1_11 q1_12;obtain⟨q0_0,q0_1⟩:=LG0_2.out.c2;obtain⟨q1_0,q1_1,q1_2,q1_3,q1_4,q1_5,q1_6,q1_7,q1_8,q1_9,q1_10,q1_11,q1_12⟩:=LG1_2.out.c13;go_wp2_with fail;refine (T2.out _ LB2.out).mono ?_;rintro e w3 ⟨r2,rfl,hs2,hb3⟩;have LB3:=stB LB2 hb3 LB2.out.size;have LR3:=stR LR2 hb3;have LG0_3:=stG LG0_2 hb3;have LG1_3:=stG LG1_2 hb3;clear LB2 LR2 LG0_2 LG1_2;have S2:=Hd hs2;clear hs2 hb3 q0_0 q0_1 q1_0 q1_1 q1_2 q1_3 q1_4 q1_5 q1_6 q1_7 q1_8 q1_9 q1_10 q1_11 q1_12;have q1_6:=LG1_3.out.ce 6 rfl;have q1_12:=LG1_3.out.ce 12 rfl
 obtain⟨CC,hCC⟩:∃ x,decide (0<c1'∨(c1'=0∧o2=true)∨c2'<0∨(c2'=0∧o1=true))=x:=⟨_,rfl⟩
 go_upto_region 5 with fail
 go_cut [49] (fun s49 wx=>s49=.bool CC∧wx=w3)
 case first=>
  have hs1:=S1.out;have hs2:=S2.out;unfold SameSign at hs1 hs2
  rcases Int.lt_trichotomy 0 r1 with h | h | h
  ·have hc:CC=true:=by rw [← hCC];simp<;>omega
   subst hc
   have h3:decide (0<r1)=true:=by simp;exact h
   clear hs1 hs2 hCC h;go_wp2_with fail
   go_meet
   exact⟨rfl,rfl⟩
  ·subst h
   cases o2
   ·rcases Int.lt_trichotomy r2 0 with g | g | g
    ·have hc:CC=true:=by rw [← hCC];simp<;>omega
     subst hc
     have h5:decide (r2<0)=true:=by simp;exact g
     clear hs1 hs2 hCC  g;go_wp2_with fail
     go_meet
     exact⟨rfl,rfl⟩
    ·subst g
     cases o1
     ·have hc:CC=false:=by rw [← hCC];simp<;>omega
      subst hc;clear hs1 hs2 hCC;go_wp2_with fail
      go_meet
      exact⟨rfl,rfl⟩
     ·have hc:CC=true:=by rw [← hCC];simp<;>omega
      subst hc;clear hs1 hs2 hCC;go_wp2_with fail
      go_meet
      exact⟨rfl,rfl⟩
    ·have hc:CC=false:=by rw [← hCC];simp<;>omega
     subst hc
     have h5:decide (r2<0)=false:=by simp;omega
     have h6:(r2 == 0)=false:=by simp;omega
     clear hs1 hs2 hCC  g;go_wp2_with fail
     go_meet
     exact⟨rfl,rfl⟩
   ·have hc:CC=true:=by rw [← hCC];simp<;>omega
    subst hc;clear hs1 hs2 hCC;go_wp2_with fail
    go_meet
    exact⟨rfl,rfl⟩
  ·have h3:decide (0<r1)=false:=by simp;omega
   have h4:(r1 == 0)=false:=by simp;omega
   rcases Int.lt_trichotomy r2 0 with g | g | g
   ·have hc:CC=true:=by rw [← hCC];simp<;>omega
    subst hc
    have h5:decide (r2<0)=true:=by simp;exact g
    clear hs1 hs2 hCC h g;go_wp2_with fail
    go_meet
    exact⟨rfl,rfl⟩
   ·subst g
    cases o1
    ·have hc:CC=false:=by rw [← hCC];simp<;>omega
     subst hc;clear hs1 hs2 hCC h;go_wp2_with fail
     go_meet
     exact⟨rfl,rfl⟩
    ·have hc:CC=true:=by rw [← hCC];simp<;>omega
     subst hc;clear hs1 hs2 hCC h;go_wp2_with fail
     go_meet
     exact⟨rfl,rfl⟩
   ·have hc:CC=false:=by rw [← hCC];simp<;>omega
    subst hc
    have h5:decide (r2<0)=false:=by simp;omega
    have h6:(r2 == 0)=false:=by simp;omega
    clear hs1 hs2 hCC h g;go_wp2_with fail
    go_meet
    exact⟨rfl,rfl⟩
 case rest=>
 obtain⟨rfl,rfl⟩:=hcut;clear T1 T2 S1 S2;have hr:=HR.out;clear q1_6 q1_12
 cases CC
 ·have hcc:=of_decide_eq_false hCC;rw [if_neg hcc] at hr
  dsimp only at hr
  have HR:=Hd hr;clear hr hCC hcc;obtain⟨q0_0,q0_1⟩:=LG0_3.out.c2
  go_upto_region 8 with fail
  clear q0_0 q0_1;have hlt4:=LR3.out.lt;have LB4:=Hd (LB3.out.alloc LB3.out.size (.cells #[.int .u64 (p:Int),.int .u64 (q:Int)] 24));have LR4:=Hd (LR3.out.alloc (.cells #[.int .u64 (p:Int),.int .u64 (q:Int)] 24));have LG0_4:=Hd (LG0_3.out.alloc (.cells #[.int .u64 (p:Int),.int .u64 (q:Int)] 24));have LG1_4:=Hd (LG1_3.out.alloc (.cells #[.int .u64 (p:Int),.int .u64 (q:Int)] 24));have LG2_4:=Hd (Blk.new wc 24 #[.int .u64 (p:Int),.int .u64 (q:Int)]);clear LB3 LR3 LG0_3 LG1_3
  obtain⟨V4,hV4⟩:∃ X,(wc.alloc (.cells #[.int .u64 (p:Int),.int .u64 (q:Int)] 24))=X:=⟨_,rfl⟩
  rw [hV4] at LB4 LR4 LG0_4 LG1_4 LG2_4 ⊢;clear hV4;obtain⟨q0_0,q0_1⟩:=LG0_4.out.c2;obtain⟨q1_0,q1_1,q1_2,q1_3,q1_4,q1_5,q1_6,q1_7,q1_8,q1_9,q1_10,q1_11,q1_12⟩:=LG1_4.out.c13;go_wp2_with fail;refine (T3.out _ LB4.out).mono ?_;rintro e w5 ⟨r3,rfl,hs3,hb5⟩;have LB5:=stB LB4 hb5 LB4.out.size;have LR5:=stR LR4 hb5;have LG0_5:=stG LG0_4 hb5;have LG1_5:=stG LG1_4 hb5;have LG2_5:=stG LG2_4 hb5;clear LB4 LR4 LG0_4 LG1_4 LG2_4;unfold SameSign at hs3;clear hb5 q0_0 q0_1 q1_0 q1_1 q1_2 q1_3 q1_4 q1_5 q1_6 q1_7 q1_8 q1_9 q1_10 q1_11 q1_12
  by_cases hlo:c3'<0
  ·have hq3:r3<0:=by omega
   have MX:(if c3'<0 then a else i)=a:=by rw [if_pos hlo]
   clear hs3;obtain⟨q1_0,q1_1,q1_2,q1_3,q1_4,q1_5,q1_6,q1_7,q1_8,q1_9,q1_10,q1_11,q1_12⟩:=LG1_5.out.c13;go_wp2_with fail;refine (T5.out _ LB5.out hlo).mono ?_;rintro e w6 ⟨rfl,hb6⟩;have LB6:=stB LB5 hb6 LB5.out.size;have LR6:=stR LR5 hb6;have LG0_6:=stG LG0_5 hb6;have LG1_6:=stG LG1_5 hb6;have LG2_6:=stG LG2_5 hb6;clear LB5 LR5 LG0_5 LG1_5 LG2_5;clear hb6 hlo q1_0 q1_1 q1_2 q1_3 q1_4 q1_5 q1_6 q1_7 q1_8 q1_9 q1_10 q1_11 q1_12;have q2_0:=LG2_6.out.ce 0 rfl;have hf1:=LG2_6.out.frozen 0
   go_upto_region 10 with fail
   clear q2_0 hf1;have hlo2:=LR6.out.lt;have LB7:=Hd (LB6.out.setCell (p:=⟨wc.heap.size,0,none⟩) (show w.heap.size≤wc.heap.size by omega) (.int .u64 (k:Int)));have LR7:=Hd (show HasBlk (w6.setCell ⟨wc.heap.size,0,none⟩ (.int .u64 (k:Int))) (w.heap.size+2) 24 2 from LR6.out.other (by omega) 0 [.int .u64 (k:Int)]);have LG0_7:=Hd (show Blk (w6.setCell ⟨wc.heap.size,0,none⟩ (.int .u64 (k:Int))) w.heap.size 24 #[.int .u64 (p:Int),.int .u64 (q:Int)] from LG0_6.out.other (by omega) 0 [.int .u64 (k:Int)]);have LG1_7:=Hd (show Blk (w6.setCell ⟨wc.heap.size,0,none⟩ (.int .u64 (k:Int))) (w.heap.size+1) 64 #[.bool false,.int .i64 s1,.bool g1,.slice A1 n1 c1,.slice B1 m1 d1,.int .i64 N1,.bool o1,.int .i64 s2,.bool g2,.slice A2 n2 c2,.slice B2 m2 d2,.int .i64 N2,.bool o2] from LG1_6.out.other (by omega) 0 [.int .u64 (k:Int)]);have LG2_7:=Hd (LG2_6.out.set 0 (.int .u64 (k:Int)));clear LB6 LR6 LG0_6 LG1_6 LG2_6
   obtain⟨V6,hV6⟩:∃ X,w6.setCell ⟨wc.heap.size,0,none⟩ (.int .u64 (k:Int))=X:=⟨_,rfl⟩
   rw [hV6] at LB7 LR7 LG0_7 LG1_7 LG2_7 ⊢;clear hV6;obtain⟨q0_0,q0_1⟩:=LG0_7.out.c2;obtain⟨q1_0,q1_1,q1_2,q1_3,q1_4,q1_5,q1_6,q1_7,q1_8,q1_9,q1_10,q1_11,q1_12⟩:=LG1_7.out.c13;go_wp2_with fail;refine (T4.out _ LB7.out).mono ?_;rintro e w7 ⟨r4,rfl,hs4,hb7⟩;have LB8:=stB LB7 hb7 LB7.out.size;have LR8:=stR LR7 hb7;have LG0_8:=stG LG0_7 hb7;have LG1_8:=stG LG1_7 hb7;have LG2_8:=stG LG2_7 hb7;clear LB7 LR7 LG0_7 LG1_7 LG2_7;unfold SameSign at hs4;clear hb7 q0_0 q0_1 q1_0 q1_1 q1_2 q1_3 q1_4 q1_5 q1_6 q1_7 q1_8 q1_9 q1_10 q1_11 q1_12
   by_cases hhi:0<c4'
   ·have hq4:0<r4:=by omega
    have MN:(if 0<c4' then b else j)=b:=by rw [if_pos hhi]
    clear hs4;obtain⟨q1_0,q1_1,q1_2,q1_3,q1_4,q1_5,q1_6,q1_7,q1_8,q1_9,q1_10,q1_11,q1_12⟩:=LG1_8.out.c13;go_wp2_with fail;refine (T6.out _ LB8.out hhi).mono ?_;rintro e w8 ⟨rfl,hb8⟩;have LB9:=stB LB8 hb8 LB8.out.size;have LR9:=stR LR8 hb8;have LG0_9:=stG LG0_8 hb8;have LG1_9:=stG LG1_8 hb8;have LG2_9:=stG LG2_8 hb8;clear LB8 LR8 LG0_8 LG1_8 LG2_8;clear hb8 hhi q1_0 q1_1 q1_2 q1_3 q1_4 q1_5 q1_6 q1_7 q1_8 q1_9 q1_10 q1_11 q1_12;have q2_1:=LG2_9.out.ce 1 rfl;have hf1:=LG2_9.out.frozen 1
    go_upto_region 12 with fail
    clear q2_1 hf1;have LB10:=Hd (LB9.out.setCell (p:=⟨wc.heap.size,1,none⟩) (show w.heap.size≤wc.heap.size by omega) (.int .u64 (l:Int)));have LR10:=Hd (show HasBlk (w8.setCell ⟨wc.heap.size,1,none⟩ (.int .u64 (l:Int))) (w.heap.size+2) 24 2 from LR9.out.other (by omega) 1 [.int .u64 (l:Int)]);have LG0_10:=Hd (show Blk (w8.setCell ⟨wc.heap.size,1,none⟩ (.int .u64 (l:Int))) w.heap.size 24 #[.int .u64 (p:Int),.int .u64 (q:Int)] from LG0_9.out.other (by omega) 1 [.int .u64 (l:Int)]);have LG1_10:=Hd (show Blk (w8.setCell ⟨wc.heap.size,1,none⟩ (.int .u64 (l:Int))) (w.heap.size+1) 64 #[.bool false,.int .i64 s1,.bool g1,.slice A1 n1 c1,.slice B1 m1 d1,.int .i64 N1,.bool o1,.int .i64 s2,.bool g2,.slice A2 n2 c2,.slice B2 m2 d2,.int .i64 N2,.bool o2] from LG1_9.out.other (by omega) 1 [.int .u64 (l:Int)]);have LG2_10:=Hd (LG2_9.out.set 1 (.int .u64 (l:Int)));clear LB9 LR9 LG0_9 LG1_9 LG2_9
    obtain⟨V8,hV8⟩:∃ X,w8.setCell ⟨wc.heap.size,1,none⟩ (.int .u64 (l:Int))=X:=⟨_,rfl⟩
    rw [hV8] at LB10 LR10 LG0_10 LG1_10 LG2_10 ⊢;clear hV8;obtain⟨q2_0,q2_1⟩:=LG2_10.out.c2
    have HRV:r=.agg #[.int .u64 (k:Int),.int .u64 (l:Int)]:=by rw [← HR.out,MX,MN,HKK.out,HLL.out]
    obtain⟨ha0,hf0,ha1,hf1⟩:=LR10.out.sf2;obtain⟨hk0,hk1⟩:=LR10.out.sc2 (.int .u64 (k:Int)) (.int .u64 (l:Int));have F:=Hd (below_sets (w0:=w) (r:=(w.heap.size+2)) (by omega) [.int .u64 (k:Int),.int .u64 (l:Int)] 0 _ LB10.out)
    simp [sets] at hk0 hk1
    have HV:=Hd HRV;clear HRV T3 T4 T5 T6 HE MX MN;go_wp2;refine bodyPost_ret (v:=.agg #[.int .u64 (k:Int),.int .u64 (l:Int)]) (by simp [results,Tryz.results88,go_sem,hk0,hk1]) rfl ?_
    exact⟨by rw [HV.out],F.out⟩
   ·have hq4:¬ 0<r4:=by omega
    have MN:(if 0<c4' then b else j)=j:=by rw [if_neg hhi]
    clear hs4;clear hhi;obtain⟨q2_0,q2_1⟩:=LG2_8.out.c2
    have HRV:r=.agg #[.int .u64 (k:Int),.int .u64 (q:Int)]:=by rw [← HR.out,MX,MN,HKK.out,HQQ.out]
    obtain⟨ha0,hf0,ha1,hf1⟩:=LR8.out.sf2;obtain⟨hk0,hk1⟩:=LR8.out.sc2 (.int .u64 (k:Int)) (.int .u64 (q:Int));have F:=Hd (below_sets (w0:=w) (r:=(w.heap.size+2)) (by omega) [.int .u64 (k:Int),.int .u64 (q:Int)] 0 _ LB8.out)
    simp [sets] at hk0 hk1
    have HV:=Hd HRV;clear HRV T3 T4 T5 T6 HE MX MN;go_wp2;refine bodyPost_ret (v:=.agg #[.int .u64 (k:Int),.int .u64 (q:Int)]) (by simp [results,Tryz.results88,go_sem,hk0,hk1]) rfl ?_
    exact⟨by rw [HV.out],F.out⟩
  ·have hq3:¬ r3<0:=by omega
   have MX:(if c3'<0 then a else i)=i:=by rw [if_neg hlo]
   clear hs3;clear hlo;obtain⟨q0_0,q0_1⟩:=LG0_5.out.c2;obtain⟨q1_0,q1_1,q1_2,q1_3,q1_4,q1_5,q1_6,q1_7,q1_8,q1_9,q1_10,q1_11,q1_12⟩:=LG1_5.out.c13;go_wp2_with fail;refine (T4.out _ LB5.out).mono ?_;rintro e w7 ⟨r4,rfl,hs4,hb7⟩;have LB6:=stB LB5 hb7 LB5.out.size;have LR6:=stR LR5 hb7;have LG0_6:=stG LG0_5 hb7;have LG1_6:=stG LG1_5 hb7;have LG2_6:=stG LG2_5 hb7;clear LB5 LR5 LG0_5 LG1_5 LG2_5;unfold SameSign at hs4;clear hb7 q0_0 q0_1 q1_0 q1_1 q1_2 q1_3 q1_4 q1_5 q1_6 q1_7 q1_8 q1_9 q1_10 q1_11 q1_12
   by_cases hhi:0<c4'
   ·have hq4:0<r4:=by omega
    have MN:(if 0<c4' then b else j)=b:=by rw [if_pos hhi]
    clear hs4;obtain⟨q1_0,q1_1,q1_2,q1_3,q1_4,q1_5,q1_6,q1_7,q1_8,q1_9,q1_10,q1_11,q1_12⟩:=LG1_6.out.c13;go_wp2_with fail;refine (T6.out _ LB6.out hhi).mono ?_;rintro e w8 ⟨rfl,hb8⟩;have LB7:=stB LB6 hb8 LB6.out.size;have LR7:=stR LR6 hb8;have LG0_7:=stG LG0_6 hb8;have LG1_7:=stG LG1_6 hb8;have LG2_7:=stG LG2_6 hb8;clear LB6 LR6 LG0_6 LG1_6 LG2_6;clear hb8 hhi q1_0 q1_1 q1_2 q1_3 q1_4 q1_5 q1_6 q1_7 q1_8 q1_9 q1_10 q1_11 q1_12;have q2_1:=LG2_7.out.ce 1 rfl;have hf1:=LG2_7.out.frozen 1
    go_upto_region 12 with fail
    clear q2_1 hf1;have LB8:=Hd (LB7.out.setCell (p:=⟨wc.heap.size,1,none⟩) (show w.heap.size≤wc.heap.size by omega) (.int .u64 (l:Int)));have LR8:=Hd (show HasBlk (w8.setCell ⟨wc.heap.size,1,none⟩ (.int .u64 (l:Int))) (w.heap.size+2) 24 2 from LR7.out.other (by omega) 1 [.int .u64 (l:Int)]);have LG0_8:=Hd (show Blk (w8.setCell ⟨wc.heap.size,1,none⟩ (.int .u64 (l:Int))) w.heap.size 24 #[.int .u64 (p:Int),.int .u64 (q:Int)] from LG0_7.out.other (by omega) 1 [.int .u64 (l:Int)]);have LG1_8:=Hd (show Blk (w8.setCell ⟨wc.heap.size,1,none⟩ (.int .u64 (l:Int))) (w.heap.size+1) 64 #[.bool false,.int .i64 s1,.bool g1,.slice A1 n1 c1,.slice B1 m1 d1,.int .i64 N1,.bool o1,.int .i64 s2,.bool g2,.slice A2 n2 c2,.slice B2 m2 d2,.int .i64 N2,.bool o2] from LG1_7.out.other (by omega) 1 [.int .u64 (l:Int)]);have LG2_8:=Hd (LG2_7.out.set 1 (.int .u64 (l:Int)));clear LB7 LR7 LG0_7 LG1_7 LG2_7
    obtain⟨V8,hV8⟩:∃ X,w8.setCell ⟨wc.heap.size,1,none⟩ (.int .u64 (l:Int))=X:=⟨_,rfl⟩
    rw [hV8] at LB8 LR8 LG0_8 LG1_8 LG2_8 ⊢;clear hV8;obtain⟨q2_0,q2_1⟩:=LG2_8.out.c2
    have HRV:r=.agg #[.int .u64 (p:Int),.int .u64 (l:Int)]:=by rw [← HR.out,MX,MN,HPP.out,HLL.out]
    obtain⟨ha0,hf0,ha1,hf1⟩:=LR8.out.sf2;obtain⟨hk0,hk1⟩:=LR8.out.sc2 (.int .u64 (p:Int)) (.int .u64 (l:Int));have F:=Hd (below_sets (w0:=w) (r:=(w.heap.size+2)) (by omega) [.int .u64 (p:Int),.int .u64 (l:Int)] 0 _ LB8.out)
    simp [sets] at hk0 hk1
    have HV:=Hd HRV;clear HRV T3 T4 T5 T6 HE MX MN;go_wp2;refine bodyPost_ret (v:=.agg #[.int .u64 (p:Int),.int .u64 (l:Int)]) (by simp [results,Tryz.results88,go_sem,hk0,hk1]) rfl ?_
    exact⟨by rw [HV.out],F.out⟩
   ·have hq4:¬ 0<r4:=by omega
    have MN:(if 0<c4' then b else j)=j:=by rw [if_neg hhi]
    clear hs4;clear hhi;obtain⟨q2_0,q2_1⟩:=LG2_6.out.c2
    have HRV:r=.agg #[.int .u64 (p:Int),.int .u64 (q:Int)]:=by rw [← HR.out,MX,MN,HPP.out,HQQ.out]
    obtain⟨ha0,hf0,ha1,hf1⟩:=LR6.out.sf2;obtain⟨hk0,hk1⟩:=LR6.out.sc2 (.int .u64 (p:Int)) (.int .u64 (q:Int));have F:=Hd (below_sets (w0:=w) (r:=(w.heap.size+2)) (by omega) [.int .u64 (p:Int),.int .u64 (q:Int)] 0 _ LB6.out)
    simp [sets] at hk0 hk1
    have HV:=Hd HRV;clear HRV T3 T4 T5 T6 HE MX MN;go_wp2;refine bodyPost_ret (v:=.agg #[.int .u64 (p:Int),.int .u64 (q:Int)]) (by simp [results,Tryz.results88,go_sem,hk0,hk1]) rfl ?_
    exact⟨by rw [HV.out],F.out⟩
 ·have hcc:=of_decide_eq_true hCC;rw [if_pos hcc] at hr
  simp only [pat_max,pat_min] at hr
  have HR:=Hd hr;clear hr hCC hcc;go_wp2_with fail;refine (HE.out _).mono ?_;rintro e w4 ⟨rfl,hb4⟩;have LB4:=stB LB3 hb4 LB3.out.size;have LR4:=stR LR3 hb4;have LG0_4:=stG LG0_3 hb4;have LG1_4:=stG LG1_3 hb4;clear LB3 LR3 LG0_3 LG1_3;obtain⟨ha0,hf0,ha1,hf1⟩:=LR4.out.sf2;obtain⟨hk0,hk1⟩:=LR4.out.sc2 (.int .u64 9218868437227405312) (.int .u64 18442240474082181120);have F:=Hd (below_sets (w0:=w) (r:=(w.heap.size+2)) (by omega) [.int .u64 9218868437227405312,.int .u64 18442240474082181120] 0 _ LB4.out)
  simp [sets] at hk0 hk1
  clear hb4 T3 T4 T5 T6;go_wp2;refine bodyPost_ret (v:=.agg #[.int .u64 9218868437227405312,.int .u64 18442240474082181120]) (by simp [results,Tryz.results88,go_sem,hk0,hk1]) rfl ?_
  exact⟨by rw [← HR.out];rfl,F.out⟩
end Go.Proofs.YtmjkmoahkanblaaGreat
