/-
Ratios as they are handed in: their words may have noughts at the high end, 0 may have a sign. vergeref2: RSign, RCmp, RAdd, RMul, RQuo; vergeref6: Cmp.
-/
import Derived.Test.YthlmlmfebpjgdaaGreatDoorM05
import Derived.Test.YthlmlmfebpjgdaaGreatDoorM13
set_option linter.unusedSimpArgs false
set_option linter.unusedVariables false
set_option maxHeartbeats 12800000
namespace Go.Proofs.YthlmlmfebpjgdaaGreatDoor
open Go.RowKit
def U32n(w:World)(A:Option Addr)(n c a:Nat):Prop:=∃ xs,U32s w A n c xs∧num xs=a
theorem U32n.below{w w':World}{A:Option Addr}{n c a:Nat}(h:U32n w A n c a)(hb:Below w.heap.size w w'):U32n w' A n c a:=by
 obtain⟨xs,h1,h2⟩:=h
 exact⟨xs,h1.below hb,h2⟩
theorem U32s.n{w:World}{A:Option Addr}{n c a:Nat}(h:U32s w A n c (digs a)):U32n w A n c a:=⟨_,h,num_digs a⟩
theorem times_n(A B:Option Addr)(n c m d a b:Nat)(w:World)(hx:U32n w A n c a)(hy:U32n w B m d b)(hs1:n≤8589934592)(hs2:m≤8589934592):
  Calls Tryz.prog 95 #[.slice A n c,.slice B m d] w (NewU32 w (digs (a*b))):=by
 obtain⟨xs,hx,rfl⟩:=hx;obtain⟨ys,hy,rfl⟩:=hy
 exact times_any A B n c m d xs ys w hx hy hs1 hs2
theorem norm_n{v:Nat}(A:Option Addr)(n c:Nat)(w:World)(h:U32n w A n c v)(hs:n≤34359738367):
  Calls Tryz.prog 93 #[.slice A n c] w fun e w'=>∃ A1 n1 c1,e=.returned (.slice A1 n1 c1)∧U32s w' A1 n1 c1 (digs v)∧n1≤n∧(0<v→0<n1)∧Below w.heap.size w w':=by
 obtain⟨xs,h1,h2⟩:=h
 exact norm_v A n c xs w h1 hs h2
def RatW(w:World)(K:Nat)(neg:Bool)(vn vd:Value)(x:Rat):Prop:=
 ∃ (p q:Nat) (A:Option Addr) (n c:Nat) (B:Option Addr) (m d:Nat),vn=.slice A n c∧vd=.slice B m d∧U32n w A n c p∧U32n w B m d q ∧
  0<q∧(n≤K∧m≤K)∧p<2^(32*K)∧q<2^(32*K)∧x=rv neg p q
theorem RatW.below{w w':World}{K:Nat}{neg:Bool}{vn vd:Value}{x:Rat}(h:RatW w K neg vn vd x)(hb:Below w.heap.size w w'):RatW w' K neg vn vd x:=by
 obtain⟨p,q,A,n,c,B,m,d,h1,h2,h3,h4,h5⟩:=h
 exact⟨p,q,A,n,c,B,m,d,h1,h2,h3.below hb,h4.below hb,h5⟩
theorem RatW.shape{w:World}{K:Nat}{neg:Bool}{vn vd:Value}{x:Rat}(h:RatW w K neg vn vd x):∃ (A:Option Addr) (n c:Nat) (B:Option Addr) (m d:Nat),vn=.slice A n c∧vd=.slice B m d:=by
 obtain⟨p,q,A,n,c,B,m,d,h1,h2,-⟩:=h
 exact⟨A,n,c,B,m,d,h1,h2⟩
theorem RatW.mono{w:World}{K K':Nat}{neg:Bool}{vn vd:Value}{x:Rat}(h:RatW w K neg vn vd x)(hk:K≤K'):RatW w K' neg vn vd x:=by
 obtain⟨p,q,A,n,c,B,m,d,h1,h2,h3,h4,h5,h6,h7,h8,h9⟩:=h;have:=Nat.pow_le_pow_right (n:=2) (by omega) (show 32*K≤32*K' by omega)
 exact⟨p,q,A,n,c,B,m,d,h1,h2,h3,h4,h5,by omega,by omega,by omega,h9⟩
theorem RatV.w{w:World}{K:Nat}{neg:Bool}{vn vd:Value}{x:Rat}(h:RatV w K neg vn vd x):RatW w K neg vn vd x:=by
 obtain⟨p,q,A,n,c,B,m,d,h1,h2,h3,h4,h5,h6,h7,h8,h9⟩:=h
 exact⟨p,q,A,n,c,B,m,d,h1,h2,h3.n,h4.n,h5,⟨h3.len_le h7,h4.len_le h8⟩,h7,h8,h9⟩
theorem rsg_rw{neg:Bool}{p q:Nat}(hq:0<q):rsg (rv neg p q)=if p=0 then 0 else if neg then -1 else 1:=by
 rcases Nat.eq_zero_or_pos p with hp | hp
 ·subst hp;rw [rv_zero];simp [rsg]
 ·exact rsg_rv hq (by omega)
theorem rsign_w(K:Nat)(neg:Bool)(vn vd:Value)(x:Rat)(w:World)(h:RatW w K neg vn vd x)(hK:K≤1073741824):
  Calls Tryz.prog 42 #[.agg #[.bool neg,vn,vd]] w fun e w'=>e=.returned (.int .i64 (rsg x))∧Below w.heap.size w w':=by
 obtain⟨p,q,A,n,c,B,m,d,rfl,rfl,hu,-,hq,⟨hn,-⟩,hp,-,rfl⟩:=h;rw [rsg_rw hq]
 obtain⟨s,hs⟩:∃ s:Int,(if p=0 then 0 else if neg then -1 else 1)=s:=⟨_,rfl⟩
 have hs0:p=0→s=0:=by intro h;rw [if_pos h] at hs;exact hs.symm
 have hs1:p≠0→neg=true→s=-1:=by intro h h';rw [if_neg h,if_pos h'] at hs;exact hs.symm
 have hs2:p≠0→neg=false→s=1:=by intro h h';rw [if_neg h,h'] at hs;exact hs.symm
 rw [hs];clear hs;have ba:=below_alloc w (.cells #[.bool neg,.slice A n c,.slice B m d] 42);have HN:=Hd (norm_n A n c _ (hu.below ba) (by omega));clear hp hu
 go_enter Tryz.func42,Tryz.ntmps42
 go_wp2_with fail;refine HN.out.mono ?_;rintro e w1 ⟨A1,n1,c1,rfl,hu1,hn1,hp1,hb1⟩;have hblk:=(Blk.new w 42 #[.bool neg,.slice A n c,.slice B m d]).keep hb1;have k0:=hblk.cell 0;have hlt:=hblk.lt
 have hz:n1=0↔p=0:=by
  have:=@digs_length_eq_zero p;rw [hu1.len] at this;exact this
 have HB:=Hd (ba.trans (hb1.mono ba.size));clear hblk hb1 hu1 hp1 HN ba
 simp at k0
 go_wp2
 ·obtain rfl:p=0:=by simp at *;omega
  go_ret
  exact⟨ret_int (hs0 rfl).symm,HB.out⟩
 ·have hp0:p≠0:=by simp at *;omega
  go_ret
  exact⟨ret_int (hs1 hp0 (by assumption)).symm,HB.out⟩
 ·have hp0:p≠0:=by simp at *;omega
  go_ret
  exact⟨ret_int (hs2 hp0 (by assumption)).symm,HB.out⟩
theorem rc_samew{n n':Bool}{p q p' q':Nat}(hq:0<q)(hq':0<q')(hs:rsg (rv n p q)=rsg (rv n' p' q')):
  rc (rv n p q) (rv n' p' q')=if rsg (rv n p q)=0 then 0 else if n then -cmp3 (p*q') (p'*q) else cmp3 (p*q') (p'*q):=by
 rw [rsg_rw hq,rsg_rw hq'] at hs;rw [rsg_rw hq]
 by_cases hp:p=0
 ·have hp':p'=0:=by
   rw [if_pos hp] at hs
   by_cases h:p'=0
   ·exact h
   ·rw [if_neg h] at hs;cases n'<;>simp at hs
  rw [if_pos hp,if_pos rfl,hp,hp',rv_zero,rv_zero];unfold rc;rw [if_neg (by grind),if_neg (by grind)]
 ·have hp':p'≠0:=by
   intro h
   rw [if_neg hp,if_pos h] at hs;cases n<;>simp at hs
  rw [if_neg hp,if_neg hp'] at hs;have l1:=@rv_lt_false p q p' q' hq hq';have l2:=@rv_lt_false p' q' p q hq' hq
  have hc:rc (rv false p q) (rv false p' q')=cmp3 (p*q') (p'*q):=by
   unfold rc cmp3
   by_cases h1:p*q'<p'*q
   ·rw [if_pos (l1.2 h1),if_pos h1]
   ·rw [if_neg (fun h=>h1 (l1.1 h)),if_neg h1]
    by_cases h2:p'*q<p*q'
    ·rw [if_pos (l2.2 h2),if_pos h2]
    ·rw [if_neg (fun h=>h2 (l2.1 h)),if_neg h2]
  cases n<;>cases n'<;>simp at hs
  ·rw [if_neg hp,if_neg (by decide),hc];rfl
  ·rw [if_neg hp,if_neg (by decide),if_pos rfl,← hc,rv_true,rv_true];unfold rc
   by_cases h1:rv false p q<rv false p' q'
   ·rw [if_neg (by grind),if_pos (by grind),if_pos h1];rfl
   ·by_cases h2:rv false p' q'<rv false p q
    ·rw [if_pos (by grind),if_neg h1,if_pos h2]
    ·rw [if_neg (by grind),if_neg (by grind),if_neg h1,if_neg h2];rfl
theorem rcmp_w(K:Nat)(neg:Bool)(vn vd:Value)(x:Rat)(neg':Bool)(vn' vd':Value)(y:Rat)(w:World)(h:RatW w K neg vn vd x)(h':RatW w K neg' vn' vd' y)(hK:K≤1073741824):
  Calls Tryz.prog 113 #[.agg #[.bool neg,vn,vd],.agg #[.bool neg',vn',vd']] w fun e w'=>e=.returned (.int .i64 (rc x y))∧Below w.heap.size w w':=by
 obtain⟨A,n,c,B,m,d,rfl,rfl⟩:=h.shape;obtain⟨A',n',c',B',m',d',rfl,rfl⟩:=h'.shape;have H:=Hd h;have H':=Hd h';have ba:Below w.heap.size w ((w.alloc (.cells #[.bool neg,.slice A n c,.slice B m d] 42)).alloc (.cells #[.bool neg',.slice A' n' c',.slice B' m' d'] 42)):=(below_alloc w _).alloc (by simp) _;have h1:=Hd (rsign_w K neg _ _ x _ (h.below ba) hK);have BA:=Hd ba;clear h h' ba
 go_enter Tryz.func113,Tryz.ntmps113
 go_wp2_with fail;refine h1.out.mono ?_;rintro e w1 ⟨rfl,hb1⟩;have B1:=Hd (BA.out.trans (hb1.mono BA.out.size));have K1:=Hd (((Blk.new w 42 #[.bool neg,.slice A n c,.slice B m d]).alloc (.cells #[.bool neg',.slice A' n' c',.slice B' m' d'] 42)).keep hb1);have K2:=Hd ((Blk.new2 w (.cells #[.bool neg,.slice A n c,.slice B m d] 42) 42 #[.bool neg',.slice A' n' c',.slice B' m' d']).keep hb1);have k0:=K2.out.cell 0;have k1:=K2.out.cell 1;have k2:=K2.out.cell 2;have h2:=Hd (rsign_w K neg' _ _ y _ (H'.out.below B1.out) hK);clear hb1 h1
 simp at k0 k1 k2
 go_wp2_with fail;refine h2.out.mono ?_;rintro e w2 ⟨rfl,hb2⟩;have B2:=Hd (B1.out.trans (hb2.mono B1.out.size));have Q1:=Hd (K1.out.keep hb2);have Q2:=Hd (K2.out.keep hb2);clear hb2 k0 k1 k2 K1 K2 h2 B1 BA
 obtain⟨s,hs⟩:∃ s,rsg x=s:=⟨_,rfl⟩
 obtain⟨t,ht⟩:∃ t,rsg y=t:=⟨_,rfl⟩
 have HS:=Hd hs;have HT:=Hd ht;rw [hs,ht];clear hs ht
 rcases Int.lt_trichotomy s t with h0 | h0 | h0
 ·go_wp2
  go_ret
  exact⟨ret_int (by rw [rc_below (by rw [HS.out,HT.out];exact h0)]),B2.out⟩
 ·subst h0;obtain⟨p,q,A1,n1,c1,D1,m1,d1,e1,e2,hu,hv,hq,⟨l1,l2⟩,-,-,rfl⟩:=H.out;obtain⟨p',q',A2,n2,c2,D2,m2,d2,e3,e4,hu',hv',hq',⟨l3,l4⟩,-,-,rfl⟩:=H'.out
  cases e1;cases e2;cases e3;cases e4
  have HTm:∀ (W:World) (A B:Option Addr) (n c m d a b:Nat),Below w.heap.size w W→U32n w A n c a→U32n w B m d b→n≤K→m≤K→Calls Tryz.prog 95 #[.slice A n c,.slice B m d] W fun e w'=>∃ A1 n1 c1,e=.returned (.slice A1 n1 c1)∧U32s w' A1 n1 c1 (digs (a*b))∧Below W.heap.size W w'∧Below w.heap.size w w':=fun W A B n c m d a b hW h1 h2 h3 h4=>
   (times_n A B n c m d _ _ W (h1.below hW) (h2.below hW) (by omega) (by omega)).mono (by
    rintro e w' ⟨A1,n1,c1,h5,h6,h7⟩
    exact⟨A1,n1,c1,h5,h6,h7,hW.trans (h7.mono hW.size)⟩)
  have HCm:∀ (W:World) (A B:Option Addr) (n c m d a b:Nat),Below w.heap.size w W→U32s W A n c (digs a)→U32s W B m d (digs b)→Calls Tryz.prog 98 #[.slice A n c,.slice B m d] W fun e w'=>e=.returned (.int .i64 (cmp3 a b))∧Below W.heap.size W w'∧Below w.heap.size w w':=fun W A B n c m d a b hW h1 h2=>
   (cmp_any A B n c m d _ _ W h1 h2).mono (by
    rintro e w' ⟨h5,k,rfl⟩;rw [num_digs,num_digs] at h5
    exact⟨h5,below_drewN (Below.refl _ _) k,below_drewN hW k⟩)
  have R:=Hd (rc_samew hq hq' (by rw [HS.out,HT.out]));have HU:=Hd hu;have HV:=Hd hv;have HU':=Hd hu';have HV':=Hd hv';have HTm:=Hd HTm;have HCm:=Hd HCm;have k0:=Q1.out.cell 0;have k1:=Q1.out.cell 1;have k2:=Q1.out.cell 2;have j1:=Q2.out.cell 1;have j2:=Q2.out.cell 2;have b2:=B2.out
  simp at k0 k1 k2 j1 j2
  clear hu hv hu' hv' H H' hq hq' Q1 Q2;go_wp2_with fail
  go_region_held3 (fun w'=>w'.cell? ⟨w.heap.size,0,none⟩=some (.bool neg)∧w'.cell? ⟨w.heap.size,1,none⟩=some (.slice A n c)∧w'.cell? ⟨w.heap.size,2,none⟩=some (.slice B m d)∧w'.cell? ⟨w.heap.size+1,1,none⟩=some (.slice A' n' c')∧w'.cell? ⟨w.heap.size+1,2,none⟩=some (.slice B' m' d')∧Below w.heap.size w w')
   (first | (exact heldc (by assumption) hb1) | (exact⟨k0,k1,k2,j1,j2,b2.drew⟩))
   (first | (go_at_call 95;refine (HTm.out _ _ _ _ _ _ _ ?_ ?_ ?_ ?_ ?_ ?_ ?_).mono ?_;rotate_left;rotate_left;(first | exact B2.out.drew | assumption);(first | exact HU.out | exact HU'.out);(first | exact HV.out | exact HV'.out);(assumption);(assumption);rintro e w1 ⟨A1,n1,c1,rfl,hu1,hb1,hbw⟩) | (go_at_call 98;refine (HCm.out _ _ _ _ _ _ _ ?_ ?_ ?_ ?_ ?_).mono ?_;rotate_left;rotate_left;(assumption);(exact U32s.below (by assumption) hb1);(assumption);rintro e w1 ⟨rfl,hb1,hbw⟩))
  rename_i hHeld;have kk:=hHeld.1;have BW:=Hd hbw;have hc:=cmp3_range (p*q') (p'*q)
  obtain⟨r,hr⟩:∃ r,rc (rv neg p q) (rv neg' p' q')=r:=⟨_,rfl⟩
  have R:=R.out;rw [hr,HS.out] at R
  obtain⟨c,hcc⟩:∃ c,cmp3 (p*q') (p'*q)=c:=⟨_,rfl⟩
  rw [hcc] at R hc ⊢;have Hr:=Hd hr
  have r0:s=0→r=0:=by intro h;rw [if_pos h] at R;exact R
  have r1:s≠0→neg=true→r=-c:=by intro h h2;rw [if_neg h,if_pos h2] at R;exact R
  have r2:s≠0→neg=false→r=c:=by intro h h2;rw [if_neg h,h2] at R;exact R
  have R0:=Hd r0;have R1:=Hd r1;have R2:=Hd r2;clear R r0 r1 r2 hr hcc hHeld hbw hb1 hu1 HS HT HCm HTm HU HV HU' HV' k0 k1 k2 j1 j2 b2
  rcases Int.lt_trichotomy s 0 with hs | hs | hs
  ·have hs1:(s == 0)=false:=by simp;omega
   cases neg
   ·go_wp2
    go_ret
    exact⟨ret_int (Hr.out.trans (R2.out (by omega) (by simp))).symm,BW.out⟩
   ·go_wp2
    go_ret
    exact⟨ret_int (Hr.out.trans (R1.out (by omega) (by simp))).symm,BW.out⟩
  ·subst hs
   cases neg
   ·go_wp2
    go_ret
    exact⟨ret_int (Hr.out.trans (R0.out (by simp))).symm,BW.out⟩
   ·go_wp2
    go_ret
    exact⟨ret_int (Hr.out.trans (R0.out (by simp))).symm,BW.out⟩
  ·have hs1:(s == 0)=false:=by simp;omega
   cases neg
   ·go_wp2
    go_ret
    exact⟨ret_int (Hr.out.trans (R2.out (by omega) (by simp))).symm,BW.out⟩
   ·go_wp2
    go_ret
    exact⟨ret_int (Hr.out.trans (R1.out (by omega) (by simp))).symm,BW.out⟩
 ·have h0':¬ s<t:=by omega
  go_wp2
  go_ret
  exact⟨ret_int (by rw [rc_above (by rw [HS.out,HT.out];exact h0)]),B2.out⟩
theorem radd_samen(K:Nat)(g:Bool)(p1 q1 p2 q2:Nat)(A1:Option Addr)(n1 c1:Nat)(B1:Option Addr)(m1 d1:Nat)(A2:Option Addr)(n2 c2:Nat)(B2:Option Addr)(m2 d2:Nat)(w:World)(u1:U32n w A1 n1 c1 p1)(v1:U32n w B1 m1 d1 q1)(u2:U32n w A2 n2 c2 p2)(v2:U32n w B2 m2 d2 q2)(l1:n1≤8589934592)(l2:m1≤8589934592)(l3:n2≤8589934592)(l4:m2≤8589934592)(hq1:0<q1)(hq2:0<q2)(hk1:p1*q2<2^(32*K))(hk2:p2*q1<2^(32*K))(hk3:q1*q2<2^(32*K))(hk4:p1*q2+p2*q1<2^(32*K))(hK:1≤K)(hK2:K≤1073741824):
  Calls Tryz.prog 35 #[.agg #[.bool g,.slice A1 n1 c1,.slice B1 m1 d1],.agg #[.bool g,.slice A2 n2 c2,.slice B2 m2 d2]] w (NewRat w K (rv g (p1*q2+p2*q1) (q1*q2))):=by
 have T1:=Hd fun W (hW:Below w.heap.size w W)=>times_n A1 B2 n1 c1 m2 d2 p1 q2 W (u1.below hW) (v2.below hW) l1 l4;have T2:=Hd fun W (hW:Below w.heap.size w W)=>times_n A2 B1 n2 c2 m1 d1 p2 q1 W (u2.below hW) (v1.below hW) l3 l2;have T3:=Hd fun W (hW:Below w.heap.size w W)=>times_n B1 B2 m1 d1 m2 d2 q1 q2 W (v1.below hW) (v2.below hW) l2 l4;have HQ:=Hd (Nat.mul_pos hq1 hq2)
 obtain⟨X,eX⟩:∃ x,p1*q2=x:=⟨_,rfl⟩
 obtain⟨Y,eY⟩:∃ x,p2*q1=x:=⟨_,rfl⟩
 obtain⟨D,eD⟩:∃ x,q1*q2=x:=⟨_,rfl⟩
 rw [eX,eY] at hk4 ⊢;rw [eX] at T1 hk1;rw [eY] at T2 hk2;rw [eD] at T3 HQ hk3 ⊢;have T4:=Hd fun W (A:Option Addr) (n c:Nat) (B:Option Addr) (m d:Nat) (hx:U32s W A n c (digs X)) (hy:U32s W B m d (digs Y))=>plus_v A B n c m d X Y W hx hy (by have:=hx.len_le hk1;omega) (by have:=hy.len_le hk2;omega)
 obtain⟨Z,eZ⟩:∃ x,X+Y=x:=⟨_,rfl⟩
 rw [eZ] at T4 hk4 ⊢;have T5:=Hd fun W (A:Option Addr) (n c:Nat) (B:Option Addr) (m d:Nat) (hx:U32s W A n c (digs Z)) (hy:U32s W B m d (digs D))=>frac_plain g A B n c m d K Z D W hx hy HQ.out hk4 hk3 hK hK2;clear u1 v1 u2 v2 l1 l2 l3 l4 hq1 hq2 hk1 hk2 hk3 hk4 hK hK2 eX eY eD eZ HQ;obtain⟨LB0,LG0_0,LG1_0,LR⟩:=bx3 w #[.bool g,.slice A1 n1 c1,.slice B1 m1 d1] 42 #[.bool g,.slice A2 n2 c2,.slice B2 m2 d2] 42 #[.bool false,.slice none 0 0,.slice none 0 0] 42;have LR0:=Hd (HasBlk.of (n:=3) LR.out rfl rfl);clear LR
 go_enter Tryz.func35,Tryz.ntmps35
 go_wp2_with fail;refine (T1.out _ LB0.out).mono ?_;rintro e w1 ⟨AX,nX,cX,rfl,hX,hb1⟩;have LB1:=stB LB0 hb1 LB0.out.size;have LR1:=stR LR0 hb1;have LG0_1:=stG LG0_0 hb1;have LG1_1:=stG LG1_0 hb1;clear LB0 LR0 LG0_0 LG1_0;obtain⟨q0_0,q0_1,q0_2⟩:=LG0_1.out.c3;obtain⟨q1_0,q1_1,q1_2⟩:=LG1_1.out.c3;have HX1:=Hd hX;clear hX hb1 T1;go_wp2_with fail;refine (T2.out _ LB1.out).mono ?_;rintro e w2 ⟨AY,nY,cY,rfl,hY,hb2⟩;have LB2:=stB LB1 hb2 LB1.out.size;have LR2:=stR LR1 hb2;have LG0_2:=stG LG0_1 hb2;have LG1_2:=stG LG1_1 hb2;clear LB1 LR1 LG0_1 LG1_1;have HX2:=Hd (HX1.out.below hb2);have HY2:=Hd hY;clear hY hb2 HX1 T2 q0_0 q0_1 q0_2 q1_0 q1_1 q1_2;obtain⟨q0_0,q0_1,q0_2⟩:=LG0_2.out.c3;obtain⟨q1_0,q1_1,q1_2⟩:=LG1_2.out.c3;go_wp2_with fail;refine (T3.out _ LB2.out).mono ?_;rintro e w3 ⟨AD,nD,cD,rfl,hD,hb3⟩;have LB3:=stB LB2 hb3 LB2.out.size;have LR3:=stR LR2 hb3;have LG0_3:=stG LG0_2 hb3;have LG1_3:=stG LG1_2 hb3;clear LB2 LR2 LG0_2 LG1_2;have HX3:=Hd (HX2.out.below hb3);have HY3:=Hd (HY2.out.below hb3);have HD3:=Hd hD;clear hD hb3 HX2 HY2 T3 q0_0 q0_1 q0_2 q1_0 q1_1 q1_2;have q0_0:=LG0_3.out.ce 0 rfl;have q1_0:=LG1_3.out.ce 0 rfl;go_wp2_with fail;clear q0_0 q1_0;refine wp_region_held_drew (S:=fun W'=>Blk W' w.heap.size 42 #[.bool g,.slice A1 n1 c1,.slice B1 m1 d1]∧Blk W' (w.heap.size+1) 42 #[.bool g,.slice A2 n2 c2,.slice B2 m2 d2]∧HasBlk W' (w.heap.size+2) 42 3∧Below w.heap.size w W') (by kernel_rfl) (by exact⟨LG0_3.out.drew,LG1_3.out.drew,LR3.out.drew,LB3.out.drew⟩) (fun hHeld=>?_)
 refine tk 0 ?_;(try simp only [Act.put,lay]);refine tk 1 ?_ (hv:=by intro W2 hSw;obtain⟨q0,q1,q2⟩:=hSw.1.c3;go_simp;(try with_reducible rfl));(try simp only [Act.put,lay]);refine tk 2 ?_;(try simp only [Act.put,lay]);refine tk 3 ?_;(try simp only [Act.put,lay]);refine tk 5 ?_;(try simp only [Act.put,lay]);refine rdy 4 (fun KK hKK=>?_);go_simp;refine (T4.out _ _ _ _ _ _ _ HX3.out.drew HY3.out.drew).mono ?_;rintro e w6 ⟨AS,nS,cS,rfl,hS,hbA⟩;go_wp2_with fail;refine hKK.out _ _ (⟨hHeld.1.keep hbA,hHeld.2.1.keep hbA,hHeld.2.2.1.keep hbA,hHeld.2.2.2.trans (hbA.mono hHeld.2.2.2.size)⟩) (fun _=>?_);clear hKK KK hHeld;rename_i hHeld;(try simp only [Act.put,lay]);refine rdy 6 (fun KK hKK=>?_);go_simp;refine (T5.out _ _ _ _ _ _ _ hS (HD3.out.drew.below hbA)).mono ?_;rintro e w7 ⟨gz,vn,vd,rfl,hR,hbB⟩;obtain⟨AZ,nZ,cZ,BZ,mZ,dZ,rfl,rfl⟩:=hR.shape;go_wp2_with fail;refine hKK.out _ _ (⟨hHeld.1.keep hbB,hHeld.2.1.keep hbB,hHeld.2.2.1.keep hbB,hHeld.2.2.2.trans (hbB.mono hHeld.2.2.2.size)⟩) (fun _=>?_);clear hKK KK hHeld;rename_i hHeld;(try simp only [Act.put,lay]);refine rdy 7 (fun KK hKK=>?_);have ha0:=hHeld.2.2.1.someCell 0 (by decide);have hf0:=hHeld.2.2.1.frozen 0;have ha1:=hHeld.2.2.1.someCell 1 (by decide);have hf1:=hHeld.2.2.1.frozen 1;have ha2:=hHeld.2.2.1.someCell 2 (by decide);have hf2:=hHeld.2.2.1.frozen 2;have HK:=Hd (hHeld.2.2.1.setCell [.bool gz,.slice AZ nZ cZ,.slice BZ mZ dZ] rfl);have F:=Hd (below_sets (w0:=w) (r:=(w.heap.size+2)) (by omega) [.bool gz,.slice AZ nZ cZ,.slice BZ mZ dZ] 0 _ hHeld.2.2.2);have FR:=Hd (hHeld.2.2.1.rat hR [.bool gz,.slice AZ nZ cZ,.slice BZ mZ dZ])
 go_simp;refine hKK.out _ _ (⟨hHeld.1.other (by omega) 0 [.bool gz,.slice AZ nZ cZ,.slice BZ mZ dZ],hHeld.2.1.other (by omega) 0 [.bool gz,.slice AZ nZ cZ,.slice BZ mZ dZ],hHeld.2.2.1.sets [.bool gz,.slice AZ nZ cZ,.slice BZ mZ dZ] rfl rfl,below_sets (by omega) [.bool gz,.slice AZ nZ cZ,.slice BZ mZ dZ] 0 _ hHeld.2.2.2⟩) (fun _=>?_);clear hKK KK hHeld;rename_i hHeld;(try simp only [Act.put,lay]);refine wpAnyH_done (by kernel_rfl) ?_ _;have hk0:=HK.out 0 (by decide);have hk1:=HK.out 1 (by decide);have hk2:=HK.out 2 (by decide)
 simp [sets] at hk0 hk1 hk2
 clear hHeld HK hS hbA hR hbB;clear LB3 LR3 LG0_3 LG1_3;go_wp2;refine bodyPost_ret (v:=.agg #[.bool gz,.slice AZ nZ cZ,.slice BZ mZ dZ]) (by simp [results,Tryz.results35,go_sem,hk0,hk1,hk2]) rfl ?_
 exact⟨_,_,_,rfl,FR.out,F.out⟩
theorem radd_gen(K:Nat)(g h:Bool)(p1 q1 p2 q2:Nat)(A1:Option Addr)(n1 c1:Nat)(B1:Option Addr)(m1 d1:Nat)(A2:Option Addr)(n2 c2:Nat)(B2:Option Addr)(m2 d2:Nat)(w:World)(u1:U32n w A1 n1 c1 p1)(v1:U32n w B1 m1 d1 q1)(u2:U32n w A2 n2 c2 p2)(v2:U32n w B2 m2 d2 q2)(l1:n1≤8589934592)(l2:m1≤8589934592)(l3:n2≤8589934592)(l4:m2≤8589934592)(hgh:(g == h)=false)(hle:p2*q1≤p1*q2)(hq1:0<q1)(hq2:0<q2)(hk1:p1*q2<2^(32*K))(hk2:p2*q1<2^(32*K))(hk3:q1*q2<2^(32*K))(hk4:p1*q2 - p2*q1<2^(32*K))(hK:1≤K)(hK2:K≤1073741824):
  Calls Tryz.prog 35 #[.agg #[.bool g,.slice A1 n1 c1,.slice B1 m1 d1],.agg #[.bool h,.slice A2 n2 c2,.slice B2 m2 d2]] w (NewRat w K (rv g (p1*q2 - p2*q1) (q1*q2))):=by
 have T1:=Hd fun W (hW:Below w.heap.size w W)=>times_n A1 B2 n1 c1 m2 d2 p1 q2 W (u1.below hW) (v2.below hW) l1 l4;have T2:=Hd fun W (hW:Below w.heap.size w W)=>times_n A2 B1 n2 c2 m1 d1 p2 q1 W (u2.below hW) (v1.below hW) l3 l2;have T3:=Hd fun W (hW:Below w.heap.size w W)=>times_n B1 B2 m1 d1 m2 d2 q1 q2 W (v1.below hW) (v2.below hW) l2 l4;have HQ:=Hd (Nat.mul_pos hq1 hq2)
 obtain⟨X,eX⟩:∃ x,p1*q2=x:=⟨_,rfl⟩
 obtain⟨Y,eY⟩:∃ x,p2*q1=x:=⟨_,rfl⟩
 obtain⟨D,eD⟩:∃ x,q1*q2=x:=⟨_,rfl⟩
 rw [eX,eY] at hk4 ⊢;rw [eX,eY] at hle;rw [eX] at T1 hk1;rw [eY] at T2 hk2;rw [eD] at T3 HQ hk3 ⊢;have T4:=Hd fun W (A:Option Addr) (n c:Nat) (B:Option Addr) (m d:Nat) (hx:U32s W A n c (digs X)) (hy:U32s W B m d (digs Y))=>minus_v A B n c m d X Y W hx hy (by have:=hx.len_le hk1;omega) hle
 obtain⟨Z,eZ⟩:∃ x,X - Y=x:=⟨_,rfl⟩
 rw [eZ] at T4 hk4 ⊢;have T5:=Hd fun W (A:Option Addr) (n c:Nat) (B:Option Addr) (m d:Nat) (hx:U32s W A n c (digs Z)) (hy:U32s W B m d (digs D))=>frac_plain g A B n c m d K Z D W hx hy HQ.out hk4 hk3 hK hK2;have HC:=Hd fun W (A:Option Addr) (n c:Nat) (B:Option Addr) (m d:Nat) (hx:U32s W A n c (digs X)) (hy:U32s W B m d (digs Y))=>cmp_w A B n c m d X Y W hx hy
 obtain⟨cc,ecc⟩:∃ x,cmp3 X Y=x:=⟨_,rfl⟩
 have hcc:0≤cc:=by rw [← ecc];exact cmp3_nonneg.2 hle
 rw [ecc] at HC;clear u1 v1 u2 v2 l1 l2 l3 l4 hq1 hq2 hk1 hk2 hk3 hk4 hK hK2 eX eY eD eZ HQ hle ecc;obtain⟨LB0,LG0_0,LG1_0,LR⟩:=bx3 w #[.bool g,.slice A1 n1 c1,.slice B1 m1 d1] 42 #[.bool h,.slice A2 n2 c2,.slice B2 m2 d2] 42 #[.bool false,.slice none 0 0,.slice none 0 0] 42;have LR0:=Hd (HasBlk.of (n:=3) LR.out rfl rfl);clear LR
 go_enter Tryz.func35,Tryz.ntmps35
 go_wp2_with fail;refine (T1.out _ LB0.out).mono ?_;rintro e w1 ⟨AX,nX,cX,rfl,hX,hb1⟩;have LB1:=stB LB0 hb1 LB0.out.size;have LR1:=stR LR0 hb1;have LG0_1:=stG LG0_0 hb1;have LG1_1:=stG LG1_0 hb1;clear LB0 LR0 LG0_0 LG1_0;obtain⟨q0_0,q0_1,q0_2⟩:=LG0_1.out.c3;obtain⟨q1_0,q1_1,q1_2⟩:=LG1_1.out.c3;have HX1:=Hd hX;clear hX hb1 T1;go_wp2_with fail;refine (T2.out _ LB1.out).mono ?_;rintro e w2 ⟨AY,nY,cY,rfl,hY,hb2⟩;have LB2:=stB LB1 hb2 LB1.out.size;have LR2:=stR LR1 hb2;have LG0_2:=stG LG0_1 hb2;have LG1_2:=stG LG1_1 hb2;clear LB1 LR1 LG0_1 LG1_1;have HX2:=Hd (HX1.out.below hb2);have HY2:=Hd hY;clear hY hb2 HX1 T2 q0_0 q0_1 q0_2 q1_0 q1_1 q1_2;obtain⟨q0_0,q0_1,q0_2⟩:=LG0_2.out.c3;obtain⟨q1_0,q1_1,q1_2⟩:=LG1_2.out.c3;go_wp2_with fail;refine (T3.out _ LB2.out).mono ?_;rintro e w3 ⟨AD,nD,cD,rfl,hD,hb3⟩;have LB3:=stB LB2 hb3 LB2.out.size;have LR3:=stR LR2 hb3;have LG0_3:=stG LG0_2 hb3;have LG1_3:=stG LG1_2 hb3;clear LB2 LR2 LG0_2 LG1_2;have HX3:=Hd (HX2.out.below hb3);have HY3:=Hd (HY2.out.below hb3);have HD3:=Hd hD;clear hD hb3 HX2 HY2 T3 q0_0 q0_1 q0_2 q1_0 q1_1 q1_2;have q0_0:=LG0_3.out.ce 0 rfl;have q1_0:=LG1_3.out.ce 0 rfl;go_wp2_with fail;refine (HC.out _ _ _ _ _ _ _ HX3.out HY3.out).mono ?_;rintro e w4 ⟨rfl,hb4⟩;have LB4:=stB LB3 hb4 LB3.out.size;have LR4:=stR LR3 hb4;have LG0_4:=stG LG0_3 hb4;have LG1_4:=stG LG1_3 hb4;clear LB3 LR3 LG0_3 LG1_3;have HX4:=Hd (HX3.out.below hb4);have HY4:=Hd (HY3.out.below hb4);have HD4:=Hd (HD3.out.below hb4)
 clear hb4 HX3 HY3 HD3 HC q0_0 q1_0;go_wp2_with fail;clear hgh hcc;refine wp_region_held_drew (S:=fun W'=>Blk W' w.heap.size 42 #[.bool g,.slice A1 n1 c1,.slice B1 m1 d1]∧Blk W' (w.heap.size+1) 42 #[.bool h,.slice A2 n2 c2,.slice B2 m2 d2]∧HasBlk W' (w.heap.size+2) 42 3∧Below w.heap.size w W') (by kernel_rfl) (by exact⟨LG0_4.out.drew,LG1_4.out.drew,LR4.out.drew,LB4.out.drew⟩) (fun hHeld=>?_);refine tk 0 ?_;(try simp only [Act.put,lay]);refine tk 1 ?_ (hv:=by intro W2 hSw;obtain⟨q0,q1,q2⟩:=hSw.1.c3;go_simp;(try with_reducible rfl));(try simp only [Act.put,lay]);refine tk 2 ?_;(try simp only [Act.put,lay]);refine tk 3 ?_;(try simp only [Act.put,lay]);refine tk 5 ?_;(try simp only [Act.put,lay]);refine rdy 4 (fun KK hKK=>?_);go_simp;refine (T4.out _ _ _ _ _ _ _ HX4.out.drew HY4.out.drew).mono ?_;rintro e w6 ⟨AS,nS,cS,rfl,hS,hbA⟩;go_wp2_with fail;refine hKK.out _ _ (⟨hHeld.1.keep hbA,hHeld.2.1.keep hbA,hHeld.2.2.1.keep hbA,hHeld.2.2.2.trans (hbA.mono hHeld.2.2.2.size)⟩) (fun _=>?_);clear hKK KK hHeld;rename_i hHeld;(try simp only [Act.put,lay]);refine rdy 6 (fun KK hKK=>?_);go_simp;refine (T5.out _ _ _ _ _ _ _ hS (HD4.out.drew.below hbA)).mono ?_;rintro e w7 ⟨gz,vn,vd,rfl,hR,hbB⟩;obtain⟨AZ,nZ,cZ,BZ,mZ,dZ,rfl,rfl⟩:=hR.shape;go_wp2_with fail;refine hKK.out _ _ (⟨hHeld.1.keep hbB,hHeld.2.1.keep hbB,hHeld.2.2.1.keep hbB,hHeld.2.2.2.trans (hbB.mono hHeld.2.2.2.size)⟩) (fun _=>?_);clear hKK KK hHeld;rename_i hHeld;(try simp only [Act.put,lay]);refine rdy 7 (fun KK hKK=>?_);have ha0:=hHeld.2.2.1.someCell 0 (by decide);have hf0:=hHeld.2.2.1.frozen 0;have ha1:=hHeld.2.2.1.someCell 1 (by decide);have hf1:=hHeld.2.2.1.frozen 1;have ha2:=hHeld.2.2.1.someCell 2 (by decide);have hf2:=hHeld.2.2.1.frozen 2;have HK:=Hd (hHeld.2.2.1.setCell [.bool gz,.slice AZ nZ cZ,.slice BZ mZ dZ] rfl);have F:=Hd (below_sets (w0:=w) (r:=(w.heap.size+2)) (by omega) [.bool gz,.slice AZ nZ cZ,.slice BZ mZ dZ] 0 _ hHeld.2.2.2);have FR:=Hd (hHeld.2.2.1.rat hR [.bool gz,.slice AZ nZ cZ,.slice BZ mZ dZ])
 go_simp;refine hKK.out _ _ (⟨hHeld.1.other (by omega) 0 [.bool gz,.slice AZ nZ cZ,.slice BZ mZ dZ],hHeld.2.1.other (by omega) 0 [.bool gz,.slice AZ nZ cZ,.slice BZ mZ dZ],hHeld.2.2.1.sets [.bool gz,.slice AZ nZ cZ,.slice BZ mZ dZ] rfl rfl,below_sets (by omega) [.bool gz,.slice AZ nZ cZ,.slice BZ mZ dZ] 0 _ hHeld.2.2.2⟩) (fun _=>?_);clear hKK KK hHeld;rename_i hHeld;(try simp only [Act.put,lay]);refine wpAnyH_done (by kernel_rfl) ?_ _;have hk0:=HK.out 0 (by decide);have hk1:=HK.out 1 (by decide);have hk2:=HK.out 2 (by decide)
 simp [sets] at hk0 hk1 hk2
 clear hHeld HK hS hbA hR hbB;clear LB4 LR4 LG0_4 LG1_4;go_wp2;refine bodyPost_ret (v:=.agg #[.bool gz,.slice AZ nZ cZ,.slice BZ mZ dZ]) (by simp [results,Tryz.results35,go_sem,hk0,hk1,hk2]) rfl ?_
 exact⟨_,_,_,rfl,FR.out,F.out⟩
theorem radd_ltn(K:Nat)(g h:Bool)(p1 q1 p2 q2:Nat)(A1:Option Addr)(n1 c1:Nat)(B1:Option Addr)(m1 d1:Nat)(A2:Option Addr)(n2 c2:Nat)(B2:Option Addr)(m2 d2:Nat)(w:World)(u1:U32n w A1 n1 c1 p1)(v1:U32n w B1 m1 d1 q1)(u2:U32n w A2 n2 c2 p2)(v2:U32n w B2 m2 d2 q2)(l1:n1≤8589934592)(l2:m1≤8589934592)(l3:n2≤8589934592)(l4:m2≤8589934592)(hgh:(g == h)=false)(hle:p1*q2<p2*q1)(hq1:0<q1)(hq2:0<q2)(hk1:p1*q2<2^(32*K))(hk2:p2*q1<2^(32*K))(hk3:q1*q2<2^(32*K))(hk4:p2*q1 - p1*q2<2^(32*K))(hK:1≤K)(hK2:K≤1073741824):
  Calls Tryz.prog 35 #[.agg #[.bool g,.slice A1 n1 c1,.slice B1 m1 d1],.agg #[.bool h,.slice A2 n2 c2,.slice B2 m2 d2]] w (NewRat w K (rv h (p2*q1 - p1*q2) (q1*q2))):=by
 have T1:=Hd fun W (hW:Below w.heap.size w W)=>times_n A1 B2 n1 c1 m2 d2 p1 q2 W (u1.below hW) (v2.below hW) l1 l4;have T2:=Hd fun W (hW:Below w.heap.size w W)=>times_n A2 B1 n2 c2 m1 d1 p2 q1 W (u2.below hW) (v1.below hW) l3 l2;have T3:=Hd fun W (hW:Below w.heap.size w W)=>times_n B1 B2 m1 d1 m2 d2 q1 q2 W (v1.below hW) (v2.below hW) l2 l4;have HQ:=Hd (Nat.mul_pos hq1 hq2)
 obtain⟨X,eX⟩:∃ x,p1*q2=x:=⟨_,rfl⟩
 obtain⟨Y,eY⟩:∃ x,p2*q1=x:=⟨_,rfl⟩
 obtain⟨D,eD⟩:∃ x,q1*q2=x:=⟨_,rfl⟩
 rw [eX,eY] at hk4 ⊢;rw [eX,eY] at hle;rw [eX] at T1 hk1;rw [eY] at T2 hk2;rw [eD] at T3 HQ hk3 ⊢;have T4:=Hd fun W (A:Option Addr) (n c:Nat) (B:Option Addr) (m d:Nat) (hx:U32s W A n c (digs Y)) (hy:U32s W B m d (digs X))=>minus_v A B n c m d Y X W hx hy (by have:=hx.len_le hk2;omega) (Nat.le_of_lt hle)
 obtain⟨Z,eZ⟩:∃ x,Y - X=x:=⟨_,rfl⟩
 rw [eZ] at T4 hk4 ⊢;have T5:=Hd fun W (A:Option Addr) (n c:Nat) (B:Option Addr) (m d:Nat) (hx:U32s W A n c (digs Z)) (hy:U32s W B m d (digs D))=>frac_plain h A B n c m d K Z D W hx hy HQ.out hk4 hk3 hK hK2;have HC:=Hd fun W (A:Option Addr) (n c:Nat) (B:Option Addr) (m d:Nat) (hx:U32s W A n c (digs X)) (hy:U32s W B m d (digs Y))=>cmp_w A B n c m d X Y W hx hy
 obtain⟨cc,ecc⟩:∃ x,cmp3 X Y=x:=⟨_,rfl⟩
 have hcc:cc<0:=by rw [← ecc];exact cmp3_neg.2 hle
 rw [ecc] at HC;clear u1 v1 u2 v2 l1 l2 l3 l4 hq1 hq2 hk1 hk2 hk3 hk4 hK hK2 eX eY eD eZ HQ hle ecc;obtain⟨LB0,LG0_0,LG1_0,LR⟩:=bx3 w #[.bool g,.slice A1 n1 c1,.slice B1 m1 d1] 42 #[.bool h,.slice A2 n2 c2,.slice B2 m2 d2] 42 #[.bool false,.slice none 0 0,.slice none 0 0] 42;have LR0:=Hd (HasBlk.of (n:=3) LR.out rfl rfl);clear LR
 go_enter Tryz.func35,Tryz.ntmps35
 go_wp2_with fail;refine (T1.out _ LB0.out).mono ?_;rintro e w1 ⟨AX,nX,cX,rfl,hX,hb1⟩;have LB1:=stB LB0 hb1 LB0.out.size;have LR1:=stR LR0 hb1;have LG0_1:=stG LG0_0 hb1;have LG1_1:=stG LG1_0 hb1;clear LB0 LR0 LG0_0 LG1_0;obtain⟨q0_0,q0_1,q0_2⟩:=LG0_1.out.c3;obtain⟨q1_0,q1_1,q1_2⟩:=LG1_1.out.c3;have HX1:=Hd hX;clear hX hb1 T1;go_wp2_with fail;refine (T2.out _ LB1.out).mono ?_;rintro e w2 ⟨AY,nY,cY,rfl,hY,hb2⟩;have LB2:=stB LB1 hb2 LB1.out.size;have LR2:=stR LR1 hb2;have LG0_2:=stG LG0_1 hb2;have LG1_2:=stG LG1_1 hb2;clear LB1 LR1 LG0_1 LG1_1;have HX2:=Hd (HX1.out.below hb2);have HY2:=Hd hY;clear hY hb2 HX1 T2 q0_0 q0_1 q0_2 q1_0 q1_1 q1_2;obtain⟨q0_0,q0_1,q0_2⟩:=LG0_2.out.c3;obtain⟨q1_0,q1_1,q1_2⟩:=LG1_2.out.c3;go_wp2_with fail;refine (T3.out _ LB2.out).mono ?_;rintro e w3 ⟨AD,nD,cD,rfl,hD,hb3⟩;have LB3:=stB LB2 hb3 LB2.out.size;have LR3:=stR LR2 hb3;have LG0_3:=stG LG0_2 hb3;have LG1_3:=stG LG1_2 hb3;clear LB2 LR2 LG0_2 LG1_2;have HX3:=Hd (HX2.out.below hb3);have HY3:=Hd (HY2.out.below hb3);have HD3:=Hd hD;clear hD hb3 HX2 HY2 T3 q0_0 q0_1 q0_2 q1_0 q1_1 q1_2;have q0_0:=LG0_3.out.ce 0 rfl;have q1_0:=LG1_3.out.ce 0 rfl;go_wp2_with fail;refine (HC.out _ _ _ _ _ _ _ HX3.out HY3.out).mono ?_;rintro e w4 ⟨rfl,hb4⟩;have LB4:=stB LB3 hb4 LB3.out.size;have LR4:=stR LR3 hb4;have LG0_4:=stG LG0_3 hb4;have LG1_4:=stG LG1_3 hb4;clear LB3 LR3 LG0_3 LG1_3;have HX4:=Hd (HX3.out.below hb4);have HY4:=Hd (HY3.out.below hb4);have HD4:=Hd (HD3.out.below hb4)
 clear hb4 HX3 HY3 HD3 HC q0_0 q1_0;go_wp2_with fail;clear hgh hcc;refine wp_region_held_drew (S:=fun W'=>Blk W' w.heap.size 42 #[.bool g,.slice A1 n1 c1,.slice B1 m1 d1]∧Blk W' (w.heap.size+1) 42 #[.bool h,.slice A2 n2 c2,.slice B2 m2 d2]∧HasBlk W' (w.heap.size+2) 42 3∧Below w.heap.size w W') (by kernel_rfl) (by exact⟨LG0_4.out.drew,LG1_4.out.drew,LR4.out.drew,LB4.out.drew⟩) (fun hHeld=>?_);refine tk 0 ?_;(try simp only [Act.put,lay]);refine tk 1 ?_ (hv:=by intro W2 hSw;obtain⟨q0,q1,q2⟩:=hSw.2.1.c3;go_simp;(try with_reducible rfl));(try simp only [Act.put,lay]);refine tk 2 ?_;(try simp only [Act.put,lay]);refine tk 3 ?_;(try simp only [Act.put,lay]);refine tk 5 ?_;(try simp only [Act.put,lay]);refine rdy 4 (fun KK hKK=>?_);go_simp;refine (T4.out _ _ _ _ _ _ _ HY4.out.drew HX4.out.drew).mono ?_;rintro e w6 ⟨AS,nS,cS,rfl,hS,hbA⟩;go_wp2_with fail;refine hKK.out _ _ (⟨hHeld.1.keep hbA,hHeld.2.1.keep hbA,hHeld.2.2.1.keep hbA,hHeld.2.2.2.trans (hbA.mono hHeld.2.2.2.size)⟩) (fun _=>?_);clear hKK KK hHeld;rename_i hHeld;(try simp only [Act.put,lay]);refine rdy 6 (fun KK hKK=>?_);go_simp;refine (T5.out _ _ _ _ _ _ _ hS (HD4.out.drew.below hbA)).mono ?_;rintro e w7 ⟨gz,vn,vd,rfl,hR,hbB⟩;obtain⟨AZ,nZ,cZ,BZ,mZ,dZ,rfl,rfl⟩:=hR.shape;go_wp2_with fail;refine hKK.out _ _ (⟨hHeld.1.keep hbB,hHeld.2.1.keep hbB,hHeld.2.2.1.keep hbB,hHeld.2.2.2.trans (hbB.mono hHeld.2.2.2.size)⟩) (fun _=>?_);clear hKK KK hHeld;rename_i hHeld;(try simp only [Act.put,lay]);refine rdy 7 (fun KK hKK=>?_);have ha0:=hHeld.2.2.1.someCell 0 (by decide);have hf0:=hHeld.2.2.1.frozen 0;have ha1:=hHeld.2.2.1.someCell 1 (by decide);have hf1:=hHeld.2.2.1.frozen 1;have ha2:=hHeld.2.2.1.someCell 2 (by decide);have hf2:=hHeld.2.2.1.frozen 2;have HK:=Hd (hHeld.2.2.1.setCell [.bool gz,.slice AZ nZ cZ,.slice BZ mZ dZ] rfl);have F:=Hd (below_sets (w0:=w) (r:=(w.heap.size+2)) (by omega) [.bool gz,.slice AZ nZ cZ,.slice BZ mZ dZ] 0 _ hHeld.2.2.2);have FR:=Hd (hHeld.2.2.1.rat hR [.bool gz,.slice AZ nZ cZ,.slice BZ mZ dZ])
 go_simp;refine hKK.out _ _ (⟨hHeld.1.other (by omega) 0 [.bool gz,.slice AZ nZ cZ,.slice BZ mZ dZ],hHeld.2.1.other (by omega) 0 [.bool gz,.slice AZ nZ cZ,.slice BZ mZ dZ],hHeld.2.2.1.sets [.bool gz,.slice AZ nZ cZ,.slice BZ mZ dZ] rfl rfl,below_sets (by omega) [.bool gz,.slice AZ nZ cZ,.slice BZ mZ dZ] 0 _ hHeld.2.2.2⟩) (fun _=>?_);clear hKK KK hHeld;rename_i hHeld;(try simp only [Act.put,lay]);refine wpAnyH_done (by kernel_rfl) ?_ _;have hk0:=HK.out 0 (by decide);have hk1:=HK.out 1 (by decide);have hk2:=HK.out 2 (by decide)
 simp [sets] at hk0 hk1 hk2
 clear hHeld HK hS hbA hR hbB;clear LB4 LR4 LG0_4 LG1_4;go_wp2;refine bodyPost_ret (v:=.agg #[.bool gz,.slice AZ nZ cZ,.slice BZ mZ dZ]) (by simp [results,Tryz.results35,go_sem,hk0,hk1,hk2]) rfl ?_
 exact⟨_,_,_,rfl,FR.out,F.out⟩
theorem radd_w(K:Nat)(g1:Bool)(vn1 vd1:Value)(x1:Rat)(g2:Bool)(vn2 vd2:Value)(x2:Rat)(w:World)(h1:RatW w K g1 vn1 vd1 x1)(h2:RatW w K g2 vn2 vd2 x2)(hK:K≤1048576):
  Calls Tryz.prog 35 #[.agg #[.bool g1,vn1,vd1],.agg #[.bool g2,vn2,vd2]] w (NewRat w (2*K+1) (x1+x2)):=by
 obtain⟨p1,q1,A1,n1,c1,B1,m1,d1,rfl,rfl,u1,v1,hq1,⟨l1,l2⟩,k1,k2,rfl⟩:=h1;obtain⟨p2,q2,A2,n2,c2,B2,m2,d2,rfl,rfl,u2,v2,hq2,⟨l3,l4⟩,k3,k4,rfl⟩:=h2
 have mm:∀ a b:Nat,a<2^(32*K)→b<2^(32*K)→a*b<2^(64*K):=by
  intro a b ha hb
  have h:2^(64*K)=2^(32*K)*2^(32*K):=by rw [← Nat.pow_add];congr 1;omega
  rw [h]
  exact Nat.mul_lt_mul'' ha hb
 have e1:=mm p1 q2 k1 k4;have e2:=mm p2 q1 k3 k2;have e3:=mm q1 q2 k2 k4
 have hh:2*2^(64*K)≤2^(32*(2*K+1)):=by
  rw [show 32*(2*K+1)=64*K+32 from by omega,Nat.pow_add]
  have:2*2^(64*K)≤2^(64*K)*2^32:=by rw [Nat.mul_comm];exact Nat.mul_le_mul_left _ (by decide)
  exact this
 rw [rv_add _ _ _ _ _ _ hq1 hq2];unfold dsum
 by_cases hg:g1=g2
 ·subst hg;rw [if_pos rfl]
  exact radd_samen (2*K+1) g1 p1 q1 p2 q2 A1 n1 c1 B1 m1 d1 A2 n2 c2 B2 m2 d2 w u1 v1 u2 v2 (by omega) (by omega) (by omega) (by omega) hq1 hq2 (by omega) (by omega) (by omega) (by omega) (by omega) (by omega)
 ·rw [if_neg hg]
  have hgh:(g1 == g2)=false:=by simpa using hg
  by_cases hl:p1*q2<p2*q1
  ·rw [if_pos hl]
   exact radd_ltn (2*K+1) g1 g2 p1 q1 p2 q2 A1 n1 c1 B1 m1 d1 A2 n2 c2 B2 m2 d2 w u1 v1 u2 v2 (by omega) (by omega) (by omega) (by omega) hgh hl hq1 hq2 (by omega) (by omega) (by omega) (by omega) (by omega) (by omega)
  ·rw [if_neg hl]
   exact radd_gen (2*K+1) g1 g2 p1 q1 p2 q2 A1 n1 c1 B1 m1 d1 A2 n2 c2 B2 m2 d2 w u1 v1 u2 v2 (by omega) (by omega) (by omega) (by omega) hgh (by omega) hq1 hq2 (by omega) (by omega) (by omega) (by omega) (by omega) (by omega)
theorem rmul_walkn(K:Nat)(g1 g2:Bool)(p1 q1 p2 q2:Nat)(A1:Option Addr)(n1 c1:Nat)(B1:Option Addr)(m1 d1:Nat)(A2:Option Addr)(n2 c2:Nat)(B2:Option Addr)(m2 d2:Nat)(w:World)(u1:U32n w A1 n1 c1 p1)(v1:U32n w B1 m1 d1 q1)(u2:U32n w A2 n2 c2 p2)(v2:U32n w B2 m2 d2 q2)(l1:n1≤8589934592)(l2:m1≤8589934592)(l3:n2≤8589934592)(l4:m2≤8589934592)(hD:0<q1*q2)(k1:p1*p2<2^(32*K))(k2:q1*q2<2^(32*K))(hK:1≤K)(hK2:K≤1073741824):
  Calls Tryz.prog 36 #[.agg #[.bool g1,.slice A1 n1 c1,.slice B1 m1 d1],.agg #[.bool g2,.slice A2 n2 c2,.slice B2 m2 d2]] w (NewRat w K (rv (g1 != g2) (p1*p2) (q1*q2))):=by
 have T1:=Hd fun W (hW:Below w.heap.size w W)=>times_n A1 A2 n1 c1 n2 c2 p1 p2 W (u1.below hW) (u2.below hW) l1 l3;have T2:=Hd fun W (hW:Below w.heap.size w W)=>times_n B1 B2 m1 d1 m2 d2 q1 q2 W (v1.below hW) (v2.below hW) l2 l4
 obtain⟨X,eX⟩:∃ x,p1*p2=x:=⟨_,rfl⟩
 obtain⟨D,eD⟩:∃ x,q1*q2=x:=⟨_,rfl⟩
 rw [eX] at T1 k1 ⊢;rw [eD] at T2 k2 hD ⊢;have T3:=Hd fun g W (A:Option Addr) (n c:Nat) (B:Option Addr) (m d:Nat) (hx:U32s W A n c (digs X)) (hy:U32s W B m d (digs D))=>frac_plain g A B n c m d K X D W hx hy hD k1 k2 hK hK2;clear u1 v1 u2 v2 l1 l2 l3 l4 hD k1 k2 hK hK2 eX eD;obtain⟨LB0,LG0_0,LG1_0,LR⟩:=bx3 w #[.bool g1,.slice A1 n1 c1,.slice B1 m1 d1] 42 #[.bool g2,.slice A2 n2 c2,.slice B2 m2 d2] 42 #[.bool false,.slice none 0 0,.slice none 0 0] 42;have LR0:=Hd (HasBlk.of (n:=3) LR.out rfl rfl);clear LR
 go_enter Tryz.func36,Tryz.ntmps36
 go_wp2_with fail;refine wp_region_held_drew (S:=fun W'=>Blk W' w.heap.size 42 #[.bool g1,.slice A1 n1 c1,.slice B1 m1 d1]∧Blk W' (w.heap.size+1) 42 #[.bool g2,.slice A2 n2 c2,.slice B2 m2 d2]∧HasBlk W' (w.heap.size+2) 42 3∧Below w.heap.size w W') (by kernel_rfl) (by exact⟨LG0_0.out.drew,LG1_0.out.drew,LR0.out.drew,LB0.out.drew⟩) (fun hHeld=>?_);refine tk 0 ?_;(try simp only [Act.put,lay]);refine tk 1 ?_ (hv:=by intro W2 hSw;obtain⟨q0,q1,q2⟩:=hSw.1.c3;go_simp;(try with_reducible rfl));(try simp only [Act.put,lay]);refine tk 2 ?_;(try simp only [Act.put,lay]);refine tk 3 ?_ (hv:=by intro W2 hSw;obtain⟨q0,q1,q2⟩:=hSw.2.1.c3;go_simp;(try with_reducible rfl));(try simp only [Act.put,lay]);refine tk 4 ?_;(try simp only [Act.put,lay]);refine tk 5 ?_;(try simp only [Act.put,lay]);refine tk 6 ?_ (hv:=by intro W2 hSw;obtain⟨q0,q1,q2⟩:=hSw.1.c3;go_simp;(try with_reducible rfl));(try simp only [Act.put,lay]);refine tk 7 ?_;(try simp only [Act.put,lay]);refine tk 8 ?_ (hv:=by intro W2 hSw;obtain⟨q0,q1,q2⟩:=hSw.2.1.c3;go_simp;(try with_reducible rfl));(try simp only [Act.put,lay]);refine tk 10 ?_;(try simp only [Act.put,lay]);refine tk 11 ?_ (hv:=by intro W2 hSw;obtain⟨q0,q1,q2⟩:=hSw.1.c3;go_simp;(try with_reducible rfl));(try simp only [Act.put,lay]);refine tk 12 ?_;(try simp only [Act.put,lay]);refine tk 13 ?_ (hv:=by intro W2 hSw;obtain⟨q0,q1,q2⟩:=hSw.2.1.c3;go_simp;(try with_reducible rfl));(try simp only [Act.put,lay]);refine rdy 9 (fun KK hKK=>?_);go_simp;refine (T1.out _ hHeld.2.2.2).mono ?_
 rintro e w1 ⟨AX,nX,cX,rfl,hX,hbA⟩;go_wp2_with fail;refine hKK.out _ _ (⟨hHeld.1.keep hbA,hHeld.2.1.keep hbA,hHeld.2.2.1.keep hbA,hHeld.2.2.2.trans (hbA.mono hHeld.2.2.2.size)⟩) (fun _=>?_);clear hKK KK hHeld;rename_i hHeld;(try simp only [Act.put,lay]);refine rdy 14 (fun KK hKK=>?_);go_simp;refine (T2.out _ hHeld.2.2.2).mono ?_;rintro e w2 ⟨AY,nY,cY,rfl,hY,hbB⟩;go_wp2_with fail;refine hKK.out _ _ (⟨hHeld.1.keep hbB,hHeld.2.1.keep hbB,hHeld.2.2.1.keep hbB,hHeld.2.2.2.trans (hbB.mono hHeld.2.2.2.size)⟩) (fun _=>?_);clear hKK KK hHeld;rename_i hHeld;(try simp only [Act.put,lay]);refine rdy 15 (fun KK hKK=>?_);go_simp;refine (T3.out _ _ _ _ _ _ _ _ (hX.below hbB) hY).mono ?_;rintro e w3 ⟨gz,vn,vd,rfl,hR,hbC⟩;obtain⟨AZ,nZ,cZ,BZ,mZ,dZ,rfl,rfl⟩:=hR.shape;go_wp2_with fail;refine hKK.out _ _ (⟨hHeld.1.keep hbC,hHeld.2.1.keep hbC,hHeld.2.2.1.keep hbC,hHeld.2.2.2.trans (hbC.mono hHeld.2.2.2.size)⟩) (fun _=>?_);clear hKK KK hHeld;rename_i hHeld;(try simp only [Act.put,lay]);refine rdy 16 (fun KK hKK=>?_);have ha0:=hHeld.2.2.1.someCell 0 (by decide);have hf0:=hHeld.2.2.1.frozen 0;have ha1:=hHeld.2.2.1.someCell 1 (by decide);have hf1:=hHeld.2.2.1.frozen 1;have ha2:=hHeld.2.2.1.someCell 2 (by decide);have hf2:=hHeld.2.2.1.frozen 2;have HK:=Hd (hHeld.2.2.1.setCell [.bool gz,.slice AZ nZ cZ,.slice BZ mZ dZ] rfl);have F:=Hd (below_sets (w0:=w) (r:=(w.heap.size+2)) (by omega) [.bool gz,.slice AZ nZ cZ,.slice BZ mZ dZ] 0 _ hHeld.2.2.2);have FR:=Hd (hHeld.2.2.1.rat hR [.bool gz,.slice AZ nZ cZ,.slice BZ mZ dZ])
 go_simp;refine hKK.out _ _ (⟨hHeld.1.other (by omega) 0 [.bool gz,.slice AZ nZ cZ,.slice BZ mZ dZ],hHeld.2.1.other (by omega) 0 [.bool gz,.slice AZ nZ cZ,.slice BZ mZ dZ],hHeld.2.2.1.sets [.bool gz,.slice AZ nZ cZ,.slice BZ mZ dZ] rfl rfl,below_sets (by omega) [.bool gz,.slice AZ nZ cZ,.slice BZ mZ dZ] 0 _ hHeld.2.2.2⟩) (fun _=>?_);clear hKK KK hHeld;rename_i hHeld;(try simp only [Act.put,lay]);refine wpAnyH_done (by kernel_rfl) ?_ _;have hk0:=HK.out 0 (by decide);have hk1:=HK.out 1 (by decide);have hk2:=HK.out 2 (by decide)
 simp [sets] at hk0 hk1 hk2
 clear hHeld HK hX hbA hY hbB hR hbC;clear LB0 LR0 LG0_0 LG1_0;go_wp2;refine bodyPost_ret (v:=.agg #[.bool gz,.slice AZ nZ cZ,.slice BZ mZ dZ]) (by simp [results,Tryz.results36,go_sem,hk0,hk1,hk2]) rfl ?_
 exact⟨_,_,_,rfl,FR.out,F.out⟩
theorem rmul_w(K:Nat)(g1:Bool)(vn1 vd1:Value)(x1:Rat)(g2:Bool)(vn2 vd2:Value)(x2:Rat)(w:World)(h1:RatW w K g1 vn1 vd1 x1)(h2:RatW w K g2 vn2 vd2 x2)(hK0:1≤K)(hK:K≤1048576):
  Calls Tryz.prog 36 #[.agg #[.bool g1,vn1,vd1],.agg #[.bool g2,vn2,vd2]] w (NewRat w (2*K) (x1*x2)):=by
 obtain⟨p1,q1,A1,n1,c1,B1,m1,d1,rfl,rfl,u1,v1,hq1,⟨l1,l2⟩,k1,k2,rfl⟩:=h1;obtain⟨p2,q2,A2,n2,c2,B2,m2,d2,rfl,rfl,u2,v2,hq2,⟨l3,l4⟩,k3,k4,rfl⟩:=h2;rw [rv_mul]
 exact rmul_walkn (2*K) g1 g2 p1 q1 p2 q2 A1 n1 c1 B1 m1 d1 A2 n2 c2 B2 m2 d2 w u1 v1 u2 v2 (by omega) (by omega) (by omega) (by omega) (Nat.mul_pos hq1 hq2) (pow_mm _ _ k1 k3) (pow_mm _ _ k2 k4) (by omega) (by omega)
theorem rquo_walkn(K:Nat)(g1 g2:Bool)(p1 q1 p2 q2:Nat)(A1:Option Addr)(n1 c1:Nat)(B1:Option Addr)(m1 d1:Nat)(A2:Option Addr)(n2 c2:Nat)(B2:Option Addr)(m2 d2:Nat)(w:World)(u1:U32n w A1 n1 c1 p1)(v1:U32n w B1 m1 d1 q1)(u2:U32n w A2 n2 c2 p2)(v2:U32n w B2 m2 d2 q2)(l1:n1≤8589934592)(l2:m1≤8589934592)(l3:n2≤8589934592)(l4:m2≤8589934592)(hD:0<q1*p2)(k1:p1*q2<2^(32*K))(k2:q1*p2<2^(32*K))(hK:1≤K)(hK2:K≤1073741824):
  Calls Tryz.prog 43 #[.agg #[.bool g1,.slice A1 n1 c1,.slice B1 m1 d1],.agg #[.bool g2,.slice A2 n2 c2,.slice B2 m2 d2]] w (NewRat w K (rv (g1 != g2) (p1*q2) (q1*p2))):=by
 have T1:=Hd fun W (hW:Below w.heap.size w W)=>times_n A1 B2 n1 c1 m2 d2 p1 q2 W (u1.below hW) (v2.below hW) l1 l4;have T2:=Hd fun W (hW:Below w.heap.size w W)=>times_n B1 A2 m1 d1 n2 c2 q1 p2 W (v1.below hW) (u2.below hW) l2 l3
 obtain⟨X,eX⟩:∃ x,p1*q2=x:=⟨_,rfl⟩
 obtain⟨D,eD⟩:∃ x,q1*p2=x:=⟨_,rfl⟩
 rw [eX] at T1 k1 ⊢;rw [eD] at T2 k2 hD ⊢;have T3:=Hd fun g W (A:Option Addr) (n c:Nat) (B:Option Addr) (m d:Nat) (hx:U32s W A n c (digs X)) (hy:U32s W B m d (digs D))=>frac_plain g A B n c m d K X D W hx hy hD k1 k2 hK hK2;clear u1 v1 u2 v2 l1 l2 l3 l4 hD k1 k2 hK hK2 eX eD;obtain⟨LB0,LG0_0,LG1_0,LR⟩:=bx3 w #[.bool g1,.slice A1 n1 c1,.slice B1 m1 d1] 42 #[.bool g2,.slice A2 n2 c2,.slice B2 m2 d2] 42 #[.bool false,.slice none 0 0,.slice none 0 0] 42;have LR0:=Hd (HasBlk.of (n:=3) LR.out rfl rfl);clear LR
 go_enter Tryz.func43,Tryz.ntmps43
 go_wp2_with fail;refine wp_region_held_drew (S:=fun W'=>Blk W' w.heap.size 42 #[.bool g1,.slice A1 n1 c1,.slice B1 m1 d1]∧Blk W' (w.heap.size+1) 42 #[.bool g2,.slice A2 n2 c2,.slice B2 m2 d2]∧HasBlk W' (w.heap.size+2) 42 3∧Below w.heap.size w W') (by kernel_rfl) (by exact⟨LG0_0.out.drew,LG1_0.out.drew,LR0.out.drew,LB0.out.drew⟩) (fun hHeld=>?_);refine tk 0 ?_;(try simp only [Act.put,lay]);refine tk 1 ?_ (hv:=by intro W2 hSw;obtain⟨q0,q1,q2⟩:=hSw.1.c3;go_simp;(try with_reducible rfl));(try simp only [Act.put,lay]);refine tk 2 ?_;(try simp only [Act.put,lay]);refine tk 3 ?_ (hv:=by intro W2 hSw;obtain⟨q0,q1,q2⟩:=hSw.2.1.c3;go_simp;(try with_reducible rfl));(try simp only [Act.put,lay]);refine tk 4 ?_;(try simp only [Act.put,lay]);refine tk 5 ?_;(try simp only [Act.put,lay]);refine tk 6 ?_ (hv:=by intro W2 hSw;obtain⟨q0,q1,q2⟩:=hSw.1.c3;go_simp;(try with_reducible rfl));(try simp only [Act.put,lay]);refine tk 7 ?_;(try simp only [Act.put,lay]);refine tk 8 ?_ (hv:=by intro W2 hSw;obtain⟨q0,q1,q2⟩:=hSw.2.1.c3;go_simp;(try with_reducible rfl));(try simp only [Act.put,lay]);refine tk 10 ?_;(try simp only [Act.put,lay]);refine tk 11 ?_ (hv:=by intro W2 hSw;obtain⟨q0,q1,q2⟩:=hSw.1.c3;go_simp;(try with_reducible rfl));(try simp only [Act.put,lay]);refine tk 12 ?_;(try simp only [Act.put,lay]);refine tk 13 ?_ (hv:=by intro W2 hSw;obtain⟨q0,q1,q2⟩:=hSw.2.1.c3;go_simp;(try with_reducible rfl));(try simp only [Act.put,lay]);refine rdy 9 (fun KK hKK=>?_);go_simp;refine (T1.out _ hHeld.2.2.2).mono ?_
 rintro e w1 ⟨AX,nX,cX,rfl,hX,hbA⟩;go_wp2_with fail;refine hKK.out _ _ (⟨hHeld.1.keep hbA,hHeld.2.1.keep hbA,hHeld.2.2.1.keep hbA,hHeld.2.2.2.trans (hbA.mono hHeld.2.2.2.size)⟩) (fun _=>?_);clear hKK KK hHeld;rename_i hHeld;(try simp only [Act.put,lay]);refine rdy 14 (fun KK hKK=>?_);go_simp;refine (T2.out _ hHeld.2.2.2).mono ?_;rintro e w2 ⟨AY,nY,cY,rfl,hY,hbB⟩;go_wp2_with fail;refine hKK.out _ _ (⟨hHeld.1.keep hbB,hHeld.2.1.keep hbB,hHeld.2.2.1.keep hbB,hHeld.2.2.2.trans (hbB.mono hHeld.2.2.2.size)⟩) (fun _=>?_);clear hKK KK hHeld;rename_i hHeld;(try simp only [Act.put,lay]);refine rdy 15 (fun KK hKK=>?_);go_simp;refine (T3.out _ _ _ _ _ _ _ _ (hX.below hbB) hY).mono ?_;rintro e w3 ⟨gz,vn,vd,rfl,hR,hbC⟩;obtain⟨AZ,nZ,cZ,BZ,mZ,dZ,rfl,rfl⟩:=hR.shape;go_wp2_with fail;refine hKK.out _ _ (⟨hHeld.1.keep hbC,hHeld.2.1.keep hbC,hHeld.2.2.1.keep hbC,hHeld.2.2.2.trans (hbC.mono hHeld.2.2.2.size)⟩) (fun _=>?_);clear hKK KK hHeld;rename_i hHeld;(try simp only [Act.put,lay]);refine rdy 16 (fun KK hKK=>?_);have ha0:=hHeld.2.2.1.someCell 0 (by decide);have hf0:=hHeld.2.2.1.frozen 0;have ha1:=hHeld.2.2.1.someCell 1 (by decide);have hf1:=hHeld.2.2.1.frozen 1;have ha2:=hHeld.2.2.1.someCell 2 (by decide);have hf2:=hHeld.2.2.1.frozen 2;have HK:=Hd (hHeld.2.2.1.setCell [.bool gz,.slice AZ nZ cZ,.slice BZ mZ dZ] rfl);have F:=Hd (below_sets (w0:=w) (r:=(w.heap.size+2)) (by omega) [.bool gz,.slice AZ nZ cZ,.slice BZ mZ dZ] 0 _ hHeld.2.2.2);have FR:=Hd (hHeld.2.2.1.rat hR [.bool gz,.slice AZ nZ cZ,.slice BZ mZ dZ])
 go_simp;refine hKK.out _ _ (⟨hHeld.1.other (by omega) 0 [.bool gz,.slice AZ nZ cZ,.slice BZ mZ dZ],hHeld.2.1.other (by omega) 0 [.bool gz,.slice AZ nZ cZ,.slice BZ mZ dZ],hHeld.2.2.1.sets [.bool gz,.slice AZ nZ cZ,.slice BZ mZ dZ] rfl rfl,below_sets (by omega) [.bool gz,.slice AZ nZ cZ,.slice BZ mZ dZ] 0 _ hHeld.2.2.2⟩) (fun _=>?_);clear hKK KK hHeld;rename_i hHeld;(try simp only [Act.put,lay]);refine wpAnyH_done (by kernel_rfl) ?_ _;have hk0:=HK.out 0 (by decide);have hk1:=HK.out 1 (by decide);have hk2:=HK.out 2 (by decide)
 simp [sets] at hk0 hk1 hk2
 clear hHeld HK hX hbA hY hbB hR hbC;clear LB0 LR0 LG0_0 LG1_0;go_wp2;refine bodyPost_ret (v:=.agg #[.bool gz,.slice AZ nZ cZ,.slice BZ mZ dZ]) (by simp [results,Tryz.results43,go_sem,hk0,hk1,hk2]) rfl ?_
 exact⟨_,_,_,rfl,FR.out,F.out⟩
theorem rquo_w(K:Nat)(g1:Bool)(vn1 vd1:Value)(x1:Rat)(g2:Bool)(vn2 vd2:Value)(x2:Rat)(w:World)(h1:RatW w K g1 vn1 vd1 x1)(h2:RatW w K g2 vn2 vd2 x2)(hK0:1≤K)(hK:K≤1048576)(hx:x2≠0):
  Calls Tryz.prog 43 #[.agg #[.bool g1,vn1,vd1],.agg #[.bool g2,vn2,vd2]] w (NewRat w (2*K) (x1 / x2)):=by
 obtain⟨p1,q1,A1,n1,c1,B1,m1,d1,rfl,rfl,u1,v1,hq1,⟨l1,l2⟩,k1,k2,rfl⟩:=h1;obtain⟨p2,q2,A2,n2,c2,B2,m2,d2,rfl,rfl,u2,v2,hq2,⟨l3,l4⟩,k3,k4,rfl⟩:=h2
 have hp2:0<p2:=by
  rcases Nat.eq_zero_or_pos p2 with h | h
  ·exact absurd (by rw [h,rv_zero]) hx
  ·exact h
 rw [rv_quo _ _ _ _ _ _ hq1 hq2 hp2]
 exact rquo_walkn (2*K) g1 g2 p1 q1 p2 q2 A1 n1 c1 B1 m1 d1 A2 n2 c2 B2 m2 d2 w u1 v1 u2 v2 (by omega) (by omega) (by omega) (by omega) (Nat.mul_pos hq1 hp2) (pow_mm _ _ k1 k4) (pow_mm _ _ k2 k3) (by omega) (by omega)
theorem ecmp_w(K:Nat)(s1:Int)(g1:Bool)(A1:Option Addr)(n1 c1:Nat)(B1:Option Addr)(m1 d1:Nat)(x1:Rat)(s2:Int)(g2:Bool)(A2:Option Addr)(n2 c2:Nat)(B2:Option Addr)(m2 d2:Nat)(x2:Rat)(w:World)(h1:RatW w K g1 (.slice A1 n1 c1) (.slice B1 m1 d1) x1)(h2:RatW w K g2 (.slice A2 n2 c2) (.slice B2 m2 d2) x2)(hK:K≤1073741824):
  Calls Tryz.prog 94 #[.agg #[.int .i64 s1,.bool g1,.slice A1 n1 c1,.slice B1 m1 d1],.agg #[.int .i64 s2,.bool g2,.slice A2 n2 c2,.slice B2 m2 d2]] w fun e w'=>e=.returned (.int .i64 (ec s1 x1 s2 x2))∧Below w.heap.size w w':=by
 rcases Int.lt_trichotomy s1 s2 with h | h | h
 ·rw [ec_lt x1 x2 h]
  have hq:(s1 == s2)=false:=by simp;omega
  obtain⟨LB0,LG0_0,LG1_0⟩:=bx2 w #[.int .i64 s1,.bool g1,.slice A1 n1 c1,.slice B1 m1 d1] 87 #[.int .i64 s2,.bool g2,.slice A2 n2 c2,.slice B2 m2 d2] 87
  go_enter Tryz.func94,Tryz.ntmps94
  go_wp2
  go_ret
  exact⟨rfl,LB0.out⟩
 ·subst h
  by_cases h0:s1=0
  ·subst h0;rw [ec_zero];obtain⟨LB0,LG0_0,LG1_0⟩:=bx2 w #[.int .i64 0,.bool g1,.slice A1 n1 c1,.slice B1 m1 d1] 87 #[.int .i64 0,.bool g2,.slice A2 n2 c2,.slice B2 m2 d2] 87;have HC:=Hd fun W (hW:Below w.heap.size w W)=>rcmp_w K g1 _ _ x1 g2 _ _ x2 W (h1.below hW) (h2.below hW) hK;clear h1 h2
   go_enter Tryz.func94,Tryz.ntmps94
   go_wp2_with fail;refine (HC.out _ LB0.out).mono ?_;rintro e w1 ⟨rfl,hb1⟩;have LB1:=stB LB0 hb1 LB0.out.size;have LG0_1:=stG LG0_0 hb1;have LG1_1:=stG LG1_0 hb1;clear LB0 LG0_0 LG1_0;go_wp2
   go_ret
   exact⟨rfl,LB1.out⟩
  ·rw [ec_inf x1 x2 rfl h0]
   have hq:(s1 == 0)=false:=by simp;omega
   obtain⟨LB0,LG0_0,LG1_0⟩:=bx2 w #[.int .i64 s1,.bool g1,.slice A1 n1 c1,.slice B1 m1 d1] 87 #[.int .i64 s1,.bool g2,.slice A2 n2 c2,.slice B2 m2 d2] 87
   go_enter Tryz.func94,Tryz.ntmps94
   go_wp2
   go_ret
   exact⟨rfl,LB0.out⟩
 ·rw [ec_gt x1 x2 h]
  have hq:(s1 == s2)=false:=by simp;omega
  have hq2:¬ s1<s2:=by omega
  obtain⟨LB0,LG0_0,LG1_0⟩:=bx2 w #[.int .i64 s1,.bool g1,.slice A1 n1 c1,.slice B1 m1 d1] 87 #[.int .i64 s2,.bool g2,.slice A2 n2 c2,.slice B2 m2 d2] 87
  go_enter Tryz.func94,Tryz.ntmps94
  go_wp2
  go_ret
  exact⟨rfl,LB0.out⟩
end Go.Proofs.YthlmlmfebpjgdaaGreatDoor
