/-
Lemmas for the statement: RwT RngT StepP StepI.
-/
import Derived.Test.YthlmlmfebpjgdaaGreatDoorM04
import Derived.Test.YthlmlmfebpjgdaaGreatDoorM08
import Derived.Test.YthlmlmfebpjgdaaGreatDoorM03
import Derived.Deep.DeepCutAuto
import Derived.Test.YthlmlmfebpjgdaaGreatDoorM05
set_option linter.unusedSimpArgs false
set_option linter.unusedVariables false
set_option maxHeartbeats 12800000
set_option maxRecDepth 8000
namespace Go.Proofs.YthlmlmfebpjgdaaGreatDoor
open Go.Proofs.Tryz
open Go.RowKit
def U32n(w:World)(A:Option Addr)(n c a:Nat):Prop:=∃ xs,U32s w A n c xs/\num xs=a
theorem U32n.below{w w':World}{A:Option Addr}{n c a:Nat}(h:U32n w A n c a)(hb:Below w.heap.size w w'):U32n w' A n c a:=by
 obtain⟨xs,h1,h2⟩:=h
 exact⟨xs,h1.below hb,h2⟩
theorem U32s.n{w:World}{A:Option Addr}{n c a:Nat}(h:U32s w A n c (digs a)):U32n w A n c a:=⟨_,h,num_digs a⟩
theorem times_n(A B:Option Addr)(n c m d a b:Nat)(w:World)(hx:U32n w A n c a)(hy:U32n w B m d b)(hs1:n<=8589934592)(hs2:m<=8589934592):
  Calls prog 95 #[.slice A n c,.slice B m d] w (NewU32 w (digs (a*b))):=by
 obtain⟨xs,hx,rfl⟩:=hx;obtain⟨ys,hy,rfl⟩:=hy
 exact times_any A B n c m d xs ys w hx hy hs1 hs2
theorem norm_n{v:Nat}(A:Option Addr)(n c:Nat)(w:World)(h:U32n w A n c v)(hs:n<=34359738367):
  Calls prog 93 #[.slice A n c] w fun e w'=>∃ A1 n1 c1,e=.returned (.slice A1 n1 c1)/\U32s w' A1 n1 c1 (digs v)/\n1<=n/\(0<v->0<n1)/\Below w.heap.size w w':=by
 obtain⟨xs,h1,h2⟩:=h
 exact norm_v A n c xs w h1 hs h2
def RatW(w:World)(K:Nat)(neg:Bool)(vn vd:Value)(x:Rat):Prop:=
 ∃ (p q:Nat) (A:Option Addr) (n c:Nat) (B:Option Addr) (m d:Nat),vn=.slice A n c/\vd=.slice B m d/\U32n w A n c p/\U32n w B m d q /\
  0<q/\(n<=K/\m<=K)/\p<2^(32*K)/\q<2^(32*K)/\x=rv neg p q
theorem RatW.below{w w':World}{K:Nat}{neg:Bool}{vn vd:Value}{x:Rat}(h:RatW w K neg vn vd x)(hb:Below w.heap.size w w'):RatW w' K neg vn vd x:=by
 obtain⟨p,q,A,n,c,B,m,d,h1,h2,h3,h4,h5⟩:=h
 exact⟨p,q,A,n,c,B,m,d,h1,h2,h3.below hb,h4.below hb,h5⟩
theorem RatW.shape{w:World}{K:Nat}{neg:Bool}{vn vd:Value}{x:Rat}(h:RatW w K neg vn vd x):∃ (A:Option Addr) (n c:Nat) (B:Option Addr) (m d:Nat),vn=.slice A n c/\vd=.slice B m d:=by
 obtain⟨p,q,A,n,c,B,m,d,h1,h2,-⟩:=h
 exact⟨A,n,c,B,m,d,h1,h2⟩
theorem RatW.mono{w:World}{K K':Nat}{neg:Bool}{vn vd:Value}{x:Rat}(h:RatW w K neg vn vd x)(hk:K<=K'):RatW w K' neg vn vd x:=by
 obtain⟨p,q,A,n,c,B,m,d,h1,h2,h3,h4,h5,h6,h7,h8,h9⟩:=h;have:=Nat.pow_le_pow_right (n:=2) (by omega) (show 32*K<=32*K' by omega)
 exact⟨p,q,A,n,c,B,m,d,h1,h2,h3,h4,h5,by omega,by omega,by omega,h9⟩
theorem RatV.w{w:World}{K:Nat}{neg:Bool}{vn vd:Value}{x:Rat}(h:RatV w K neg vn vd x):RatW w K neg vn vd x:=by
 obtain⟨p,q,A,n,c,B,m,d,h1,h2,h3,h4,h5,h6,h7,h8,h9⟩:=h
 exact⟨p,q,A,n,c,B,m,d,h1,h2,h3.n,h4.n,h5,⟨h3.len_le h7,h4.len_le h8⟩,h7,h8,h9⟩
theorem rsg_rw{neg:Bool}{p q:Nat}(hq:0<q):rsg (rv neg p q)=if p=0 then 0 else if neg then -1 else 1:=by
 rcases Nat.eq_zero_or_pos p with hp | hp
 ·subst hp;rw [rv_zero];simp [rsg]
 ·exact rsg_rv hq (by omega)
theorem rsign_w(K:Nat)(neg:Bool)(vn vd:Value)(x:Rat)(w:World)(h:RatW w K neg vn vd x)(hK:K<=1073741824):
  Rt 42 #[.agg #[.bool neg,vn,vd]] (.int .i64 (rsg x)) w:=by
 obtain⟨p,q,A,n,c,B,m,d,rfl,rfl,hu,-,hq,⟨hn,-⟩,hp,-,rfl⟩:=h;rw [rsg_rw hq]
 obtain⟨s,hs⟩:∃ s:Int,(if p=0 then 0 else if neg then -1 else 1)=s:=⟨_,rfl⟩
 have hs0:p=0->s=0:=by intro h;rw [if_pos h] at hs;exact hs.symm
 have hs1:p≠0->neg=true->s=-1:=by intro h h';rw [if_neg h,if_pos h'] at hs;exact hs.symm
 have hs2:p≠0->neg=false->s=1:=by intro h h';rw [if_neg h,h'] at hs;exact hs.symm
 rw [hs];clear hs;have ba:=below_alloc w (.cells (Zr neg A n c B m d) 42);have HN:=Hd (norm_n A n c _ (hu.below ba) (by omega));clear hp hu
 go_enter func42,ntmps42
 go_wp2_with fail;refine HN.out.mono ?_;rintro e w1 ⟨A1,n1,c1,rfl,hu1,hn1,hp1,hb1⟩;have hblk:=(Blk.new w 42 (Zr neg A n c B m d)).keep hb1;have k0:=hblk.cell 0;have hlt:=hblk.lt
 have hz:n1=0↔p=0:=by
  have:=@digs_length_eq_zero p;rw [hu1.len] at this;exact this
 have HB:=Hd (ba.trans (hb1.mono ba.size));clear hblk hb1 hu1 hp1 HN ba
 simp at k0
 go_wp2
 ·obtain rfl:p=0:=by simp at *;omega
  go_ret
  exact⟨ret_int (hs0 rfl).symm,HB.out⟩
 ·have hp0:p≠0:=by simp at *;omega
  go_ret
  exact⟨ret_int (hs1 hp0 (by assumption)).symm,HB.out⟩
 ·have hp0:p≠0:=by simp at *;omega
  go_ret
  exact⟨ret_int (hs2 hp0 (by assumption)).symm,HB.out⟩
theorem rc_samew{n n':Bool}{p q p' q':Nat}(hq:0<q)(hq':0<q')(hs:rsg (rv n p q)=rsg (rv n' p' q')):
  rc (rv n p q) (rv n' p' q')=if rsg (rv n p q)=0 then 0 else if n then -cmp3 (p*q') (p'*q) else cmp3 (p*q') (p'*q):=by
 rw [rsg_rw hq,rsg_rw hq'] at hs;rw [rsg_rw hq]
 by_cases hp:p=0
 ·have hp':p'=0:=by
   rw [if_pos hp] at hs
   by_cases h:p'=0
   ·exact h
   ·rw [if_neg h] at hs;cases n'<;>simp at hs
  rw [if_pos hp,if_pos rfl,hp,hp',rv_zero,rv_zero];unfold rc;rw [if_neg (by grind),if_neg (by grind)]
 ·have hp':p'≠0:=by
   intro h
   rw [if_neg hp,if_pos h] at hs;cases n<;>simp at hs
  rw [if_neg hp,if_neg hp'] at hs;have l1:=@rv_lt_false p q p' q' hq hq';have l2:=@rv_lt_false p' q' p q hq' hq
  have hc:rc (rv false p q) (rv false p' q')=cmp3 (p*q') (p'*q):=by
   unfold rc cmp3
   by_cases h1:p*q'<p'*q
   ·rw [if_pos (l1.2 h1),if_pos h1]
   ·rw [if_neg (fun h=>h1 (l1.1 h)),if_neg h1]
    by_cases h2:p'*q<p*q'
    ·rw [if_pos (l2.2 h2),if_pos h2]
    ·rw [if_neg (fun h=>h2 (l2.1 h)),if_neg h2]
  cases n<;>cases n'<;>simp at hs
  ·rw [if_neg hp,if_neg (by decide),hc];rfl
  ·rw [if_neg hp,if_neg (by decide),if_pos rfl,<- hc,rv_true,rv_true];unfold rc
   by_cases h1:rv false p q<rv false p' q'
   ·rw [if_neg (by grind),if_pos (by grind),if_pos h1];rfl
   ·by_cases h2:rv false p' q'<rv false p q
    ·rw [if_pos (by grind),if_neg h1,if_pos h2]
    ·rw [if_neg (by grind),if_neg (by grind),if_neg h1,if_neg h2];rfl
theorem rcmp_w(K:Nat)(neg:Bool)(vn vd:Value)(x:Rat)(neg':Bool)(vn' vd':Value)(y:Rat)(w:World)(h:RatW w K neg vn vd x)(h':RatW w K neg' vn' vd' y)(hK:K<=1073741824):
  Rt 113 #[.agg #[.bool neg,vn,vd],.agg #[.bool neg',vn',vd']] (.int .i64 (rc x y)) w:=by
 obtain⟨A,n,c,B,m,d,rfl,rfl⟩:=h.shape;obtain⟨A',n',c',B',m',d',rfl,rfl⟩:=h'.shape;have H:=Hd h;have H':=Hd h';have ba:Below w.heap.size w ((w.alloc (.cells (Zr neg A n c B m d) 42)).alloc (.cells #[.bool neg',.slice A' n' c',.slice B' m' d'] 42)):=(below_alloc w _).alloc (by simp) _;have h1:=Hd (rsign_w K neg _ _ x _ (h.below ba) hK);have BA:=Hd ba;clear h h' ba
 go_enter func113,ntmps113
 go_wp2_with fail;refine h1.out.mono ?_;rintro e w1 ⟨rfl,hb1⟩;have B1:=Hd (BA.out.trans (hb1.mono BA.out.size));have K1:=Hd (((Blk.new w 42 (Zr neg A n c B m d)).alloc (.cells #[.bool neg',.slice A' n' c',.slice B' m' d'] 42)).keep hb1);have K2:=Hd ((Blk.new2 w (.cells (Zr neg A n c B m d) 42) 42 #[.bool neg',.slice A' n' c',.slice B' m' d']).keep hb1);have k0:=K2.out.cell 0;have k1:=K2.out.cell 1;have k2:=K2.out.cell 2;have h2:=Hd (rsign_w K neg' _ _ y _ (H'.out.below B1.out) hK);clear hb1 h1
 simp at k0 k1 k2
 go_wp2_with fail;refine h2.out.mono ?_;rintro e w2 ⟨rfl,hb2⟩;have B2:=Hd (B1.out.trans (hb2.mono B1.out.size));have Q1:=Hd (K1.out.keep hb2);have Q2:=Hd (K2.out.keep hb2);clear hb2 k0 k1 k2 K1 K2 h2 B1 BA
 obtain⟨s,hs⟩:∃ s,rsg x=s:=⟨_,rfl⟩
 obtain⟨t,ht⟩:∃ t,rsg y=t:=⟨_,rfl⟩
 have HS:=Hd hs;have HT:=Hd ht;rw [hs,ht];clear hs ht
 rcases Int.lt_trichotomy s t with h0 | h0 | h0
 ·go_wp2
  go_ret
  exact⟨ret_int (by rw [rc_below (by rw [HS.out,HT.out];exact h0)]),B2.out⟩
 ·subst h0;obtain⟨p,q,A1,n1,c1,D1,m1,d1,e1,e2,hu,hv,hq,⟨l1,l2⟩,-,-,rfl⟩:=H.out;obtain⟨p',q',A2,n2,c2,D2,m2,d2,e3,e4,hu',hv',hq',⟨l3,l4⟩,-,-,rfl⟩:=H'.out
  cases e1;cases e2;cases e3;cases e4
  have HTm:∀ (W:World) (A B:Option Addr) (n c m d a b:Nat),Below w.heap.size w W->U32n w A n c a->U32n w B m d b->n<=K->m<=K->Calls prog 95 #[.slice A n c,.slice B m d] W fun e w'=>∃ A1 n1 c1,e=.returned (.slice A1 n1 c1)/\U32s w' A1 n1 c1 (digs (a*b))/\Below W.heap.size W w'/\Below w.heap.size w w':=fun W A B n c m d a b hW h1 h2 h3 h4=>
   (times_n A B n c m d _ _ W (h1.below hW) (h2.below hW) (by omega) (by omega)).mono (by
    rintro e w' ⟨A1,n1,c1,h5,h6,h7⟩
    exact⟨A1,n1,c1,h5,h6,h7,hW.trans (h7.mono hW.size)⟩)
  have HCm:∀ (W:World) (A B:Option Addr) (n c m d a b:Nat),Below w.heap.size w W->U32s W A n c (digs a)->U32s W B m d (digs b)->Calls prog 98 #[.slice A n c,.slice B m d] W fun e w'=>e=.returned (.int .i64 (cmp3 a b))/\Below W.heap.size W w'/\Below w.heap.size w w':=fun W A B n c m d a b hW h1 h2=>
   (cmp_any A B n c m d _ _ W h1 h2).mono (by
    rintro e w' ⟨h5,k,rfl⟩;rw [num_digs,num_digs] at h5
    exact⟨h5,below_drewN (Below.refl _ _) k,below_drewN hW k⟩)
  have R:=Hd (rc_samew hq hq' (by rw [HS.out,HT.out]));have HU:=Hd hu;have HV:=Hd hv;have HU':=Hd hu';have HV':=Hd hv';have HTm:=Hd HTm;have HCm:=Hd HCm;have k0:=Q1.out.cell 0;have k1:=Q1.out.cell 1;have k2:=Q1.out.cell 2;have j1:=Q2.out.cell 1;have j2:=Q2.out.cell 2;have b2:=B2.out
  simp at k0 k1 k2 j1 j2
  clear hu hv hu' hv' H H' hq hq' Q1 Q2;go_wp2_with fail
  go_region_held3 (fun w'=>w'.cell? ⟨w.heap.size,0,none⟩=some (.bool neg)/\w'.cell? ⟨w.heap.size,1,none⟩=some (.slice A n c)/\w'.cell? ⟨w.heap.size,2,none⟩=some (.slice B m d)/\w'.cell? ⟨w.heap.size+1,1,none⟩=some (.slice A' n' c')/\w'.cell? ⟨w.heap.size+1,2,none⟩=some (.slice B' m' d')/\Below w.heap.size w w')
   (first | (exact heldc (by assumption) hb1) | (exact⟨k0,k1,k2,j1,j2,b2.drew⟩))
   (first | (go_at_call 95;refine (HTm.out _ _ _ _ _ _ _ ?_ ?_ ?_ ?_ ?_ ?_ ?_).mono ?_;rotate_left;rotate_left;(first | exact B2.out.drew | assumption);(first | exact HU.out | exact HU'.out);(first | exact HV.out | exact HV'.out);(assumption);(assumption);rintro e w1 ⟨A1,n1,c1,rfl,hu1,hb1,hbw⟩) | (go_at_call 98;refine (HCm.out _ _ _ _ _ _ _ ?_ ?_ ?_ ?_ ?_).mono ?_;rotate_left;rotate_left;(assumption);(exact U32s.below (by assumption) hb1);(assumption);rintro e w1 ⟨rfl,hb1,hbw⟩))
  rename_i hHeld;have kk:=hHeld.1;have BW:=Hd hbw;have hc:=cmp3_range (p*q') (p'*q)
  obtain⟨r,hr⟩:∃ r,rc (rv neg p q) (rv neg' p' q')=r:=⟨_,rfl⟩
  have R:=R.out;rw [hr,HS.out] at R
  obtain⟨c,hcc⟩:∃ c,cmp3 (p*q') (p'*q)=c:=⟨_,rfl⟩
  rw [hcc] at R hc ⊢;have Hr:=Hd hr
  have r0:s=0->r=0:=by intro h;rw [if_pos h] at R;exact R
  have r1:s≠0->neg=true->r=-c:=by intro h h2;rw [if_neg h,if_pos h2] at R;exact R
  have r2:s≠0->neg=false->r=c:=by intro h h2;rw [if_neg h,h2] at R;exact R
  have R0:=Hd r0;have R1:=Hd r1;have R2:=Hd r2;clear R r0 r1 r2 hr hcc hHeld hbw hb1 hu1 HS HT HCm HTm HU HV HU' HV' k0 k1 k2 j1 j2 b2
  rcases Int.lt_trichotomy s 0 with hs | hs | hs
  ·have hs1:(s == 0)=false:=by simp;omega
   cases neg
   ·go_wp2
    go_ret
    exact⟨ret_int (Hr.out.trans (R2.out (by omega) (by simp))).symm,BW.out⟩
   ·go_wp2
    go_ret
    exact⟨ret_int (Hr.out.trans (R1.out (by omega) (by simp))).symm,BW.out⟩
  ·subst hs
   cases neg
   ·go_wp2
    go_ret
    exact⟨ret_int (Hr.out.trans (R0.out (by simp))).symm,BW.out⟩
   ·go_wp2
    go_ret
    exact⟨ret_int (Hr.out.trans (R0.out (by simp))).symm,BW.out⟩
  ·have hs1:(s == 0)=false:=by simp;omega
   cases neg
   ·go_wp2
    go_ret
    exact⟨ret_int (Hr.out.trans (R2.out (by omega) (by simp))).symm,BW.out⟩
   ·go_wp2
    go_ret
    exact⟨ret_int (Hr.out.trans (R1.out (by omega) (by simp))).symm,BW.out⟩
 ·have h0':¬ s<t:=by omega
  go_wp2
  go_ret
  exact⟨ret_int (by rw [rc_above (by rw [HS.out,HT.out];exact h0)]),B2.out⟩
theorem radd_samen(K:Nat)(g:Bool)(p1 q1 p2 q2:Nat)(A1:Option Addr)(n1 c1:Nat)(B1:Option Addr)(m1 d1:Nat)(A2:Option Addr)(n2 c2:Nat)(B2:Option Addr)(m2 d2:Nat)(w:World)(u1:U32n w A1 n1 c1 p1)(v1:U32n w B1 m1 d1 q1)(u2:U32n w A2 n2 c2 p2)(v2:U32n w B2 m2 d2 q2)(l1:n1<=8589934592)(l2:m1<=8589934592)(l3:n2<=8589934592)(l4:m2<=8589934592)(hq1:0<q1)(hq2:0<q2)(hk1:p1*q2<2^(32*K))(hk2:p2*q1<2^(32*K))(hk3:q1*q2<2^(32*K))(hk4:p1*q2+p2*q1<2^(32*K))(hK:1<=K)(hK2:K<=1073741824):
  Calls prog 35 #[Zg g A1 n1 c1 B1 m1 d1,Zg g A2 n2 c2 B2 m2 d2] w (NewRat w K (rv g (p1*q2+p2*q1) (q1*q2))):=by
 have T1:=Hd fun W (hW:Below w.heap.size w W)=>times_n A1 B2 n1 c1 m2 d2 p1 q2 W (u1.below hW) (v2.below hW) l1 l4;have T2:=Hd fun W (hW:Below w.heap.size w W)=>times_n A2 B1 n2 c2 m1 d1 p2 q1 W (u2.below hW) (v1.below hW) l3 l2;have T3:=Hd fun W (hW:Below w.heap.size w W)=>times_n B1 B2 m1 d1 m2 d2 q1 q2 W (v1.below hW) (v2.below hW) l2 l4;have HQ:=Hd (Nat.mul_pos hq1 hq2)
 obtain⟨X,eX⟩:∃ x,p1*q2=x:=⟨_,rfl⟩
 obtain⟨Y,eY⟩:∃ x,p2*q1=x:=⟨_,rfl⟩
 obtain⟨D,eD⟩:∃ x,q1*q2=x:=⟨_,rfl⟩
 rw [eX,eY] at hk4 ⊢;rw [eX] at T1 hk1;rw [eY] at T2 hk2;rw [eD] at T3 HQ hk3 ⊢;have T4:=Hd fun W (A:Option Addr) (n c:Nat) (B:Option Addr) (m d:Nat) (hx:U32s W A n c (digs X)) (hy:U32s W B m d (digs Y))=>plus_v A B n c m d X Y W hx hy (by have:=hx.len_le hk1;omega) (by have:=hy.len_le hk2;omega)
 obtain⟨Z,eZ⟩:∃ x,X+Y=x:=⟨_,rfl⟩
 rw [eZ] at T4 hk4 ⊢;have T5:=Hd fun W (A:Option Addr) (n c:Nat) (B:Option Addr) (m d:Nat) (hx:U32s W A n c (digs Z)) (hy:U32s W B m d (digs D))=>frac_plain g A B n c m d K Z D W hx hy HQ.out hk4 hk3 hK hK2;clear u1 v1 u2 v2 l1 l2 l3 l4 hq1 hq2 hk1 hk2 hk3 hk4 hK hK2 eX eY eD eZ HQ;obtain⟨LB0,LG0_0,LG1_0,LR⟩:=bx3 w (Zr g A1 n1 c1 B1 m1 d1) 42 (Zr g A2 n2 c2 B2 m2 d2) 42 (Zr false none 0 0 none 0 0) 42;have LR0:=Hd (HasBlk.of (n:=3) LR.out rfl rfl);clear LR
 go_enter func35,ntmps35
 go_wp2_with fail;refine (T1.out _ LB0.out).mono ?_;rintro e w1 ⟨AX,nX,cX,rfl,hX,hb1⟩;have LB1:=stB LB0 hb1 LB0.out.size;have LR1:=stR LR0 hb1;have LG0_1:=stG LG0_0 hb1;have LG1_1:=stG LG1_0 hb1;clear LB0 LR0 LG0_0 LG1_0;obtain⟨q0_0,q0_1,q0_2⟩:=LG0_1.out.c3;obtain⟨q1_0,q1_1,q1_2⟩:=LG1_1.out.c3;have HX1:=Hd hX;clear hX hb1 T1;go_wp2_with fail;refine (T2.out _ LB1.out).mono ?_;rintro e w2 ⟨AY,nY,cY,rfl,hY,hb2⟩;have LB2:=stB LB1 hb2 LB1.out.size;have LR2:=stR LR1 hb2;have LG0_2:=stG LG0_1 hb2;have LG1_2:=stG LG1_1 hb2;clear LB1 LR1 LG0_1 LG1_1;have HX2:=Hd (HX1.out.below hb2);have HY2:=Hd hY;clear hY hb2 HX1 T2 q0_0 q0_1 q0_2 q1_0 q1_1 q1_2;obtain⟨q0_0,q0_1,q0_2⟩:=LG0_2.out.c3;obtain⟨q1_0,q1_1,q1_2⟩:=LG1_2.out.c3;go_wp2_with fail;refine (T3.out _ LB2.out).mono ?_;rintro e w3 ⟨AD,nD,cD,rfl,hD,hb3⟩;have LB3:=stB LB2 hb3 LB2.out.size;have LR3:=stR LR2 hb3;have LG0_3:=stG LG0_2 hb3;have LG1_3:=stG LG1_2 hb3;clear LB2 LR2 LG0_2 LG1_2;have HX3:=Hd (HX2.out.below hb3);have HY3:=Hd (HY2.out.below hb3);have HD3:=Hd hD;clear hD hb3 HX2 HY2 T3 q0_0 q0_1 q0_2 q1_0 q1_1 q1_2;have q0_0:=LG0_3.out.ce 0 rfl;have q1_0:=LG1_3.out.ce 0 rfl;go_wp2_with fail;clear q0_0 q1_0;refine wp_region_held_drew (S:=fun W'=>Blk W' w.heap.size 42 (Zr g A1 n1 c1 B1 m1 d1)/\Blk W' (w.heap.size+1) 42 (Zr g A2 n2 c2 B2 m2 d2)/\HasBlk W' (w.heap.size+2) 42 3/\Below w.heap.size w W') (by kernel_rfl) (by exact⟨LG0_3.out.drew,LG1_3.out.drew,LR3.out.drew,LB3.out.drew⟩) (fun hHeld=>?_);refine tks 0 ?_
 refine tkb 1 (fun _ h=>h.1.c3) ?_;refine tks 2 ?_;refine tks 3 ?_;refine tks 5 ?_;refine rdy 4 fun KK hKK=>?_;go_simp;refine (T4.out _ _ _ _ _ _ _ HX3.out.drew HY3.out.drew).mono ?_;rintro e w6 ⟨AS,nS,cS,rfl,hS,hbA⟩;go_wp2_with fail;refine hKK.out _ _ (⟨hHeld.1.keep hbA,hHeld.2.1.keep hbA,hHeld.2.2.1.keep hbA,hHeld.2.2.2.trans (hbA.mono hHeld.2.2.2.size)⟩) (fun _=>?_);clear hKK KK hHeld;rename_i hHeld;(try simp only [Act.put,lay]);refine rdy 6 fun KK hKK=>?_;go_simp;refine (T5.out _ _ _ _ _ _ _ hS (HD3.out.drew.below hbA)).mono ?_;rintro e w7 ⟨gz,vn,vd,rfl,hR,hbB⟩;obtain⟨AZ,nZ,cZ,BZ,mZ,dZ,rfl,rfl⟩:=hR.shape;go_wp2_with fail;refine hKK.out _ _ (⟨hHeld.1.keep hbB,hHeld.2.1.keep hbB,hHeld.2.2.1.keep hbB,hHeld.2.2.2.trans (hbB.mono hHeld.2.2.2.size)⟩) (fun _=>?_);clear hKK KK hHeld;rename_i hHeld;(try simp only [Act.put,lay]);refine rdy 7 fun KK hKK=>?_;have ha0:=hHeld.2.2.1.someCell 0 (by decide);have hf0:=hHeld.2.2.1.frozen 0;have ha1:=hHeld.2.2.1.someCell 1 (by decide);have hf1:=hHeld.2.2.1.frozen 1;have ha2:=hHeld.2.2.1.someCell 2 (by decide);have hf2:=hHeld.2.2.1.frozen 2;have HK:=Hd (hHeld.2.2.1.setCell [.bool gz,.slice AZ nZ cZ,.slice BZ mZ dZ] rfl);have F:=Hd (below_sets (w0:=w) (r:=(w.heap.size+2)) (by omega) [.bool gz,.slice AZ nZ cZ,.slice BZ mZ dZ] 0 _ hHeld.2.2.2);have FR:=Hd (hHeld.2.2.1.rat hR [.bool gz,.slice AZ nZ cZ,.slice BZ mZ dZ]);go_simp;refine hKK.out _ _ (⟨hHeld.1.other (by omega) 0 [.bool gz,.slice AZ nZ cZ,.slice BZ mZ dZ],hHeld.2.1.other (by omega) 0 [.bool gz,.slice AZ nZ cZ,.slice BZ mZ dZ],hHeld.2.2.1.sets [.bool gz,.slice AZ nZ cZ,.slice BZ mZ dZ] rfl rfl,below_sets (by omega) [.bool gz,.slice AZ nZ cZ,.slice BZ mZ dZ] 0 _ hHeld.2.2.2⟩) (fun _=>?_)
 clear hKK KK hHeld;rename_i hHeld;(try simp only [Act.put,lay]);refine wpAnyH_done (by kernel_rfl) ?_ _;have hk0:=HK.out 0 (by decide);have hk1:=HK.out 1 (by decide);have hk2:=HK.out 2 (by decide)
 simp [sets] at hk0 hk1 hk2
 clear hHeld HK hS hbA hR hbB;clear LB3 LR3 LG0_3 LG1_3;go_wp2;refine bodyPost_ret (v:=Zg gz AZ nZ cZ BZ mZ dZ) (by simp [results,results35,go_sem,hk0,hk1,hk2]) rfl ?_
 exact⟨_,_,_,rfl,FR.out,F.out⟩
theorem radd_gen(K:Nat)(g h:Bool)(p1 q1 p2 q2:Nat)(A1:Option Addr)(n1 c1:Nat)(B1:Option Addr)(m1 d1:Nat)(A2:Option Addr)(n2 c2:Nat)(B2:Option Addr)(m2 d2:Nat)(w:World)(u1:U32n w A1 n1 c1 p1)(v1:U32n w B1 m1 d1 q1)(u2:U32n w A2 n2 c2 p2)(v2:U32n w B2 m2 d2 q2)(l1:n1<=8589934592)(l2:m1<=8589934592)(l3:n2<=8589934592)(l4:m2<=8589934592)(hgh:(g == h)=false)(hle:p2*q1<=p1*q2)(hq1:0<q1)(hq2:0<q2)(hk1:p1*q2<2^(32*K))(hk2:p2*q1<2^(32*K))(hk3:q1*q2<2^(32*K))(hk4:p1*q2 - p2*q1<2^(32*K))(hK:1<=K)(hK2:K<=1073741824):
  Calls prog 35 #[Zg g A1 n1 c1 B1 m1 d1,Zg h A2 n2 c2 B2 m2 d2] w (NewRat w K (rv g (p1*q2 - p2*q1) (q1*q2))):=by
 have T1:=Hd fun W (hW:Below w.heap.size w W)=>times_n A1 B2 n1 c1 m2 d2 p1 q2 W (u1.below hW) (v2.below hW) l1 l4;have T2:=Hd fun W (hW:Below w.heap.size w W)=>times_n A2 B1 n2 c2 m1 d1 p2 q1 W (u2.below hW) (v1.below hW) l3 l2;have T3:=Hd fun W (hW:Below w.heap.size w W)=>times_n B1 B2 m1 d1 m2 d2 q1 q2 W (v1.below hW) (v2.below hW) l2 l4;have HQ:=Hd (Nat.mul_pos hq1 hq2)
 obtain⟨X,eX⟩:∃ x,p1*q2=x:=⟨_,rfl⟩
 obtain⟨Y,eY⟩:∃ x,p2*q1=x:=⟨_,rfl⟩
 obtain⟨D,eD⟩:∃ x,q1*q2=x:=⟨_,rfl⟩
 rw [eX,eY] at hk4 ⊢;rw [eX,eY] at hle;rw [eX] at T1 hk1;rw [eY] at T2 hk2;rw [eD] at T3 HQ hk3 ⊢;have T4:=Hd fun W (A:Option Addr) (n c:Nat) (B:Option Addr) (m d:Nat) (hx:U32s W A n c (digs X)) (hy:U32s W B m d (digs Y))=>minus_v A B n c m d X Y W hx hy (by have:=hx.len_le hk1;omega) hle
 obtain⟨Z,eZ⟩:∃ x,X - Y=x:=⟨_,rfl⟩
 rw [eZ] at T4 hk4 ⊢;have T5:=Hd fun W (A:Option Addr) (n c:Nat) (B:Option Addr) (m d:Nat) (hx:U32s W A n c (digs Z)) (hy:U32s W B m d (digs D))=>frac_plain g A B n c m d K Z D W hx hy HQ.out hk4 hk3 hK hK2;have HC:=Hd fun W (A:Option Addr) (n c:Nat) (B:Option Addr) (m d:Nat) (hx:U32s W A n c (digs X)) (hy:U32s W B m d (digs Y))=>cmp_w A B n c m d X Y W hx hy
 obtain⟨cc,ecc⟩:∃ x,cmp3 X Y=x:=⟨_,rfl⟩
 have hcc:0<=cc:=by rw [<- ecc];exact cmp3_nonneg.2 hle
 rw [ecc] at HC;clear u1 v1 u2 v2 l1 l2 l3 l4 hq1 hq2 hk1 hk2 hk3 hk4 hK hK2 eX eY eD eZ HQ hle ecc;obtain⟨LB0,LG0_0,LG1_0,LR⟩:=bx3 w (Zr g A1 n1 c1 B1 m1 d1) 42 (Zr h A2 n2 c2 B2 m2 d2) 42 (Zr false none 0 0 none 0 0) 42;have LR0:=Hd (HasBlk.of (n:=3) LR.out rfl rfl);clear LR
 go_enter func35,ntmps35
 go_wp2_with fail;refine (T1.out _ LB0.out).mono ?_;rintro e w1 ⟨AX,nX,cX,rfl,hX,hb1⟩;have LB1:=stB LB0 hb1 LB0.out.size;have LR1:=stR LR0 hb1;have LG0_1:=stG LG0_0 hb1;have LG1_1:=stG LG1_0 hb1;clear LB0 LR0 LG0_0 LG1_0;obtain⟨q0_0,q0_1,q0_2⟩:=LG0_1.out.c3;obtain⟨q1_0,q1_1,q1_2⟩:=LG1_1.out.c3;have HX1:=Hd hX;clear hX hb1 T1;go_wp2_with fail;refine (T2.out _ LB1.out).mono ?_;rintro e w2 ⟨AY,nY,cY,rfl,hY,hb2⟩;have LB2:=stB LB1 hb2 LB1.out.size;have LR2:=stR LR1 hb2;have LG0_2:=stG LG0_1 hb2;have LG1_2:=stG LG1_1 hb2;clear LB1 LR1 LG0_1 LG1_1;have HX2:=Hd (HX1.out.below hb2);have HY2:=Hd hY;clear hY hb2 HX1 T2 q0_0 q0_1 q0_2 q1_0 q1_1 q1_2;obtain⟨q0_0,q0_1,q0_2⟩:=LG0_2.out.c3;obtain⟨q1_0,q1_1,q1_2⟩:=LG1_2.out.c3;go_wp2_with fail;refine (T3.out _ LB2.out).mono ?_;rintro e w3 ⟨AD,nD,cD,rfl,hD,hb3⟩;have LB3:=stB LB2 hb3 LB2.out.size;have LR3:=stR LR2 hb3;have LG0_3:=stG LG0_2 hb3;have LG1_3:=stG LG1_2 hb3;clear LB2 LR2 LG0_2 LG1_2;have HX3:=Hd (HX2.out.below hb3);have HY3:=Hd (HY2.out.below hb3);have HD3:=Hd hD;clear hD hb3 HX2 HY2 T3 q0_0 q0_1 q0_2 q1_0 q1_1 q1_2;have q0_0:=LG0_3.out.ce 0 rfl;have q1_0:=LG1_3.out.ce 0 rfl;go_wp2_with fail;refine cx (HC.out _ _ _ _ _ _ _ HX3.out HY3.out) fun w4 hb4=>?_;have LB4:=stB LB3 hb4 LB3.out.size;have LR4:=stR LR3 hb4;have LG0_4:=stG LG0_3 hb4;have LG1_4:=stG LG1_3 hb4;clear LB3 LR3 LG0_3 LG1_3;have HX4:=Hd (HX3.out.below hb4);have HY4:=Hd (HY3.out.below hb4);have HD4:=Hd (HD3.out.below hb4);clear hb4 HX3 HY3 HD3 HC q0_0 q1_0
 go_wp2_with fail;clear hgh hcc;refine wp_region_held_drew (S:=fun W'=>Blk W' w.heap.size 42 (Zr g A1 n1 c1 B1 m1 d1)/\Blk W' (w.heap.size+1) 42 (Zr h A2 n2 c2 B2 m2 d2)/\HasBlk W' (w.heap.size+2) 42 3/\Below w.heap.size w W') (by kernel_rfl) (by exact⟨LG0_4.out.drew,LG1_4.out.drew,LR4.out.drew,LB4.out.drew⟩) (fun hHeld=>?_);refine tks 0 ?_;refine tkb 1 (fun _ h=>h.1.c3) ?_;refine tks 2 ?_;refine tks 3 ?_;refine tks 5 ?_;refine rdy 4 fun KK hKK=>?_;go_simp;refine (T4.out _ _ _ _ _ _ _ HX4.out.drew HY4.out.drew).mono ?_;rintro e w6 ⟨AS,nS,cS,rfl,hS,hbA⟩;go_wp2_with fail;refine hKK.out _ _ (⟨hHeld.1.keep hbA,hHeld.2.1.keep hbA,hHeld.2.2.1.keep hbA,hHeld.2.2.2.trans (hbA.mono hHeld.2.2.2.size)⟩) (fun _=>?_);clear hKK KK hHeld;rename_i hHeld;(try simp only [Act.put,lay]);refine rdy 6 fun KK hKK=>?_;go_simp;refine (T5.out _ _ _ _ _ _ _ hS (HD4.out.drew.below hbA)).mono ?_;rintro e w7 ⟨gz,vn,vd,rfl,hR,hbB⟩;obtain⟨AZ,nZ,cZ,BZ,mZ,dZ,rfl,rfl⟩:=hR.shape;go_wp2_with fail;refine hKK.out _ _ (⟨hHeld.1.keep hbB,hHeld.2.1.keep hbB,hHeld.2.2.1.keep hbB,hHeld.2.2.2.trans (hbB.mono hHeld.2.2.2.size)⟩) (fun _=>?_);clear hKK KK hHeld;rename_i hHeld;(try simp only [Act.put,lay]);refine rdy 7 fun KK hKK=>?_;have ha0:=hHeld.2.2.1.someCell 0 (by decide);have hf0:=hHeld.2.2.1.frozen 0;have ha1:=hHeld.2.2.1.someCell 1 (by decide);have hf1:=hHeld.2.2.1.frozen 1;have ha2:=hHeld.2.2.1.someCell 2 (by decide);have hf2:=hHeld.2.2.1.frozen 2;have HK:=Hd (hHeld.2.2.1.setCell [.bool gz,.slice AZ nZ cZ,.slice BZ mZ dZ] rfl);have F:=Hd (below_sets (w0:=w) (r:=(w.heap.size+2)) (by omega) [.bool gz,.slice AZ nZ cZ,.slice BZ mZ dZ] 0 _ hHeld.2.2.2);have FR:=Hd (hHeld.2.2.1.rat hR [.bool gz,.slice AZ nZ cZ,.slice BZ mZ dZ])
 go_simp;refine hKK.out _ _ (⟨hHeld.1.other (by omega) 0 [.bool gz,.slice AZ nZ cZ,.slice BZ mZ dZ],hHeld.2.1.other (by omega) 0 [.bool gz,.slice AZ nZ cZ,.slice BZ mZ dZ],hHeld.2.2.1.sets [.bool gz,.slice AZ nZ cZ,.slice BZ mZ dZ] rfl rfl,below_sets (by omega) [.bool gz,.slice AZ nZ cZ,.slice BZ mZ dZ] 0 _ hHeld.2.2.2⟩) (fun _=>?_);clear hKK KK hHeld;rename_i hHeld;(try simp only [Act.put,lay]);refine wpAnyH_done (by kernel_rfl) ?_ _;have hk0:=HK.out 0 (by decide);have hk1:=HK.out 1 (by decide);have hk2:=HK.out 2 (by decide)
 simp [sets] at hk0 hk1 hk2
 clear hHeld HK hS hbA hR hbB;clear LB4 LR4 LG0_4 LG1_4;go_wp2;refine bodyPost_ret (v:=Zg gz AZ nZ cZ BZ mZ dZ) (by simp [results,results35,go_sem,hk0,hk1,hk2]) rfl ?_
 exact⟨_,_,_,rfl,FR.out,F.out⟩
theorem radd_ltn(K:Nat)(g h:Bool)(p1 q1 p2 q2:Nat)(A1:Option Addr)(n1 c1:Nat)(B1:Option Addr)(m1 d1:Nat)(A2:Option Addr)(n2 c2:Nat)(B2:Option Addr)(m2 d2:Nat)(w:World)(u1:U32n w A1 n1 c1 p1)(v1:U32n w B1 m1 d1 q1)(u2:U32n w A2 n2 c2 p2)(v2:U32n w B2 m2 d2 q2)(l1:n1<=8589934592)(l2:m1<=8589934592)(l3:n2<=8589934592)(l4:m2<=8589934592)(hgh:(g == h)=false)(hle:p1*q2<p2*q1)(hq1:0<q1)(hq2:0<q2)(hk1:p1*q2<2^(32*K))(hk2:p2*q1<2^(32*K))(hk3:q1*q2<2^(32*K))(hk4:p2*q1 - p1*q2<2^(32*K))(hK:1<=K)(hK2:K<=1073741824):
  Calls prog 35 #[Zg g A1 n1 c1 B1 m1 d1,Zg h A2 n2 c2 B2 m2 d2] w (NewRat w K (rv h (p2*q1 - p1*q2) (q1*q2))):=by
 have T1:=Hd fun W (hW:Below w.heap.size w W)=>times_n A1 B2 n1 c1 m2 d2 p1 q2 W (u1.below hW) (v2.below hW) l1 l4;have T2:=Hd fun W (hW:Below w.heap.size w W)=>times_n A2 B1 n2 c2 m1 d1 p2 q1 W (u2.below hW) (v1.below hW) l3 l2;have T3:=Hd fun W (hW:Below w.heap.size w W)=>times_n B1 B2 m1 d1 m2 d2 q1 q2 W (v1.below hW) (v2.below hW) l2 l4;have HQ:=Hd (Nat.mul_pos hq1 hq2)
 obtain⟨X,eX⟩:∃ x,p1*q2=x:=⟨_,rfl⟩
 obtain⟨Y,eY⟩:∃ x,p2*q1=x:=⟨_,rfl⟩
 obtain⟨D,eD⟩:∃ x,q1*q2=x:=⟨_,rfl⟩
 rw [eX,eY] at hk4 ⊢;rw [eX,eY] at hle;rw [eX] at T1 hk1;rw [eY] at T2 hk2;rw [eD] at T3 HQ hk3 ⊢;have T4:=Hd fun W (A:Option Addr) (n c:Nat) (B:Option Addr) (m d:Nat) (hx:U32s W A n c (digs Y)) (hy:U32s W B m d (digs X))=>minus_v A B n c m d Y X W hx hy (by have:=hx.len_le hk2;omega) (Nat.le_of_lt hle)
 obtain⟨Z,eZ⟩:∃ x,Y - X=x:=⟨_,rfl⟩
 rw [eZ] at T4 hk4 ⊢;have T5:=Hd fun W (A:Option Addr) (n c:Nat) (B:Option Addr) (m d:Nat) (hx:U32s W A n c (digs Z)) (hy:U32s W B m d (digs D))=>frac_plain h A B n c m d K Z D W hx hy HQ.out hk4 hk3 hK hK2;have HC:=Hd fun W (A:Option Addr) (n c:Nat) (B:Option Addr) (m d:Nat) (hx:U32s W A n c (digs X)) (hy:U32s W B m d (digs Y))=>cmp_w A B n c m d X Y W hx hy
 obtain⟨cc,ecc⟩:∃ x,cmp3 X Y=x:=⟨_,rfl⟩
 have hcc:cc<0:=by rw [<- ecc];exact cmp3_neg.2 hle
 rw [ecc] at HC;clear u1 v1 u2 v2 l1 l2 l3 l4 hq1 hq2 hk1 hk2 hk3 hk4 hK hK2 eX eY eD eZ HQ hle ecc;obtain⟨LB0,LG0_0,LG1_0,LR⟩:=bx3 w (Zr g A1 n1 c1 B1 m1 d1) 42 (Zr h A2 n2 c2 B2 m2 d2) 42 (Zr false none 0 0 none 0 0) 42;have LR0:=Hd (HasBlk.of (n:=3) LR.out rfl rfl);clear LR
 go_enter func35,ntmps35
 go_wp2_with fail;refine (T1.out _ LB0.out).mono ?_;rintro e w1 ⟨AX,nX,cX,rfl,hX,hb1⟩;have LB1:=stB LB0 hb1 LB0.out.size;have LR1:=stR LR0 hb1;have LG0_1:=stG LG0_0 hb1;have LG1_1:=stG LG1_0 hb1;clear LB0 LR0 LG0_0 LG1_0;obtain⟨q0_0,q0_1,q0_2⟩:=LG0_1.out.c3;obtain⟨q1_0,q1_1,q1_2⟩:=LG1_1.out.c3;have HX1:=Hd hX;clear hX hb1 T1;go_wp2_with fail;refine (T2.out _ LB1.out).mono ?_;rintro e w2 ⟨AY,nY,cY,rfl,hY,hb2⟩;have LB2:=stB LB1 hb2 LB1.out.size;have LR2:=stR LR1 hb2;have LG0_2:=stG LG0_1 hb2;have LG1_2:=stG LG1_1 hb2;clear LB1 LR1 LG0_1 LG1_1;have HX2:=Hd (HX1.out.below hb2);have HY2:=Hd hY;clear hY hb2 HX1 T2 q0_0 q0_1 q0_2 q1_0 q1_1 q1_2;obtain⟨q0_0,q0_1,q0_2⟩:=LG0_2.out.c3;obtain⟨q1_0,q1_1,q1_2⟩:=LG1_2.out.c3;go_wp2_with fail;refine (T3.out _ LB2.out).mono ?_;rintro e w3 ⟨AD,nD,cD,rfl,hD,hb3⟩;have LB3:=stB LB2 hb3 LB2.out.size;have LR3:=stR LR2 hb3;have LG0_3:=stG LG0_2 hb3;have LG1_3:=stG LG1_2 hb3;clear LB2 LR2 LG0_2 LG1_2;have HX3:=Hd (HX2.out.below hb3);have HY3:=Hd (HY2.out.below hb3);have HD3:=Hd hD;clear hD hb3 HX2 HY2 T3 q0_0 q0_1 q0_2 q1_0 q1_1 q1_2;have q0_0:=LG0_3.out.ce 0 rfl;have q1_0:=LG1_3.out.ce 0 rfl;go_wp2_with fail;refine cx (HC.out _ _ _ _ _ _ _ HX3.out HY3.out) fun w4 hb4=>?_;have LB4:=stB LB3 hb4 LB3.out.size;have LR4:=stR LR3 hb4;have LG0_4:=stG LG0_3 hb4;have LG1_4:=stG LG1_3 hb4;clear LB3 LR3 LG0_3 LG1_3;have HX4:=Hd (HX3.out.below hb4);have HY4:=Hd (HY3.out.below hb4);have HD4:=Hd (HD3.out.below hb4);clear hb4 HX3 HY3 HD3 HC q0_0 q1_0
 go_wp2_with fail;clear hgh hcc;refine wp_region_held_drew (S:=fun W'=>Blk W' w.heap.size 42 (Zr g A1 n1 c1 B1 m1 d1)/\Blk W' (w.heap.size+1) 42 (Zr h A2 n2 c2 B2 m2 d2)/\HasBlk W' (w.heap.size+2) 42 3/\Below w.heap.size w W') (by kernel_rfl) (by exact⟨LG0_4.out.drew,LG1_4.out.drew,LR4.out.drew,LB4.out.drew⟩) (fun hHeld=>?_);refine tks 0 ?_;refine tkb 1 (fun _ h=>h.2.1.c3) ?_;refine tks 2 ?_;refine tks 3 ?_;refine tks 5 ?_;refine rdy 4 fun KK hKK=>?_;go_simp;refine (T4.out _ _ _ _ _ _ _ HY4.out.drew HX4.out.drew).mono ?_;rintro e w6 ⟨AS,nS,cS,rfl,hS,hbA⟩;go_wp2_with fail;refine hKK.out _ _ (⟨hHeld.1.keep hbA,hHeld.2.1.keep hbA,hHeld.2.2.1.keep hbA,hHeld.2.2.2.trans (hbA.mono hHeld.2.2.2.size)⟩) (fun _=>?_);clear hKK KK hHeld;rename_i hHeld;(try simp only [Act.put,lay]);refine rdy 6 fun KK hKK=>?_;go_simp;refine (T5.out _ _ _ _ _ _ _ hS (HD4.out.drew.below hbA)).mono ?_;rintro e w7 ⟨gz,vn,vd,rfl,hR,hbB⟩;obtain⟨AZ,nZ,cZ,BZ,mZ,dZ,rfl,rfl⟩:=hR.shape;go_wp2_with fail;refine hKK.out _ _ (⟨hHeld.1.keep hbB,hHeld.2.1.keep hbB,hHeld.2.2.1.keep hbB,hHeld.2.2.2.trans (hbB.mono hHeld.2.2.2.size)⟩) (fun _=>?_);clear hKK KK hHeld;rename_i hHeld;(try simp only [Act.put,lay]);refine rdy 7 fun KK hKK=>?_;have ha0:=hHeld.2.2.1.someCell 0 (by decide);have hf0:=hHeld.2.2.1.frozen 0;have ha1:=hHeld.2.2.1.someCell 1 (by decide);have hf1:=hHeld.2.2.1.frozen 1;have ha2:=hHeld.2.2.1.someCell 2 (by decide);have hf2:=hHeld.2.2.1.frozen 2;have HK:=Hd (hHeld.2.2.1.setCell [.bool gz,.slice AZ nZ cZ,.slice BZ mZ dZ] rfl);have F:=Hd (below_sets (w0:=w) (r:=(w.heap.size+2)) (by omega) [.bool gz,.slice AZ nZ cZ,.slice BZ mZ dZ] 0 _ hHeld.2.2.2);have FR:=Hd (hHeld.2.2.1.rat hR [.bool gz,.slice AZ nZ cZ,.slice BZ mZ dZ])
 go_simp;refine hKK.out _ _ (⟨hHeld.1.other (by omega) 0 [.bool gz,.slice AZ nZ cZ,.slice BZ mZ dZ],hHeld.2.1.other (by omega) 0 [.bool gz,.slice AZ nZ cZ,.slice BZ mZ dZ],hHeld.2.2.1.sets [.bool gz,.slice AZ nZ cZ,.slice BZ mZ dZ] rfl rfl,below_sets (by omega) [.bool gz,.slice AZ nZ cZ,.slice BZ mZ dZ] 0 _ hHeld.2.2.2⟩) (fun _=>?_);clear hKK KK hHeld;rename_i hHeld;(try simp only [Act.put,lay]);refine wpAnyH_done (by kernel_rfl) ?_ _;have hk0:=HK.out 0 (by decide);have hk1:=HK.out 1 (by decide);have hk2:=HK.out 2 (by decide)
 simp [sets] at hk0 hk1 hk2
 clear hHeld HK hS hbA hR hbB;clear LB4 LR4 LG0_4 LG1_4;go_wp2;refine bodyPost_ret (v:=Zg gz AZ nZ cZ BZ mZ dZ) (by simp [results,results35,go_sem,hk0,hk1,hk2]) rfl ?_
 exact⟨_,_,_,rfl,FR.out,F.out⟩
theorem radd_w(K:Nat)(g1:Bool)(vn1 vd1:Value)(x1:Rat)(g2:Bool)(vn2 vd2:Value)(x2:Rat)(w:World)(h1:RatW w K g1 vn1 vd1 x1)(h2:RatW w K g2 vn2 vd2 x2)(hK:K<=1048576):
  Calls prog 35 #[.agg #[.bool g1,vn1,vd1],.agg #[.bool g2,vn2,vd2]] w (NewRat w (2*K+1) (x1+x2)):=by
 obtain⟨p1,q1,A1,n1,c1,B1,m1,d1,rfl,rfl,u1,v1,hq1,⟨l1,l2⟩,k1,k2,rfl⟩:=h1;obtain⟨p2,q2,A2,n2,c2,B2,m2,d2,rfl,rfl,u2,v2,hq2,⟨l3,l4⟩,k3,k4,rfl⟩:=h2
 have mm:∀ a b:Nat,a<2^(32*K)->b<2^(32*K)->a*b<2^(64*K):=by
  intro a b ha hb
  have h:2^(64*K)=2^(32*K)*2^(32*K):=by rw [<- Nat.pow_add];congr 1;omega
  rw [h]
  exact Nat.mul_lt_mul'' ha hb
 have e1:=mm p1 q2 k1 k4;have e2:=mm p2 q1 k3 k2;have e3:=mm q1 q2 k2 k4
 have hh:2*2^(64*K)<=2^(32*(2*K+1)):=by
  rw [show 32*(2*K+1)=64*K+32 from by omega,Nat.pow_add]
  have:2*2^(64*K)<=2^(64*K)*2^32:=by rw [Nat.mul_comm];exact Nat.mul_le_mul_left _ (by decide)
  exact this
 rw [rv_add _ _ _ _ _ _ hq1 hq2];unfold dsum
 by_cases hg:g1=g2
 ·subst hg;rw [if_pos rfl]
  exact radd_samen (2*K+1) g1 p1 q1 p2 q2 A1 n1 c1 B1 m1 d1 A2 n2 c2 B2 m2 d2 w u1 v1 u2 v2 (by omega) (by omega) (by omega) (by omega) hq1 hq2 (by omega) (by omega) (by omega) (by omega) (by omega) (by omega)
 ·rw [if_neg hg]
  have hgh:(g1 == g2)=false:=by simpa using hg
  by_cases hl:p1*q2<p2*q1
  ·rw [if_pos hl]
   exact radd_ltn (2*K+1) g1 g2 p1 q1 p2 q2 A1 n1 c1 B1 m1 d1 A2 n2 c2 B2 m2 d2 w u1 v1 u2 v2 (by omega) (by omega) (by omega) (by omega) hgh hl hq1 hq2 (by omega) (by omega) (by omega) (by omega) (by omega) (by omega)
  ·rw [if_neg hl]
   exact radd_gen (2*K+1) g1 g2 p1 q1 p2 q2 A1 n1 c1 B1 m1 d1 A2 n2 c2 B2 m2 d2 w u1 v1 u2 v2 (by omega) (by omega) (by omega) (by omega) hgh (by omega) hq1 hq2 (by omega) (by omega) (by omega) (by omega) (by omega) (by omega)
theorem rmul_walkn(K:Nat)(g1 g2:Bool)(p1 q1 p2 q2:Nat)(A1:Option Addr)(n1 c1:Nat)(B1:Option Addr)(m1 d1:Nat)(A2:Option Addr)(n2 c2:Nat)(B2:Option Addr)(m2 d2:Nat)(w:World)(u1:U32n w A1 n1 c1 p1)(v1:U32n w B1 m1 d1 q1)(u2:U32n w A2 n2 c2 p2)(v2:U32n w B2 m2 d2 q2)(l1:n1<=8589934592)(l2:m1<=8589934592)(l3:n2<=8589934592)(l4:m2<=8589934592)(hD:0<q1*q2)(k1:p1*p2<2^(32*K))(k2:q1*q2<2^(32*K))(hK:1<=K)(hK2:K<=1073741824):
  Calls prog 36 #[Zg g1 A1 n1 c1 B1 m1 d1,Zg g2 A2 n2 c2 B2 m2 d2] w (NewRat w K (rv (g1 != g2) (p1*p2) (q1*q2))):=by
 have T1:=Hd fun W (hW:Below w.heap.size w W)=>times_n A1 A2 n1 c1 n2 c2 p1 p2 W (u1.below hW) (u2.below hW) l1 l3;have T2:=Hd fun W (hW:Below w.heap.size w W)=>times_n B1 B2 m1 d1 m2 d2 q1 q2 W (v1.below hW) (v2.below hW) l2 l4
 obtain⟨X,eX⟩:∃ x,p1*p2=x:=⟨_,rfl⟩
 obtain⟨D,eD⟩:∃ x,q1*q2=x:=⟨_,rfl⟩
 rw [eX] at T1 k1 ⊢;rw [eD] at T2 k2 hD ⊢;have T3:=Hd fun g W (A:Option Addr) (n c:Nat) (B:Option Addr) (m d:Nat) (hx:U32s W A n c (digs X)) (hy:U32s W B m d (digs D))=>frac_plain g A B n c m d K X D W hx hy hD k1 k2 hK hK2;clear u1 v1 u2 v2 l1 l2 l3 l4 hD k1 k2 hK hK2 eX eD;obtain⟨LB0,LG0_0,LG1_0,LR⟩:=bx3 w (Zr g1 A1 n1 c1 B1 m1 d1) 42 (Zr g2 A2 n2 c2 B2 m2 d2) 42 (Zr false none 0 0 none 0 0) 42;have LR0:=Hd (HasBlk.of (n:=3) LR.out rfl rfl);clear LR
 go_enter func36,ntmps36
 go_wp2_with fail;refine wp_region_held_drew (S:=fun W'=>Blk W' w.heap.size 42 (Zr g1 A1 n1 c1 B1 m1 d1)/\Blk W' (w.heap.size+1) 42 (Zr g2 A2 n2 c2 B2 m2 d2)/\HasBlk W' (w.heap.size+2) 42 3/\Below w.heap.size w W') (by kernel_rfl) (by exact⟨LG0_0.out.drew,LG1_0.out.drew,LR0.out.drew,LB0.out.drew⟩) (fun hHeld=>?_);refine tks 0 ?_;refine tkb 1 (fun _ h=>h.1.c3) ?_;refine tks 2 ?_;refine tkb 3 (fun _ h=>h.2.1.c3) ?_;refine tks 4 ?_;refine tks 5 ?_;refine tkb 6 (fun _ h=>h.1.c3) ?_;refine tks 7 ?_;refine tkb 8 (fun _ h=>h.2.1.c3) ?_;refine tks 10 ?_;refine tkb 11 (fun _ h=>h.1.c3) ?_;refine tks 12 ?_;refine tkb 13 (fun _ h=>h.2.1.c3) ?_;refine rdy 9 fun KK hKK=>?_;go_simp;refine (T1.out _ hHeld.2.2.2).mono ?_;rintro e w1 ⟨AX,nX,cX,rfl,hX,hbA⟩;go_wp2_with fail;refine hKK.out _ _ (⟨hHeld.1.keep hbA,hHeld.2.1.keep hbA,hHeld.2.2.1.keep hbA,hHeld.2.2.2.trans (hbA.mono hHeld.2.2.2.size)⟩) (fun _=>?_);clear hKK KK hHeld;rename_i hHeld;(try simp only [Act.put,lay]);refine rdy 14 fun KK hKK=>?_;go_simp;refine (T2.out _ hHeld.2.2.2).mono ?_;rintro e w2 ⟨AY,nY,cY,rfl,hY,hbB⟩;go_wp2_with fail;refine hKK.out _ _ (⟨hHeld.1.keep hbB,hHeld.2.1.keep hbB,hHeld.2.2.1.keep hbB,hHeld.2.2.2.trans (hbB.mono hHeld.2.2.2.size)⟩) (fun _=>?_);clear hKK KK hHeld;rename_i hHeld;(try simp only [Act.put,lay]);refine rdy 15 fun KK hKK=>?_;go_simp;refine (T3.out _ _ _ _ _ _ _ _ (hX.below hbB) hY).mono ?_;rintro e w3 ⟨gz,vn,vd,rfl,hR,hbC⟩;obtain⟨AZ,nZ,cZ,BZ,mZ,dZ,rfl,rfl⟩:=hR.shape;go_wp2_with fail;refine hKK.out _ _ (⟨hHeld.1.keep hbC,hHeld.2.1.keep hbC,hHeld.2.2.1.keep hbC,hHeld.2.2.2.trans (hbC.mono hHeld.2.2.2.size)⟩) (fun _=>?_)
 clear hKK KK hHeld;rename_i hHeld;(try simp only [Act.put,lay]);refine rdy 16 fun KK hKK=>?_;have ha0:=hHeld.2.2.1.someCell 0 (by decide);have hf0:=hHeld.2.2.1.frozen 0;have ha1:=hHeld.2.2.1.someCell 1 (by decide);have hf1:=hHeld.2.2.1.frozen 1;have ha2:=hHeld.2.2.1.someCell 2 (by decide);have hf2:=hHeld.2.2.1.frozen 2;have HK:=Hd (hHeld.2.2.1.setCell [.bool gz,.slice AZ nZ cZ,.slice BZ mZ dZ] rfl);have F:=Hd (below_sets (w0:=w) (r:=(w.heap.size+2)) (by omega) [.bool gz,.slice AZ nZ cZ,.slice BZ mZ dZ] 0 _ hHeld.2.2.2);have FR:=Hd (hHeld.2.2.1.rat hR [.bool gz,.slice AZ nZ cZ,.slice BZ mZ dZ]);go_simp;refine hKK.out _ _ (⟨hHeld.1.other (by omega) 0 [.bool gz,.slice AZ nZ cZ,.slice BZ mZ dZ],hHeld.2.1.other (by omega) 0 [.bool gz,.slice AZ nZ cZ,.slice BZ mZ dZ],hHeld.2.2.1.sets [.bool gz,.slice AZ nZ cZ,.slice BZ mZ dZ] rfl rfl,below_sets (by omega) [.bool gz,.slice AZ nZ cZ,.slice BZ mZ dZ] 0 _ hHeld.2.2.2⟩) (fun _=>?_);clear hKK KK hHeld;rename_i hHeld;(try simp only [Act.put,lay]);refine wpAnyH_done (by kernel_rfl) ?_ _;have hk0:=HK.out 0 (by decide);have hk1:=HK.out 1 (by decide);have hk2:=HK.out 2 (by decide)
 simp [sets] at hk0 hk1 hk2
 clear hHeld HK hX hbA hY hbB hR hbC;clear LB0 LR0 LG0_0 LG1_0;go_wp2;refine bodyPost_ret (v:=Zg gz AZ nZ cZ BZ mZ dZ) (by simp [results,results36,go_sem,hk0,hk1,hk2]) rfl ?_
 exact⟨_,_,_,rfl,FR.out,F.out⟩
theorem rmul_w(K:Nat)(g1:Bool)(vn1 vd1:Value)(x1:Rat)(g2:Bool)(vn2 vd2:Value)(x2:Rat)(w:World)(h1:RatW w K g1 vn1 vd1 x1)(h2:RatW w K g2 vn2 vd2 x2)(hK0:1<=K)(hK:K<=1048576):
  Calls prog 36 #[.agg #[.bool g1,vn1,vd1],.agg #[.bool g2,vn2,vd2]] w (NewRat w (2*K) (x1*x2)):=by
 obtain⟨p1,q1,A1,n1,c1,B1,m1,d1,rfl,rfl,u1,v1,hq1,⟨l1,l2⟩,k1,k2,rfl⟩:=h1;obtain⟨p2,q2,A2,n2,c2,B2,m2,d2,rfl,rfl,u2,v2,hq2,⟨l3,l4⟩,k3,k4,rfl⟩:=h2;rw [rv_mul]
 exact rmul_walkn (2*K) g1 g2 p1 q1 p2 q2 A1 n1 c1 B1 m1 d1 A2 n2 c2 B2 m2 d2 w u1 v1 u2 v2 (by omega) (by omega) (by omega) (by omega) (Nat.mul_pos hq1 hq2) (pow_mm _ _ k1 k3) (pow_mm _ _ k2 k4) (by omega) (by omega)
theorem rquo_walkn(K:Nat)(g1 g2:Bool)(p1 q1 p2 q2:Nat)(A1:Option Addr)(n1 c1:Nat)(B1:Option Addr)(m1 d1:Nat)(A2:Option Addr)(n2 c2:Nat)(B2:Option Addr)(m2 d2:Nat)(w:World)(u1:U32n w A1 n1 c1 p1)(v1:U32n w B1 m1 d1 q1)(u2:U32n w A2 n2 c2 p2)(v2:U32n w B2 m2 d2 q2)(l1:n1<=8589934592)(l2:m1<=8589934592)(l3:n2<=8589934592)(l4:m2<=8589934592)(hD:0<q1*p2)(k1:p1*q2<2^(32*K))(k2:q1*p2<2^(32*K))(hK:1<=K)(hK2:K<=1073741824):
  Calls prog 43 #[Zg g1 A1 n1 c1 B1 m1 d1,Zg g2 A2 n2 c2 B2 m2 d2] w (NewRat w K (rv (g1 != g2) (p1*q2) (q1*p2))):=by
 have T1:=Hd fun W (hW:Below w.heap.size w W)=>times_n A1 B2 n1 c1 m2 d2 p1 q2 W (u1.below hW) (v2.below hW) l1 l4;have T2:=Hd fun W (hW:Below w.heap.size w W)=>times_n B1 A2 m1 d1 n2 c2 q1 p2 W (v1.below hW) (u2.below hW) l2 l3
 obtain⟨X,eX⟩:∃ x,p1*q2=x:=⟨_,rfl⟩
 obtain⟨D,eD⟩:∃ x,q1*p2=x:=⟨_,rfl⟩
 rw [eX] at T1 k1 ⊢;rw [eD] at T2 k2 hD ⊢;have T3:=Hd fun g W (A:Option Addr) (n c:Nat) (B:Option Addr) (m d:Nat) (hx:U32s W A n c (digs X)) (hy:U32s W B m d (digs D))=>frac_plain g A B n c m d K X D W hx hy hD k1 k2 hK hK2;clear u1 v1 u2 v2 l1 l2 l3 l4 hD k1 k2 hK hK2 eX eD;obtain⟨LB0,LG0_0,LG1_0,LR⟩:=bx3 w (Zr g1 A1 n1 c1 B1 m1 d1) 42 (Zr g2 A2 n2 c2 B2 m2 d2) 42 (Zr false none 0 0 none 0 0) 42;have LR0:=Hd (HasBlk.of (n:=3) LR.out rfl rfl);clear LR
 go_enter func43,ntmps43
 go_wp2_with fail;refine wp_region_held_drew (S:=fun W'=>Blk W' w.heap.size 42 (Zr g1 A1 n1 c1 B1 m1 d1)/\Blk W' (w.heap.size+1) 42 (Zr g2 A2 n2 c2 B2 m2 d2)/\HasBlk W' (w.heap.size+2) 42 3/\Below w.heap.size w W') (by kernel_rfl) (by exact⟨LG0_0.out.drew,LG1_0.out.drew,LR0.out.drew,LB0.out.drew⟩) (fun hHeld=>?_);refine tks 0 ?_;refine tkb 1 (fun _ h=>h.1.c3) ?_;refine tks 2 ?_;refine tkb 3 (fun _ h=>h.2.1.c3) ?_;refine tks 4 ?_;refine tks 5 ?_;refine tkb 6 (fun _ h=>h.1.c3) ?_;refine tks 7 ?_;refine tkb 8 (fun _ h=>h.2.1.c3) ?_;refine tks 10 ?_;refine tkb 11 (fun _ h=>h.1.c3) ?_;refine tks 12 ?_;refine tkb 13 (fun _ h=>h.2.1.c3) ?_;refine rdy 9 fun KK hKK=>?_;go_simp;refine (T1.out _ hHeld.2.2.2).mono ?_;rintro e w1 ⟨AX,nX,cX,rfl,hX,hbA⟩;go_wp2_with fail;refine hKK.out _ _ (⟨hHeld.1.keep hbA,hHeld.2.1.keep hbA,hHeld.2.2.1.keep hbA,hHeld.2.2.2.trans (hbA.mono hHeld.2.2.2.size)⟩) (fun _=>?_);clear hKK KK hHeld;rename_i hHeld;(try simp only [Act.put,lay]);refine rdy 14 fun KK hKK=>?_;go_simp;refine (T2.out _ hHeld.2.2.2).mono ?_;rintro e w2 ⟨AY,nY,cY,rfl,hY,hbB⟩;go_wp2_with fail;refine hKK.out _ _ (⟨hHeld.1.keep hbB,hHeld.2.1.keep hbB,hHeld.2.2.1.keep hbB,hHeld.2.2.2.trans (hbB.mono hHeld.2.2.2.size)⟩) (fun _=>?_);clear hKK KK hHeld;rename_i hHeld;(try simp only [Act.put,lay]);refine rdy 15 fun KK hKK=>?_;go_simp;refine (T3.out _ _ _ _ _ _ _ _ (hX.below hbB) hY).mono ?_;rintro e w3 ⟨gz,vn,vd,rfl,hR,hbC⟩;obtain⟨AZ,nZ,cZ,BZ,mZ,dZ,rfl,rfl⟩:=hR.shape;go_wp2_with fail;refine hKK.out _ _ (⟨hHeld.1.keep hbC,hHeld.2.1.keep hbC,hHeld.2.2.1.keep hbC,hHeld.2.2.2.trans (hbC.mono hHeld.2.2.2.size)⟩) (fun _=>?_)
 clear hKK KK hHeld;rename_i hHeld;(try simp only [Act.put,lay]);refine rdy 16 fun KK hKK=>?_;have ha0:=hHeld.2.2.1.someCell 0 (by decide);have hf0:=hHeld.2.2.1.frozen 0;have ha1:=hHeld.2.2.1.someCell 1 (by decide);have hf1:=hHeld.2.2.1.frozen 1;have ha2:=hHeld.2.2.1.someCell 2 (by decide);have hf2:=hHeld.2.2.1.frozen 2;have HK:=Hd (hHeld.2.2.1.setCell [.bool gz,.slice AZ nZ cZ,.slice BZ mZ dZ] rfl);have F:=Hd (below_sets (w0:=w) (r:=(w.heap.size+2)) (by omega) [.bool gz,.slice AZ nZ cZ,.slice BZ mZ dZ] 0 _ hHeld.2.2.2);have FR:=Hd (hHeld.2.2.1.rat hR [.bool gz,.slice AZ nZ cZ,.slice BZ mZ dZ]);go_simp;refine hKK.out _ _ (⟨hHeld.1.other (by omega) 0 [.bool gz,.slice AZ nZ cZ,.slice BZ mZ dZ],hHeld.2.1.other (by omega) 0 [.bool gz,.slice AZ nZ cZ,.slice BZ mZ dZ],hHeld.2.2.1.sets [.bool gz,.slice AZ nZ cZ,.slice BZ mZ dZ] rfl rfl,below_sets (by omega) [.bool gz,.slice AZ nZ cZ,.slice BZ mZ dZ] 0 _ hHeld.2.2.2⟩) (fun _=>?_);clear hKK KK hHeld;rename_i hHeld;(try simp only [Act.put,lay]);refine wpAnyH_done (by kernel_rfl) ?_ _;have hk0:=HK.out 0 (by decide);have hk1:=HK.out 1 (by decide);have hk2:=HK.out 2 (by decide)
 simp [sets] at hk0 hk1 hk2
 clear hHeld HK hX hbA hY hbB hR hbC;clear LB0 LR0 LG0_0 LG1_0;go_wp2;refine bodyPost_ret (v:=Zg gz AZ nZ cZ BZ mZ dZ) (by simp [results,results43,go_sem,hk0,hk1,hk2]) rfl ?_
 exact⟨_,_,_,rfl,FR.out,F.out⟩
theorem rquo_w(K:Nat)(g1:Bool)(vn1 vd1:Value)(x1:Rat)(g2:Bool)(vn2 vd2:Value)(x2:Rat)(w:World)(h1:RatW w K g1 vn1 vd1 x1)(h2:RatW w K g2 vn2 vd2 x2)(hK0:1<=K)(hK:K<=1048576)(hx:x2≠0):
  Calls prog 43 #[.agg #[.bool g1,vn1,vd1],.agg #[.bool g2,vn2,vd2]] w (NewRat w (2*K) (x1 / x2)):=by
 obtain⟨p1,q1,A1,n1,c1,B1,m1,d1,rfl,rfl,u1,v1,hq1,⟨l1,l2⟩,k1,k2,rfl⟩:=h1;obtain⟨p2,q2,A2,n2,c2,B2,m2,d2,rfl,rfl,u2,v2,hq2,⟨l3,l4⟩,k3,k4,rfl⟩:=h2
 have hp2:0<p2:=by
  rcases Nat.eq_zero_or_pos p2 with h | h
  ·exact absurd (by rw [h,rv_zero]) hx
  ·exact h
 rw [rv_quo _ _ _ _ _ _ hq1 hq2 hp2]
 exact rquo_walkn (2*K) g1 g2 p1 q1 p2 q2 A1 n1 c1 B1 m1 d1 A2 n2 c2 B2 m2 d2 w u1 v1 u2 v2 (by omega) (by omega) (by omega) (by omega) (Nat.mul_pos hq1 hp2) (pow_mm _ _ k1 k4) (pow_mm _ _ k2 k3) (by omega) (by omega)
theorem ecmp_w(K:Nat)(s1:Int)(g1:Bool)(A1:Option Addr)(n1 c1:Nat)(B1:Option Addr)(m1 d1:Nat)(x1:Rat)(s2:Int)(g2:Bool)(A2:Option Addr)(n2 c2:Nat)(B2:Option Addr)(m2 d2:Nat)(x2:Rat)(w:World)(h1:RatW w K g1 (.slice A1 n1 c1) (.slice B1 m1 d1) x1)(h2:RatW w K g2 (.slice A2 n2 c2) (.slice B2 m2 d2) x2)(hK:K<=1073741824):
  Rt 94 #[.agg #[.int .i64 s1,.bool g1,.slice A1 n1 c1,.slice B1 m1 d1],.agg #[.int .i64 s2,.bool g2,.slice A2 n2 c2,.slice B2 m2 d2]] (.int .i64 (ec s1 x1 s2 x2)) w:=by
 rcases Int.lt_trichotomy s1 s2 with h | h | h
 ·rw [ec_lt x1 x2 h]
  have hq:(s1 == s2)=false:=by simp;omega
  obtain⟨LB0,LG0_0,LG1_0⟩:=bx2 w #[.int .i64 s1,.bool g1,.slice A1 n1 c1,.slice B1 m1 d1] 87 #[.int .i64 s2,.bool g2,.slice A2 n2 c2,.slice B2 m2 d2] 87
  go_enter func94,ntmps94
  go_wp2
  go_ret
  exact⟨rfl,LB0.out⟩
 ·subst h
  by_cases h0:s1=0
  ·subst h0;rw [ec_zero];obtain⟨LB0,LG0_0,LG1_0⟩:=bx2 w #[.int .i64 0,.bool g1,.slice A1 n1 c1,.slice B1 m1 d1] 87 #[.int .i64 0,.bool g2,.slice A2 n2 c2,.slice B2 m2 d2] 87;have HC:=Hd fun W (hW:Below w.heap.size w W)=>rcmp_w K g1 _ _ x1 g2 _ _ x2 W (h1.below hW) (h2.below hW) hK;clear h1 h2
   go_enter func94,ntmps94
   go_wp2_with fail;refine cx (HC.out _ LB0.out) fun w1 hb1=>?_;have LB1:=stB LB0 hb1 LB0.out.size;have LG0_1:=stG LG0_0 hb1;have LG1_1:=stG LG1_0 hb1;clear LB0 LG0_0 LG1_0;go_wp2
   go_ret
   exact⟨rfl,LB1.out⟩
  ·rw [ec_inf x1 x2 rfl h0]
   have hq:(s1 == 0)=false:=by simp;omega
   obtain⟨LB0,LG0_0,LG1_0⟩:=bx2 w #[.int .i64 s1,.bool g1,.slice A1 n1 c1,.slice B1 m1 d1] 87 #[.int .i64 s1,.bool g2,.slice A2 n2 c2,.slice B2 m2 d2] 87
   go_enter func94,ntmps94
   go_wp2
   go_ret
   exact⟨rfl,LB0.out⟩
 ·rw [ec_gt x1 x2 h]
  have hq:(s1 == s2)=false:=by simp;omega
  have hq2:¬ s1<s2:=by omega
  obtain⟨LB0,LG0_0,LG1_0⟩:=bx2 w #[.int .i64 s1,.bool g1,.slice A1 n1 c1,.slice B1 m1 d1] 87 #[.int .i64 s2,.bool g2,.slice A2 n2 c2,.slice B2 m2 d2] 87
  go_enter func94,ntmps94
  go_wp2
  go_ret
  exact⟨rfl,LB0.out⟩
section
def NewRatW(w:World)(K:Nat)(x:Rat)(e:Ending)(w':World):Prop:=
 ∃ g A n c B m d,e=.returned (Zg g A n c B m d)/\RatW w' K g (.slice A n c) (.slice B m d) x/\Below w.heap.size w w'
section
variable {w W W':World} {g n:Nat} {t:TypeId} {cs:Array Value} {B:Nat}
theorem U32n.setB{A:Option Addr}{m c a:Nat}(h:U32n W A m c a)(hb:Blk W g t cs)(hc:NoWd cs)(i:Nat)(vs:List Value):U32n (Proofs.YthlmlmfebpjgdaaGreatDoor.sets W g i vs) A m c a:=by
 obtain⟨xs,h1,h2⟩:=h
 exact⟨xs,h1.setsE hb hc rfl,h2⟩
theorem U32n.sets{A:Option Addr}{m c a:Nat}(h:U32n W A m c a)(hb:Blk W g t cs)(hc:NoWd cs)(i:Nat)(vs:List Value):U32n (Proofs.YthlmlmfebpjgdaaGreatDoor.sets W g i vs) A m c a:=h.setB hb hc i vs
theorem RatW.sets{K:Nat}{neg:Bool}{vn vd:Value}{x:Rat}(h:RatW W K neg vn vd x)(hb:Blk W g t cs)(hc:NoWd cs)(i:Nat)(vs:List Value):RatW (Proofs.YthlmlmfebpjgdaaGreatDoor.sets W g i vs) K neg vn vd x:=by
 obtain⟨p,q,A,n,c,B,m,d,h1,h2,h3,h4,h5⟩:=h
 exact⟨p,q,A,n,c,B,m,d,h1,h2,h3.setB hb hc i vs,h4.setB hb hc i vs,h5⟩
end
theorem rnegw_false(A1:Option Addr)(n1 c1:Nat)(B1:Option Addr)(m1 d1:Nat)(p q:Nat)(r1:Bool)(w:World)(hN1:∀ W,Below w.heap.size w W->Calls prog 93 #[.slice A1 n1 c1] W fun e w'=>∃ A' n' c',e=.returned (.slice A' n' c')/\U32n w' A' n' c' p/\n'<=n1/\Below W.heap.size W w')(hN2:∀ W,Below w.heap.size w W->Calls prog 93 #[.slice B1 m1 d1] W fun e w'=>∃ A' n' c',e=.returned (.slice A' n' c')/\U32n w' A' n' c' q/\n'<=m1/\Below W.heap.size W w')(hr:decide (0<n1)=r1)(hn:n1<=1073741824):
  Calls prog 47 #[Zg false A1 n1 c1 B1 m1 d1] w fun e w'=>∃ A5 n5 c5 B5 m5 d5,e=.returned (Zg r1 A5 n5 c5 B5 m5 d5)/\U32n w' A5 n5 c5 p/\U32n w' B5 m5 d5 q/\n5<=n1/\m5<=m1/\Below w.heap.size w w':=by
 have HN1:=Hd hN1;have HN2:=Hd hN2;have HR:=Hd hr;clear hN1 hN2 hr;have LL:=li2 w (Zr false A1 n1 c1 B1 m1 d1) 42 (Zr false none 0 0 none 0 0) 42;have hr1:=HR.out
 have hr2:decide ((0:Int)<(n1:Int))=r1:=by rw [<- hr1];simp
 go_enter func47,ntmps47
 go_wp2_with fail;replace LL:=Hd (LL.out.loose1 rfl);refine regL LL (fun hHeld=>?_);clear LL;generalize World.drew _=wk at hHeld  ⊢;refine tks 0 ?_;refine tkb 1 (fun _ h=>(h.blk 0 rfl).c3) ?_;refine tks 2 ?_;refine tks 3 ?_;refine tks 4 ?_;refine tkb 5 (fun _ h=>(h.blk 0 rfl).c3) ?_;refine tks 6 ?_;refine tks 7 ?_;refine tks 8 ?_;refine tks 9 ?_;refine tkb 10 (fun _ h=>(h.blk 0 rfl).c3) ?_;refine tks 12 ?_;refine tkb 13 (fun _ h=>(h.blk 0 rfl).c3) ?_;refine rdy 11 fun KK hKK=>?_;go_simp;refine (HN1.out _ hHeld.b).mono ?_;rintro e wk ⟨A5,n5,c5,rfl,hu5,hn5,hb5⟩;go_wp2_with fail;refine hKK.out _ _ (hHeld.keep hb5) (fun _=>?_);clear hKK KK hHeld;rename_i hHeld;(try simp only [Act.put,lay]);(try replace HU6:=Hd (HU6.out.below hb5));have HU5:=Hd hu5;clear hu5;clear hb5;refine rdy 14 fun KK hKK=>?_;go_simp;refine (HN2.out _ hHeld.b).mono ?_;rintro e wk ⟨B5,m5,d5,rfl,hu6,hn6,hb6⟩;go_wp2_with fail;refine hKK.out _ _ (hHeld.keep hb6) (fun _=>?_);clear hKK KK hHeld;rename_i hHeld;(try simp only [Act.put,lay]);(try replace HU5:=Hd (HU5.out.below hb6));have HU6:=Hd hu6;clear hu6;clear hb6;refine tks 15 ?_;refine rdy 16 fun KK hKK=>?_;obtain⟨ha0,hf0,ha1,hf1,ha2,hf2⟩:=(hHeld.has 0 rfl).sf3;obtain⟨csx,hbx,-,hcx⟩:=hHeld.has 0 rfl;replace HU5:=Hd (HU5.out.sets hbx hcx 0 [.bool r1,.slice A5 n5 c5,.slice B5 m5 d5]);replace HU6:=Hd (HU6.out.sets hbx hcx 0 [.bool r1,.slice A5 n5 c5,.slice B5 m5 d5]);clear hbx hcx;go_simp;have HS_0:=(hHeld.has 0 rfl).laid [.bool r1,.slice A5 n5 c5,.slice B5 m5 d5] rfl
 refine hKK.out _ _ (hHeld.over 0 rfl [.bool r1,.slice A5 n5 c5,.slice B5 m5 d5] rfl rfl (by first | omega | exact hHeld.le_of 0 rfl) (by simp<;>omega) (by simp<;>omega)) (fun _=>?_);clear hKK KK hHeld;rename_i hHeld;(try simp only [Act.put,lay]);refine wpAnyH_done (by kernel_rfl) ?_ _;have LB:=Hd hHeld.b;clear hHeld;obtain⟨hk2_0,hk2_1,hk2_2⟩:=HS_0.c3;clear HS_0
 simp [sets] at hk2_0 hk2_1 hk2_2
 go_wp2;refine bodyPost_ret (v:=Zg r1 A5 n5 c5 B5 m5 d5) (by simp [results,results47,go_sem,hk2_0,hk2_1,hk2_2]) rfl ?_
 exact⟨A5,n5,c5,B5,m5,d5,rfl,HU5.out,HU6.out,hn5,hn6,LB.out⟩
theorem rnegw_true(A1:Option Addr)(n1 c1:Nat)(B1:Option Addr)(m1 d1:Nat)(p q:Nat)(w:World)(hN1:∀ W,Below w.heap.size w W->Calls prog 93 #[.slice A1 n1 c1] W fun e w'=>∃ A' n' c',e=.returned (.slice A' n' c')/\U32n w' A' n' c' p/\n'<=n1/\Below W.heap.size W w')(hN2:∀ W,Below w.heap.size w W->Calls prog 93 #[.slice B1 m1 d1] W fun e w'=>∃ A' n' c',e=.returned (.slice A' n' c')/\U32n w' A' n' c' q/\n'<=m1/\Below W.heap.size W w'):
  Calls prog 47 #[Zg true A1 n1 c1 B1 m1 d1] w fun e w'=>∃ A5 n5 c5 B5 m5 d5,e=.returned (Zg false A5 n5 c5 B5 m5 d5)/\U32n w' A5 n5 c5 p/\U32n w' B5 m5 d5 q/\n5<=n1/\m5<=m1/\Below w.heap.size w w':=by
 have HN1:=Hd hN1;have HN2:=Hd hN2;clear hN1 hN2;have LL:=li2 w (Zr true A1 n1 c1 B1 m1 d1) 42 (Zr false none 0 0 none 0 0) 42
 go_enter func47,ntmps47
 go_wp2_with fail;replace LL:=Hd (LL.out.loose1 rfl);refine regL LL (fun hHeld=>?_);clear LL;generalize World.drew _=wk at hHeld  ⊢;refine tks 0 ?_;refine tkb 1 (fun _ h=>(h.blk 0 rfl).c3) ?_;refine tks 2 ?_;refine tks 3 ?_;refine tkns 4 ?_;refine tkns 5 ?_;refine tkns 6 ?_;refine tkns 7 ?_;refine tks 8 ?_;refine tks 9 ?_;refine tkb 10 (fun _ h=>(h.blk 0 rfl).c3) ?_;refine tks 12 ?_;refine tkb 13 (fun _ h=>(h.blk 0 rfl).c3) ?_;refine rdy 11 fun KK hKK=>?_;go_simp;refine (HN1.out _ hHeld.b).mono ?_;rintro e wk ⟨A5,n5,c5,rfl,hu5,hn5,hb5⟩;go_wp2_with fail;refine hKK.out _ _ (hHeld.keep hb5) (fun _=>?_);clear hKK KK hHeld;rename_i hHeld;(try simp only [Act.put,lay]);(try replace HU6:=Hd (HU6.out.below hb5));have HU5:=Hd hu5;clear hu5;clear hb5;refine rdy 14 fun KK hKK=>?_;go_simp;refine (HN2.out _ hHeld.b).mono ?_;rintro e wk ⟨B5,m5,d5,rfl,hu6,hn6,hb6⟩;go_wp2_with fail;refine hKK.out _ _ (hHeld.keep hb6) (fun _=>?_);clear hKK KK hHeld;rename_i hHeld;(try simp only [Act.put,lay]);(try replace HU5:=Hd (HU5.out.below hb6));have HU6:=Hd hu6;clear hu6;clear hb6;refine tks 15 ?_;refine rdy 16 fun KK hKK=>?_;obtain⟨ha0,hf0,ha1,hf1,ha2,hf2⟩:=(hHeld.has 0 rfl).sf3;obtain⟨csx,hbx,-,hcx⟩:=hHeld.has 0 rfl;replace HU5:=Hd (HU5.out.sets hbx hcx 0 [.bool false,.slice A5 n5 c5,.slice B5 m5 d5]);replace HU6:=Hd (HU6.out.sets hbx hcx 0 [.bool false,.slice A5 n5 c5,.slice B5 m5 d5]);clear hbx hcx;go_simp;have HS_0:=(hHeld.has 0 rfl).laid [.bool false,.slice A5 n5 c5,.slice B5 m5 d5] rfl
 refine hKK.out _ _ (hHeld.over 0 rfl [.bool false,.slice A5 n5 c5,.slice B5 m5 d5] rfl rfl (by first | omega | exact hHeld.le_of 0 rfl) (by simp<;>omega) (by simp<;>omega)) (fun _=>?_);clear hKK KK hHeld;rename_i hHeld;(try simp only [Act.put,lay]);refine wpAnyH_done (by kernel_rfl) ?_ _;have LB:=Hd hHeld.b;clear hHeld;obtain⟨hk2_0,hk2_1,hk2_2⟩:=HS_0.c3;clear HS_0
 simp [sets] at hk2_0 hk2_1 hk2_2
 go_wp2;refine bodyPost_ret (v:=Zg false A5 n5 c5 B5 m5 d5) (by simp [results,results47,go_sem,hk2_0,hk2_1,hk2_2]) rfl ?_
 exact⟨A5,n5,c5,B5,m5,d5,rfl,HU5.out,HU6.out,hn5,hn6,LB.out⟩
theorem rneg_w(K:Nat)(g:Bool)(vn vd:Value)(x:Rat)(w:World)(h:RatW w K g vn vd x)(hK:K<=1073741824):Calls prog 47 #[.agg #[.bool g,vn,vd]] w (NewRatW w K (-x)):=by
 obtain⟨p,q,A,n,c,B,m,d,rfl,rfl,hu,hv,hq,⟨hn,hm⟩,hp,hqK,rfl⟩:=h
 have N1:∀ W,Below w.heap.size w W->Calls prog 93 #[.slice A n c] W fun e w'=>∃ A' n' c',e=.returned (.slice A' n' c')/\U32n w' A' n' c' p/\n'<=n/\Below W.heap.size W w':=fun W hW=>
  (norm_n A n c W (hu.below hW) (by omega)).mono (by rintro e w' ⟨A1,n1,c1,h1,h2,h3,h4,h5⟩;exact⟨A1,n1,c1,h1,h2.n,h3,h5⟩)
 have N2:∀ W,Below w.heap.size w W->Calls prog 93 #[.slice B m d] W fun e w'=>∃ A' n' c',e=.returned (.slice A' n' c')/\U32n w' A' n' c' q/\n'<=m/\Below W.heap.size W w':=fun W hW=>
  (norm_n B m d W (hv.below hW) (by omega)).mono (by rintro e w' ⟨A1,n1,c1,h1,h2,h3,h4,h5⟩;exact⟨A1,n1,c1,h1,h2.n,h3,h5⟩)
 cases g
 ·refine (rnegw_false A n c B m d p q _ w N1 N2 rfl (by omega)).mono ?_;rintro e w' ⟨A5,n5,c5,B5,m5,d5,rfl,h5,h6,l5,l6,hb⟩;refine⟨_,A5,n5,c5,B5,m5,d5,rfl,⟨p,q,A5,n5,c5,B5,m5,d5,rfl,rfl,h5,h6,hq,⟨by omega,by omega⟩,hp,hqK,?_⟩,hb⟩
  by_cases h0:0<n
  ·rw [decide_eq_true h0,rv_true]
  ·rw [decide_eq_false h0]
   have p0:p=0:=by
    obtain⟨xs,hx,rfl⟩:=hu;have:=hx.len;have e:xs=[]:=List.eq_nil_of_length_eq_zero (by omega);rw [e];rfl
   subst p0;rw [rv_zero];grind
 ·refine (rnegw_true A n c B m d p q w N1 N2).mono ?_;rintro e w' ⟨A5,n5,c5,B5,m5,d5,rfl,h5,h6,l5,l6,hb⟩;refine⟨_,A5,n5,c5,B5,m5,d5,rfl,⟨p,q,A5,n5,c5,B5,m5,d5,rfl,rfl,h5,h6,hq,⟨by omega,by omega⟩,hp,hqK,?_⟩,hb⟩;rw [rv_true,Rat.neg_neg]
theorem rsub_walk(K:Nat)(y x:Rat)(g1:Bool)(A1:Option Addr)(n1 c1:Nat)(B1:Option Addr)(m1 d1:Nat)(g2:Bool)(A2:Option Addr)(n2 c2:Nat)(B2:Option Addr)(m2 d2:Nat)(w:World)(hN:∀ W,Below w.heap.size w W->Calls prog 47 #[Zg g2 A2 n2 c2 B2 m2 d2] W (NewRatW W K y))
  (hA:∀ W (g3:Bool) (A3:Option Addr) (n3 c3:Nat) (B3:Option Addr) (m3 d3:Nat),Below w.heap.size w W->RatW W K g3 (.slice A3 n3 c3) (.slice B3 m3 d3) y->Calls prog 35 #[Zg g1 A1 n1 c1 B1 m1 d1,Zg g3 A3 n3 c3 B3 m3 d3] W (NewRatS W (2*K+1) x)):
  Calls prog 41 #[Zg g1 A1 n1 c1 B1 m1 d1,Zg g2 A2 n2 c2 B2 m2 d2] w (NewRatS w (2*K+1) x):=by
 have HN:=Hd hN;have HA:=Hd hA;clear hN hA;have LL:=li3 w (Zr g1 A1 n1 c1 B1 m1 d1) 42 (Zr g2 A2 n2 c2 B2 m2 d2) 42 (Zr false none 0 0 none 0 0) 42
 go_enter func41,ntmps41
 go_wp2_with fail;replace LL:=Hd (LL.out.loose2 rfl);refine regL LL (fun hHeld=>?_);clear LL;generalize World.drew _=wk at hHeld  ⊢;refine tkb 0 (fun _ h=>(h.blk 0 rfl).c3) ?_;refine tkb 1 (fun _ h=>(h.blk 1 rfl).c3) ?_;refine rcn 2 (HN.out _ hHeld.b) ?_;clear hHeld;intro wk g3 A3 n3 c3 B3 m3 d3 hr3 hb3 hHeld;(try replace HR5:=Hd (HR5.out.below hb3));have HR3:=Hd hr3;clear hr3;clear hb3;refine rcn 3 (HA.out _ _ _ _ _ _ _ _ hHeld.b HR3.out) ?_;clear hHeld;intro wk g5 A5 n5 c5 B5 m5 d5 hr5 hb5 hHeld;(try replace HR3:=Hd (HR3.out.below hb5));have HR5:=Hd hr5;clear hr5;clear hb5;refine rdy 4 fun KK hKK=>?_;obtain⟨ha0,hf0,ha1,hf1,ha2,hf2⟩:=(hHeld.has 0 rfl).sf3;obtain⟨csx,hbx,-,hcx⟩:=hHeld.has 0 rfl;(try clear HR3);replace HR5:=Hd (HR5.out.sets hbx hcx 0 [.bool g5,.slice A5 n5 c5,.slice B5 m5 d5]);clear hbx hcx;go_simp;have HS_0:=(hHeld.has 0 rfl).laid [.bool g5,.slice A5 n5 c5,.slice B5 m5 d5] rfl;refine hKK.out _ _ (hHeld.over 0 rfl [.bool g5,.slice A5 n5 c5,.slice B5 m5 d5] rfl rfl (by first | omega | exact hHeld.le_of 0 rfl) (by simp<;>omega) (by simp<;>omega)) (fun _=>?_);clear hKK KK hHeld;rename_i hHeld;(try simp only [Act.put,lay]);refine wpAnyH_done (by kernel_rfl) ?_ _;have LB:=Hd hHeld.b;clear hHeld;obtain⟨hk4_0,hk4_1,hk4_2⟩:=HS_0.c3;clear HS_0
 simp [sets] at hk4_0 hk4_1 hk4_2
 go_wp2;refine bodyPost_ret (v:=Zg g5 A5 n5 c5 B5 m5 d5) (by simp [results,results41,go_sem,hk4_0,hk4_1,hk4_2]) rfl ?_
 exact⟨g5,A5,n5,c5,B5,m5,d5,rfl,HR5.out,LB.out⟩
theorem rsub_w(K:Nat)(g1:Bool)(A1:Option Addr)(n1 c1:Nat)(B1:Option Addr)(m1 d1:Nat)(x1:Rat)(g2:Bool)(A2:Option Addr)(n2 c2:Nat)(B2:Option Addr)(m2 d2:Nat)(x2:Rat)(w:World)(h1:RatW w K g1 (.slice A1 n1 c1) (.slice B1 m1 d1) x1)(h2:RatW w K g2 (.slice A2 n2 c2) (.slice B2 m2 d2) x2)(hK:K<=1048576):
  Calls prog 41 #[Zg g1 A1 n1 c1 B1 m1 d1,Zg g2 A2 n2 c2 B2 m2 d2] w (NewRatS w (2*K+1) (x1 - x2)):=by
 rw [show x1 - x2=x1+-x2 from Rat.sub_eq_add_neg _ _]
 exact rsub_walk K (-x2) _ g1 A1 n1 c1 B1 m1 d1 g2 A2 n2 c2 B2 m2 d2 w (fun W hW=>rneg_w K g2 _ _ x2 W (h2.below hW) (by omega)) (fun W g A n c B m d hW h=>(radd_w K g1 _ _ x1 g _ _ (-x2) W (h1.below hW) h hK).mono fun _ _ h=>h.s)
end
section
open Ieee
def fI(a D:Int):Int:=a / D
def cI(a D:Int):Int:=-((-a) / D)
def tI(a D:Int):Int:=if a<0 then cI a D else fI a D
def eI(a D:Int):Int:=a / D+(if D<2*(a % D)\/(D=2*(a % D)/\(a / D) % 2=1) then 1 else 0)
def wI(a D:Int):Int:=a / D+(if D<2*(a % D)\/(D=2*(a % D)/\0<=a) then 1 else 0)
theorem neg_div{a D:Int}(hD:0<D):(-a) / D=-(a / D) - (if a % D=0 then 0 else 1)/\(-a) % D=if a % D=0 then 0 else D - a % D:=by
 have h1:=Int.emod_nonneg a (by omega:D≠0);have h2:=Int.emod_lt_of_pos a hD;have h3:=Int.mul_ediv_add_emod a D
 split<;>rename_i h0
 ·rw [h0] at h3
  have e:-a=D*(-(a / D)):=by rw [Int.mul_neg];omega
  refine⟨?_,?_⟩
  ·rw [e,Int.mul_ediv_cancel_left _ (by omega)];omega
  ·rw [e,Int.mul_emod_right]
 ·have e:-a=(D - a % D)+D*(-(a / D) - 1):=by
   have:D*(-(a / D) - 1)=-(D*(a / D)) - D:=by rw [Int.mul_sub,Int.mul_neg,Int.mul_one]
   rw [this];omega
  have e1:(D - a % D) / D=0:=Int.ediv_eq_zero_of_lt (by omega) (by omega);have e2:(D - a % D) % D=D - a % D:=Int.emod_eq_of_lt (by omega) (by omega);refine⟨?_,?_⟩
  ·rw [e,Int.add_mul_ediv_left _ _ (by omega),e1];omega
  ·rw [e,Int.add_mul_emod_self_left,e2]
theorem toNat_if{p:Prop}[Decidable p]:(decide p).toNat=if p then 1 else 0:=by by_cases h:p<;>simp [h]
theorem cut_way(way:Toward)(hw:way≠.even)(neg:Bool)(n k:Nat):way.cut neg n k=n / 2^k+if (way=.down/\neg=true\/way=.up/\neg=false)/\n % 2^k≠0 then 1 else 0:=by
 unfold Toward.cut
 simp only [Nat.shiftLeft_eq,Nat.one_mul]
 rcases Nat.lt_or_ge (n.log2+2) k with h | h
 ·rw [Nat.min_eq_right (by omega)];have h2:n<2^(n.log2+1):=Nat.lt_log2_self;have h3:2^(n.log2+2)<=2^k:=Nat.pow_le_pow_right (by omega) (by omega)
  have h4:2^(n.log2+2)=2*2^(n.log2+1):=by rw [Nat.pow_succ];omega
  rw [Nat.div_eq_of_lt (by omega),Nat.div_eq_of_lt (show n<2^k by omega),Nat.mod_eq_of_lt (by omega),Nat.mod_eq_of_lt (show n<2^k by omega)]
  cases way
  ·exact absurd rfl hw
  all_goals
   cases neg<;>by_cases h0:n=0<;>simp [h0]
 ·rw [Nat.min_eq_left h]
  cases way
  ·exact absurd rfl hw
  all_goals
   cases neg<;>by_cases h0:n % 2^k=0<;>simp [h0]
def gI:Toward->Int->Int->Int
 | .down=>fI | .up=>cI | .zero=>tI | .even=>eI
theorem cut_gI(way:Toward)(s:Bool)(n k:Nat):(if s then -(way.cut s n k:Int) else (way.cut s n k:Int))=gI way (if s then -(n:Int) else n) ((2^k:Nat):Int):=by
 have hp:=Nat.two_pow_pos k;generalize hD:(2^k:Nat)=D at *
 have hq:((n:Int) / D)=((n / D:Nat):Int):=by simp
 have hr:((n:Int) % D)=((n % D:Nat):Int):=by simp
 have hlt:=Nat.mod_lt n hp;obtain⟨e1,e2⟩:=neg_div (a:=(n:Int)) (D:=(D:Int)) (by omega);rw [hq,hr] at e1;rw [hr] at e2
 have hn:(n % D=0->n / D=0->n=0):=fun a b=>by have:=Nat.div_add_mod n D;rw [a,b] at this;omega
 by_cases hw:way=.even
 ·subst hw;rw [cut_even]
  have eb:(bump n k).toNat=if D<2*(n % D)\/D=2*(n % D)/\n / D % 2=1 then 1 else 0:=by
   rw [<- toNat_if];unfold bump;rw [hD]
   congr 1
   rw [Bool.eq_iff_iff]
   simp
  rw [eb,hD];unfold gI eI
  cases s
  ·simp only [Bool.false_eq_true,if_false]
   rw [hq,hr];generalize n / D=q at *;generalize n % D=r at *;clear hq hr e1 e2 eb hn
   by_cases c:D<2*r\/D=2*r/\q % 2=1
   ·rw [if_pos c,if_pos (by omega)];omega
   ·rw [if_neg c,if_neg (by omega)];omega
  ·simp only [if_true]
   rw [e1,e2];generalize n / D=q at *;generalize n % D=r at *;clear hq hr e1 e2 eb hn
   by_cases c0:r=0
   ·subst c0;have z:((0:Nat):Int)=0:=rfl;rw [if_neg (show ¬ (D<2*0\/D=2*0/\q % 2=1) by omega)]
    simp only [z,if_true]
    rw [if_neg (by omega)];omega
   ·rw [if_neg (show ¬ (r:Int)=0 by omega),if_neg (show ¬ (r:Int)=0 by omega)]
    by_cases c:D<2*r\/D=2*r/\q % 2=1
    ·rw [if_pos c,if_neg (show ¬ ((D:Int)<2*((D:Int) - (r:Int))\/(D:Int)=2*((D:Int) - (r:Int))/\(-(q:Int) - 1) % 2=1) by omega)];omega
    ·rw [if_neg c,if_pos (show ((D:Int)<2*((D:Int) - (r:Int))\/(D:Int)=2*((D:Int) - (r:Int))/\(-(q:Int) - 1) % 2=1) by omega)];omega
 ·rw [cut_way way hw,hD]
  have hz:(n:Int)<0↔False:=⟨fun h=>absurd h (by omega),False.elim⟩
  have hz':-(n:Int)<0↔n≠0:=⟨fun h=>by omega,fun h=>by omega⟩
  have h0:n=0->n / D=0/\n % D=0:=by rintro rfl;simp
  have hne:(-(n:Int)) / D=-((n / D:Nat):Int) - if ((n % D:Nat):Int)=0 then 0 else 1:=e1
  cases way
  ·exact absurd rfl hw
  all_goals
   cases s
   all_goals
    simp only [gI,fI,cI,tI,Bool.false_eq_true,if_false,if_true,Int.neg_neg,hne,hq,hz,hz']
    generalize n / D=q at *;generalize n % D=r at *;clear hq hr e1 e2 hne
    by_cases c0:r=0
    ·first
     | (by_cases c1:n=0<;>simp [c0,c1]<;>omega)
     | (simp [c0]<;>omega)
    ·first
     | (by_cases c1:n=0<;>simp [c0,c1]<;>omega)
     | (simp [c0]<;>omega)
def rK:Nat->Rat->Int
 | 0,x=>if x<0 then -1 else if x=0 then 0 else 1
 | 1,x=>x.floor
 | 2,x=>x.ceil
 | 3,x=>if x<0 then x.ceil else x.floor
 | 4,x=>x.floor+if (1/2:Rat)<x - x.floor\/x - x.floor=1/2/\x.floor % 2=1 then 1 else 0
 | _,x=>x.floor+if (1/2:Rat)<x - x.floor\/x - x.floor=1/2/\0<=x then 1 else 0
section
variable {x:Rat} {a D:Int}
theorem rmul_le{a b c:Rat}(hc:0<c):a*c<=b*c↔a<=b:=by
 rw [<- Rat.not_lt,<- Rat.not_lt,Rat.mul_lt_mul_right hc]
theorem fdiv_floor(hD:0<D)(h:x*D=a):a / D=x.floor:=by
 have hD':(0:Rat)<(D:Rat):=by rw [<- Rat.intCast_zero,Rat.intCast_lt_intCast];exact hD
 apply Int.le_antisymm
 ·rw [Rat.le_floor_iff,<- rmul_le hD',h,<- Rat.intCast_mul,Rat.intCast_le_intCast]
  exact Int.ediv_mul_le _ (by omega)
 ·rw [Int.le_ediv_iff_mul_le hD,<- Rat.intCast_le_intCast,Rat.intCast_mul,<- h,rmul_le hD']
  exact Rat.floor_le x
theorem cdiv_ceil(hD:0<D)(h:x*D=a):-((-a) / D)=x.ceil:=by
 rw [fdiv_floor (x:=-x) hD (by rw [Rat.intCast_neg,<- h];grind),Rat.ceil_eq_neg_floor_neg]
theorem a_lt_zero(hD:0<D)(h:x*D=a):a<0↔x<0:=by
 have hD':(0:Rat)<(D:Rat):=by rw [<- Rat.intCast_zero,Rat.intCast_lt_intCast];exact hD
 have k:=Rat.mul_lt_mul_right (a:=x) (b:=0) hD';rw [Rat.zero_mul] at k;rw [<- Rat.intCast_lt_intCast,<- h,Rat.intCast_zero,k]
theorem rest_half(hD:0<D)(h:x*D=a):(D<2*(a % D)↔(1/2:Rat)<x - x.floor)/\(D=2*(a % D)↔x - x.floor=1/2):=by
 have hD':(0:Rat)<(D:Rat):=by rw [<- Rat.intCast_zero,Rat.intCast_lt_intCast];exact hD
 have e:((a % D:Int):Rat)=(x - x.floor)*D:=by
  rw [Int.emod_def,fdiv_floor hD h,Rat.intCast_sub,Rat.intCast_mul,<- h];grind
 have e2:((2*(a % D):Int):Rat)=2*(x - x.floor)*D:=by rw [Rat.intCast_mul,e];grind
 have l:∀ y:Rat,((D:Rat)<2*y*D↔(1/2:Rat)<y)/\((D:Rat)=2*y*D↔y=1/2):=by
  intro y;refine⟨⟨fun k=>?_,fun k=>?_⟩,fun k=>?_,fun k=>?_⟩
  ·have k':1*(D:Rat)<2*y*D:=by grind
   rw [Rat.mul_lt_mul_right hD'] at k'
   grind
  ·have k':1*(D:Rat)<2*y*D:=by rw [Rat.mul_lt_mul_right hD'];grind
   grind
  ·have k':(2*y - 1)*(D:Rat)=0:=by grind
   rcases Rat.mul_eq_zero.1 k' with k'' | k''<;>grind
  ·subst k;grind
 constructor
 ·rw [<- Rat.intCast_lt_intCast,e2,(l _).1]
 ·rw [<- Rat.intCast_inj,e2,(l _).2]
theorem eI_rK(hD:0<D)(h:x*D=a):eI a D=rK 4 x:=by
 unfold eI rK
 simp only [(rest_half hD h).1,(rest_half hD h).2,fdiv_floor hD h]
theorem wI_rK(hD:0<D)(h:x*D=a):wI a D=rK 5 x:=by
 have hz:0<=a↔0<=x:=by
  have:=a_lt_zero hD h
  constructor
  ·intro k;by_cases c:0<=x
   ·exact c
   ·exact absurd (this.2 (by grind)) (by omega)
  ·intro k;by_cases c:0<=a
   ·exact c
   ·have:=this.1 (by omega);grind
 unfold wI rK
 simp only [(rest_half hD h).1,(rest_half hD h).2,fdiv_floor hD h,hz]
def kW:Toward->Nat
 | .down=>1 | .up=>2 | .zero=>3 | .even=>4
theorem gI_rK(way:Toward)(hD:0<D)(h:x*D=a):gI way a D=rK (kW way) x:=by
 cases way
 ·exact eI_rK hD h
 ·exact fdiv_floor hD h
 ·exact cdiv_ceil hD h
 ·unfold gI tI kW rK cI fI
  simp only [a_lt_zero hD h,cdiv_ceil hD h,fdiv_floor hD h]
end
theorem fl_mul{U:Nat}(hU:U=1074)(i:Int):fl i*(((2^U:Nat):Int):Rat)=(val i:Rat):=by
 unfold fl;have e:(((2^U:Nat):Int):Rat)=((2^U:Nat):Rat):=rfl;rw [e,<- zpow_nat,show (-1074:Int)=-(U:Int) from by omega,Rat.mul_assoc,<- zpow_add,show -(U:Int)+(U:Int)=0 from by omega,Rat.zpow_zero,Rat.mul_one]
theorem rK_near{w:Nat}(hw:1<=w)(x:Rat):x.floor<=rK w x/\rK w x<=x.floor+1:=by
 have hc:x.floor<=x.ceil/\x.ceil<=x.floor+1:=by
  rw [Rat.ceil_eq_neg_floor_neg];have h1:=Rat.floor_le x;have h2:=Rat.lt_floor_add_one x
  have h3:x.floor<=-(-x).floor:=by
   have:(-x).floor<=-x.floor:=by
    have k:=Rat.floor_le (-x);rw [<- Rat.intCast_le_intCast,Rat.intCast_neg]
    grind
   omega
  have h4:-(x.floor+1)<=(-x).floor:=by
   rw [Rat.le_floor_iff,Rat.intCast_neg]
   grind
  omega
 match w,hw with
 | 1,_=>exact⟨Int.le_refl _,by show x.floor<=_;omega⟩
 | 2,_=>exact hc
 | 3,_=>unfold rK;split<;>omega
 | 4,_=>unfold rK;split<;>omega
 | w+5,_=>unfold rK;split<;>omega
theorem rK_int{w:Nat}(hw:1<=w)(z:Int):rK w (z:Rat)=z:=by
 have e:(z:Rat) - ((z:Rat).floor:Rat)=0:=by rw [Rat.floor_intCast];grind
 match w,hw with
 | 1,_=>exact Rat.floor_intCast z
 | 2,_=>show Rat.ceil _=z;rw [Rat.ceil_eq_neg_floor_neg,<- Rat.intCast_neg,Rat.floor_intCast];exact Int.neg_neg z
 | 3,_=>show (if _ then Rat.ceil _ else Rat.floor _)=z;rw [Rat.ceil_eq_neg_floor_neg,<- Rat.intCast_neg,Rat.floor_intCast,Rat.floor_intCast,show -(-z)=z from Int.neg_neg z];split<;>rfl
 | 4,_=>show Rat.floor _+(if _\/_ then 1 else 0)=z;rw [e,Rat.floor_intCast,if_neg (by intro h;rcases h with h | h<;>grind)];omega
 | w+5,_=>show Rat.floor _+(if _\/_ then 1 else 0)=z;rw [e,Rat.floor_intCast,if_neg (by intro h;rcases h with h | h<;>grind)];omega
theorem whole_fl{w:Nat}(hw:1<=w){i:Int}(h0:-(M:Int)<i)(h1:i<M):∃ j:Int,fl j=(rK w (fl i):Rat)/\-(M:Int)<j/\j<M:=by
 obtain⟨U,hU⟩:∃ U:Nat,U=1074:=⟨_,rfl⟩
 have hp:=Nat.two_pow_pos U
 have hD:(0:Int)<((2^U:Nat):Int):=by omega
 have hf:=fl_mul hU i
 by_cases hd:((2^U:Nat):Int) ∣ val i
 ·obtain⟨z,hz⟩:=hd
  have e:fl i=(z:Rat):=by
   have hD':(((2^U:Nat):Int):Rat)≠0:=by
    intro h;have:((2^U:Nat):Int)=0:=Rat.intCast_inj.1 (by rw [h];rfl)
    omega
   rw [hz,Rat.intCast_mul] at hf
   have k:(fl i - z)*(((2^U:Nat):Int):Rat)=0:=by grind
   rcases Rat.mul_eq_zero.1 k with k | k
   ·grind
   ·exact absurd k hD'
  refine⟨i,?_,h0,h1⟩;rw [e,rK_int hw]
 ·obtain⟨q,k,hq,hk⟩:=rep_iff.1 (Rep.val i)
  have hkU:k<U:=by
   rcases Nat.lt_or_ge k U with h | h
   ·exact h
   ·exfalso
    apply hd
    have:=Int.dvd_trans (pow_dvd_le h) (dvd_of_natAbs hk)
    rwa [Int.natCast_pow]
  have hlt:(val i).natAbs<2^53*2^U:=by
   rw [hk]
   exact Nat.lt_of_lt_of_le ((Nat.mul_lt_mul_right (Nat.two_pow_pos k)).2 hq) (Nat.mul_le_mul_left _ (Nat.pow_le_pow_right (by omega) (by omega)))
  obtain⟨n1,n2⟩:=rK_near hw (fl i);have f1:=fdiv_floor hD hf
  have hb:-(9007199254740992:Int)<=(fl i).floor/\(fl i).floor<9007199254740992:=by
   rw [<- f1];generalize (2^U:Nat)=D at *
   constructor
   ·rw [Int.le_ediv_iff_mul_le hD]
    have:(9007199254740992:Int)*(D:Int)=((2^53*D:Nat):Int):=by rw [Int.natCast_mul];rfl
    have e3:-(9007199254740992:Int)*(D:Int)=-((2^53*D:Nat):Int):=by rw [<- this,Int.neg_mul]
    omega
   ·rw [Int.ediv_lt_iff_lt_mul hD]
    have:(9007199254740992:Int)*(D:Int)=((2^53*D:Nat):Int):=by rw [Int.natCast_mul];rfl
    omega
  have hK:(rK w (fl i)).natAbs<=2^53:=by omega
  generalize rK w (fl i)=K at *
  have hrep:Rep (K*((2^U:Nat):Int)):=by
   refine rep_of_dvd U ⟨K,?_⟩ ?_
   ·rw [Int.mul_comm,Int.natCast_pow];rfl
   ·rw [Int.natAbs_mul]
    exact Nat.mul_le_mul_right _ hK
  obtain⟨j,hj⟩:=hrep;refine⟨j,?_,?_⟩
  ·have k:=fl_mul hU j;rw [hj,Rat.intCast_mul] at k
   have hD':(((2^U:Nat):Int):Rat)≠0:=by
    intro h;have:((2^U:Nat):Int)=0:=Rat.intCast_inj.1 (by rw [h];rfl)
    omega
   have k':(fl j - K)*(((2^U:Nat):Int):Rat)=0:=by grind
   rcases Rat.mul_eq_zero.1 k' with k' | k'
   ·grind
   ·exact absurd k' hD'
  ·have a1:mag j.natAbs<=mag (U*2^52+2^53):=by
    rw [<- val_natAbs,hj,mag_form U (2^53) (.inr (by omega)) (by omega),Int.natAbs_mul]
    exact Nat.mul_le_mul_right _ hK
   have a2:=mag_le_iff.1 a1;have a3:=M_val
   omega
end
def bL:Nat->Int->Rat
 | 1,A=>A
 | 2,A=>A - 1
 | 3,A=>if 0<A then (A:Rat) else A - 1
 | _,A=>A - 1/2
def oL:Nat->Int->Bool
 | 1,_=>false
 | 2,_=>true
 | 3,A=>!decide (0<A)
 | 4,A=>decide (A % 2=1)
 | _,A=>decide (A<=0)
def bU:Nat->Int->Rat
 | 1,B=>B+1
 | 2,B=>B
 | 3,B=>if B<0 then (B:Rat) else B+1
 | _,B=>B+1/2
def oU:Nat->Int->Bool
 | 1,_=>true
 | 2,_=>false
 | 3,B=>!decide (B<0)
 | 4,B=>decide (B % 2=1)
 | _,B=>decide (0<=B)
theorem bL_succ{w:Nat}(hw:1<=w)(B:Int):bL w (B+1)=bU w B/\oL w (B+1)=!oU w B:=by
 have e:((B+1:Int):Rat)=(B:Rat)+1:=by rw [Rat.intCast_add];rfl
 match w,hw with
 | 1,_=>exact⟨e,rfl⟩
 | 2,_=>exact⟨by show ((B+1:Int):Rat) - 1=B;rw [e];grind,rfl⟩
 | 3,_=>
  refine⟨?_,?_⟩
  ·show (if 0<B+1 then ((B+1:Int):Rat) else ((B+1:Int):Rat) - 1)=if B<0 then (B:Rat) else (B:Rat)+1
   rw [e]
   by_cases h:B<0
   ·rw [if_neg (by omega),if_pos h];grind
   ·rw [if_pos (by omega),if_neg h]
  ·show (!decide (0<B+1))=!(!decide (B<0))
   by_cases h:B<0
   ·rw [decide_eq_true h,decide_eq_false (by omega)];rfl
   ·rw [decide_eq_false h,decide_eq_true (by omega)];rfl
 | 4,_=>
  refine⟨?_,?_⟩
  ·show ((B+1:Int):Rat) - 1/2=(B:Rat)+1/2
   rw [e];grind
  ·show decide ((B+1) % 2=1)=!decide (B % 2=1)
   by_cases h:B % 2=1
   ·rw [decide_eq_true h,decide_eq_false (by omega)];rfl
   ·rw [decide_eq_false h,decide_eq_true (by omega)];rfl
 | w+5,_=>
  refine⟨?_,?_⟩
  ·show ((B+1:Int):Rat) - 1/2=(B:Rat)+1/2
   rw [e];grind
  ·show decide (B+1<=0)=!decide (0<=B)
   by_cases h:0<=B
   ·rw [decide_eq_true h,decide_eq_false (by omega)];rfl
   ·rw [decide_eq_false h,decide_eq_true (by omega)];rfl
theorem floor_two(x:Rat):(x.floor:Rat)<=x/\x<(x.floor:Rat)+1:=by
 have h1:=Rat.floor_le x;have h2:=Rat.lt_floor_add_one x;rw [Rat.intCast_add] at h2
 exact⟨h1,h2⟩
theorem ceil_le_iff(x:Rat)(n:Int):x.ceil<=n↔x<=(n:Rat):=by
 rw [Rat.ceil_eq_neg_floor_neg];have h:-n<=(-x).floor↔((-n:Int):Rat)<=-x:=Rat.le_floor_iff;rw [Rat.intCast_neg] at h
 constructor
 ·intro k;have:=h.1 (by omega);grind
 ·intro k;have:=h.2 (by grind);omega
theorem lt_ceil_iff(x:Rat)(n:Int):n<x.ceil↔(n:Rat)<x:=by
 rw [<- Int.not_le,ceil_le_iff];grind
theorem near_iff(x:Rat)(A:Int)(p:Prop)[Decidable p](q:Prop)(h:x=(A:Rat) - 1/2->(p↔q)):
  A<=x.floor+(if (1/2:Rat)<x - x.floor\/x - x.floor=1/2/\p then 1 else 0)↔((A:Rat) - 1/2<x\/x=(A:Rat) - 1/2/\q):=by
 obtain⟨h1,h2⟩:=floor_two x;generalize x.floor=n at *
 rcases Int.lt_trichotomy A (n+1) with c | c | c
 ·have e:(A:Rat)<=n:=Rat.intCast_le_intCast.2 (by omega);refine⟨fun _=>.inl (by grind),fun _=>?_⟩
  split<;>omega
 ·have e:(A:Rat)=(n:Rat)+1:=by rw [c,Rat.intCast_add];rfl
  constructor
  ·intro k
   split at k
   ·rename_i k'
    rcases k' with k' | ⟨k',hp⟩
    ·exact .inl (by grind)
    ·have hx:x=(A:Rat) - 1/2:=by grind
     exact .inr ⟨hx,(h hx).1 hp⟩
   ·omega
  ·rintro (k | ⟨k,hq⟩)
   ·rw [if_pos (.inl (by grind))];omega
   ·rw [if_pos (.inr ⟨by grind,(h k).2 hq⟩)];omega
 ·have e:(n:Rat)+2<=A:=by
   have:=Rat.intCast_le_intCast.2 (show n+2<=A by omega);rw [Rat.intCast_add] at this;exact this
  constructor
  ·intro k
   split at k<;>omega
  ·rintro (k | ⟨k,-⟩)
   ·exfalso;grind
   ·exfalso;grind
theorem le_rK{w:Nat}(hw:1<=w)(A:Int)(x:Rat):A<=rK w x↔(bL w A<x\/x=bL w A/\oL w A=false):=by
 have hf:A<=x.floor↔(A:Rat)<=x:=Rat.le_floor_iff
 have hc:A<=x.ceil↔(A:Rat) - 1<x:=by
  have:=lt_ceil_iff x (A - 1);rw [Rat.intCast_sub] at this
  constructor
  ·intro k;exact this.1 (by omega)
  ·intro k;have:=this.2 k;omega
 match w,hw with
 | 1,_=>
  show A<=x.floor↔((A:Rat)<x\/x=A/\false=false)
  rw [hf];grind
 | 2,_=>
  show A<=x.ceil↔((A:Rat) - 1<x\/x=A - 1/\true=false)
  rw [hc];grind
 | 3,_=>
  show A<=(if x<0 then x.ceil else x.floor)↔((if 0<A then (A:Rat) else A - 1)<x\/x=(if 0<A then (A:Rat) else A - 1)/\(!decide (0<A))=false)
  by_cases h:0<A
  ·have e:(1:Rat)<=A:=Rat.intCast_le_intCast.2 (show (1:Int)<=A by omega);rw [if_pos h,decide_eq_true h]
   by_cases hx:x<0
   ·rw [if_pos hx,hc];grind
   ·rw [if_neg hx,hf];grind
  ·have e:(A:Rat)<=0:=Rat.intCast_le_intCast.2 (show A<=(0:Int) by omega);rw [if_neg h,decide_eq_false h]
   by_cases hx:x<0
   ·rw [if_pos hx,hc];grind
   ·rw [if_neg hx,hf];grind
 | 4,_=>
  show A<=x.floor+(if (1/2:Rat)<x - x.floor\/x - x.floor=1/2/\x.floor % 2=1 then 1 else 0)↔((A:Rat) - 1/2<x\/x=(A:Rat) - 1/2/\decide (A % 2=1)=false)
  refine near_iff x A _ _ fun hx=>?_;obtain⟨h1,h2⟩:=floor_two x
  have e:x.floor=A - 1:=by
   have a1:((x.floor:Int):Rat)<((A:Int):Rat):=by grind
   have a2:((A - 2:Int):Rat)<((x.floor:Int):Rat):=by rw [Rat.intCast_sub];grind
   rw [Rat.intCast_lt_intCast] at a1 a2
   omega
  rw [e,decide_eq_false_iff_not]
  omega
 | w+5,_=>
  show A<=x.floor+(if (1/2:Rat)<x - x.floor\/x - x.floor=1/2/\0<=x then 1 else 0)↔((A:Rat) - 1/2<x\/x=(A:Rat) - 1/2/\decide (A<=0)=false)
  refine near_iff x A _ _ fun hx=>?_;rw [decide_eq_false_iff_not,hx]
  constructor
  ·intro k h;have e:(A:Rat)<=0:=Rat.intCast_le_intCast.2 (show A<=(0:Int) by omega)
   grind
  ·intro h;have e:(1:Rat)<=A:=Rat.intCast_le_intCast.2 (show (1:Int)<=A by omega)
   grind
theorem rK_le{w:Nat}(hw:1<=w)(B:Int)(x:Rat):rK w x<=B↔(x<bU w B\/x=bU w B/\oU w B=false):=by
 have h:=le_rK hw (B+1) x;rw [(bL_succ hw B).1,(bL_succ hw B).2] at h
 have e:rK w x<=B↔¬ (B+1<=rK w x):=by omega
 rw [e,h]
 cases oU w B
 ·constructor
  ·intro k;by_cases c:x<bU w B
   ·exact .inl c
   ·exact .inr ⟨by grind,rfl⟩
  ·rintro (k | ⟨k,-⟩) (k' | ⟨k',e'⟩)
   ·grind
   ·cases e'
   ·grind
   ·cases e'
 ·constructor
  ·intro k;by_cases c:x<bU w B
   ·exact .inl c
   ·exfalso;apply k
    by_cases c':x=bU w B
    ·exact .inr ⟨c',rfl⟩
    ·exact .inl (by grind)
  ·rintro (k | ⟨k,e'⟩) (k' | ⟨k',-⟩)
   ·grind
   ·grind
   ·cases e'
   ·cases e'
def wh(w:Nat)(i:Int):Int:=if -(M:Int)<i/\i<M then rndI 1 (rK w (fl i)) else i
theorem wh_fin{w:Nat}(hw:1<=w){i:Int}(h0:-(M:Int)<i)(h1:i<M):fl (wh w i)=(rK w (fl i):Rat)/\-(M:Int)<wh w i/\wh w i<M:=by
 obtain⟨j,hj,a,b⟩:=whole_fl hw h0 h1;unfold wh;rw [if_pos ⟨h0,h1⟩,<- hj,rndI_fl (.inr rfl) a b]
 exact⟨rfl,a,b⟩
theorem wh_max(w:Nat):wh w M=M:=by unfold wh;rw [if_neg (by omega)]
theorem wh_min(w:Nat):wh w (-(M:Int))=-(M:Int):=by unfold wh;rw [if_neg (by omega)]
theorem wh_rng{w:Nat}(hw:1<=w){i:Int}(h:-(M:Int)<=i/\i<=M):-(M:Int)<=wh w i/\wh w i<=M/\(wh w i=M↔i=M)/\(wh w i=-(M:Int)↔i=-(M:Int)):=by
 have hM:=M_val
 by_cases h0:i=M
 ·rw [h0,wh_max];omega
 ·by_cases h1:i=-(M:Int)
  ·rw [h1,wh_min];omega
  ·have:=wh_fin hw (i:=i) (by omega) (by omega)
   omega
def stp(V F T:Int->Int)(c x:Int × Int):Int × Int:=
 if c.2<c.1\/x.2<x.1 then ((M:Int),-(M:Int))
 else if wh 1 c.2<wh 2 c.1\/wh 1 c.2<V x.1\/V x.2<wh 2 c.1 then ((M:Int),-(M:Int))
 else (max x.1 (F (wh 2 c.1)),min x.2 (T (wh 1 c.2)))
end Go.Proofs.YthlmlmfebpjgdaaGreatDoor
