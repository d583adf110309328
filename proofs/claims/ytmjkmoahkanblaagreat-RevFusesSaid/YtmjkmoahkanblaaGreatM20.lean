/-
Walks: package vergeref2, RMul, RQuo; package vergeref6, Sign; package vergeref10, ratio.
Walks: package round, Mul and what it calls.
Plain: a product and a sum, rounded once: the quick road's answer.
-/
import Derived.Test.YtmjkmoahkanblaaGreatM04
import Derived.Test.YtmjkmoahkanblaaGreatPAddT
import Derived.Test.YtmjkmoahkanblaaGreatM19
import Derived.Test.YtmjkmoahkanblaaGreatPMathT
set_option linter.unusedSimpArgs false
set_option linter.unusedVariables false
set_option maxHeartbeats 12800000
namespace Go.Proofs.YtmjkmoahkanblaaGreat
open Go.RowKit
theorem times_q(A B:Option Addr)(n c m d a b:Nat)(w:World)(hx:U32s w A n c (digs a))(hy:U32s w B m d (digs b))(hs1:n≤8589934592)(hs2:m≤8589934592):
  Calls Tryz.prog 143 #[.slice A n c,.slice B m d] w (NewU32 w (digs (a*b))):=by
 have h:=times_any A B n c m d _ _ w hx hy hs1 hs2;rw [num_digs,num_digs] at h;exact h
theorem pow_mm{K:Nat}(a b:Nat)(ha:a<2^(32*K))(hb:b<2^(32*K)):a*b<2^(32*(2*K)):=by
 have h:2^(32*(2*K))=2^(32*K)*2^(32*K):=by rw [← Nat.pow_add];congr 1;omega
 rw [h]
 exact Nat.mul_lt_mul'' ha hb
theorem rv_mul(g1 g2:Bool)(p1 q1 p2 q2:Nat):rv g1 p1 q1*rv g2 p2 q2=rv (g1 != g2) (p1*p2) (q1*q2):=by
 unfold rv
 cases g1<;>cases g2<;>simp [Rat.div_def,Rat.natCast_mul,Rat.inv_mul_rev]<;>grind
theorem rv_ne(g:Bool){p q:Nat}(hp:0<p)(hq:0<q):rv g p q≠0:=by
 have h1:=mt (rv_le_false (p:=p) (p':=0) hq (q':=1) (by omega)).1 (by omega);rw [rv_zero] at h1
 cases g
 ·grind
 ·rw [rv_true];grind
theorem rv_quo(g1 g2:Bool)(p1 q1 p2 q2:Nat)(h1:0<q1)(h2:0<q2)(h3:0<p2):rv g1 p1 q1 / rv g2 p2 q2=rv (g1 != g2) (p1*q2) (q1*p2):=by
 refine div_eq (rv_ne g2 h3 h2) ?_;rw [rv_mul,show ((g1 != g2) != g2)=g1 from by cases g1<;>cases g2<;>rfl]
 exact rv_eq h1 (Nat.mul_pos (Nat.mul_pos h1 h3) h2) (by ac_rfl)
theorem rquo_walk(K:Nat)(g1 g2:Bool)(p1 q1 p2 q2:Nat)(A1:Option Addr)(n1 c1:Nat)(B1:Option Addr)(m1 d1:Nat)(A2:Option Addr)(n2 c2:Nat)(B2:Option Addr)(m2 d2:Nat)(w:World)(u1:U32s w A1 n1 c1 (digs p1))(v1:U32s w B1 m1 d1 (digs q1))(u2:U32s w A2 n2 c2 (digs p2))(v2:U32s w B2 m2 d2 (digs q2))(l1:n1≤8589934592)(l2:m1≤8589934592)(l3:n2≤8589934592)(l4:m2≤8589934592)(hD:0<q1*p2)(k1:p1*q2<2^(32*K))(k2:q1*p2<2^(32*K))(hK:1≤K)(hK2:K≤1073741824):
  Calls Tryz.prog 209 #[.agg #[.bool g1,.slice A1 n1 c1,.slice B1 m1 d1],.agg #[.bool g2,.slice A2 n2 c2,.slice B2 m2 d2]] w (NewRat w K (rv (g1 != g2) (p1*q2) (q1*p2))):=by
 have T1:=Hd fun W (hW:Below w.heap.size w W)=>times_q A1 B2 n1 c1 m2 d2 p1 q2 W (u1.below hW) (v2.below hW) l1 l4;have T2:=Hd fun W (hW:Below w.heap.size w W)=>times_q B1 A2 m1 d1 n2 c2 q1 p2 W (v1.below hW) (u2.below hW) l2 l3
 obtain⟨X,eX⟩:∃ x,p1*q2=x:=⟨_,rfl⟩
 obtain⟨D,eD⟩:∃ x,q1*p2=x:=⟨_,rfl⟩
 rw [eX] at T1 k1 ⊢;rw [eD] at T2 k2 hD ⊢;have T3:=Hd fun g W (A:Option Addr) (n c:Nat) (B:Option Addr) (m d:Nat) (hx:U32s W A n c (digs X)) (hy:U32s W B m d (digs D))=>frac_plain g A B n c m d K X D W hx hy hD k1 k2 hK hK2;clear u1 v1 u2 v2 l1 l2 l3 l4 hD k1 k2 hK hK2 eX eD;obtain⟨LB0,LG0_0,LG1_0,LR⟩:=bx3 w #[.bool g1,.slice A1 n1 c1,.slice B1 m1 d1] 60 #[.bool g2,.slice A2 n2 c2,.slice B2 m2 d2] 60 #[.bool false,.slice none 0 0,.slice none 0 0] 60;have LR0:=Hd (HasBlk.of (n:=3) LR.out rfl rfl);clear LR
 go_enter Tryz.func209,Tryz.ntmps209
 go_wp2_with fail;refine wp_region_held_drew (S:=fun W'=>Blk W' w.heap.size 60 #[.bool g1,.slice A1 n1 c1,.slice B1 m1 d1]∧Blk W' (w.heap.size+1) 60 #[.bool g2,.slice A2 n2 c2,.slice B2 m2 d2]∧HasBlk W' (w.heap.size+2) 60 3∧Below w.heap.size w W') (by kernel_rfl) (by exact⟨LG0_0.out.drew,LG1_0.out.drew,LR0.out.drew,LB0.out.drew⟩) (fun hHeld=>?_);refine tk 0 ?_;(try simp only [Act.put,lay]);refine tk 1 ?_ (hv:=by intro W2 hSw;obtain⟨q0,q1,q2⟩:=hSw.1.c3;go_simp;(try with_reducible rfl));(try simp only [Act.put,lay]);refine tk 2 ?_;(try simp only [Act.put,lay]);refine tk 3 ?_ (hv:=by intro W2 hSw;obtain⟨q0,q1,q2⟩:=hSw.2.1.c3;go_simp;(try with_reducible rfl));(try simp only [Act.put,lay]);refine tk 4 ?_;(try simp only [Act.put,lay]);refine tk 5 ?_;(try simp only [Act.put,lay]);refine tk 6 ?_ (hv:=by intro W2 hSw;obtain⟨q0,q1,q2⟩:=hSw.1.c3;go_simp;(try with_reducible rfl));(try simp only [Act.put,lay]);refine tk 7 ?_;(try simp only [Act.put,lay]);refine tk 8 ?_ (hv:=by intro W2 hSw;obtain⟨q0,q1,q2⟩:=hSw.2.1.c3;go_simp;(try with_reducible rfl));(try simp only [Act.put,lay]);refine tk 10 ?_;(try simp only [Act.put,lay]);refine tk 11 ?_ (hv:=by intro W2 hSw;obtain⟨q0,q1,q2⟩:=hSw.1.c3;go_simp;(try with_reducible rfl));(try simp only [Act.put,lay]);refine tk 12 ?_;(try simp only [Act.put,lay]);refine tk 13 ?_ (hv:=by intro W2 hSw;obtain⟨q0,q1,q2⟩:=hSw.2.1.c3;go_simp;(try with_reducible rfl));(try simp only [Act.put,lay]);refine rdy 9 (fun KK hKK=>?_);go_simp;refine (T1.out _ hHeld.2.2.2).mono ?_
 rintro e w1 ⟨AX,nX,cX,rfl,hX,hbA⟩;go_wp2_with fail;refine hKK.out _ _ (⟨hHeld.1.keep hbA,hHeld.2.1.keep hbA,hHeld.2.2.1.keep hbA,hHeld.2.2.2.trans (hbA.mono hHeld.2.2.2.size)⟩) (fun _=>?_);clear hKK KK hHeld;rename_i hHeld;(try simp only [Act.put,lay]);refine rdy 14 (fun KK hKK=>?_);go_simp;refine (T2.out _ hHeld.2.2.2).mono ?_;rintro e w2 ⟨AY,nY,cY,rfl,hY,hbB⟩;go_wp2_with fail;refine hKK.out _ _ (⟨hHeld.1.keep hbB,hHeld.2.1.keep hbB,hHeld.2.2.1.keep hbB,hHeld.2.2.2.trans (hbB.mono hHeld.2.2.2.size)⟩) (fun _=>?_);clear hKK KK hHeld;rename_i hHeld;(try simp only [Act.put,lay]);refine rdy 15 (fun KK hKK=>?_);go_simp;refine (T3.out _ _ _ _ _ _ _ _ (hX.below hbB) hY).mono ?_;rintro e w3 ⟨gz,vn,vd,rfl,hR,hbC⟩;obtain⟨AZ,nZ,cZ,BZ,mZ,dZ,rfl,rfl⟩:=hR.shape;go_wp2_with fail;refine hKK.out _ _ (⟨hHeld.1.keep hbC,hHeld.2.1.keep hbC,hHeld.2.2.1.keep hbC,hHeld.2.2.2.trans (hbC.mono hHeld.2.2.2.size)⟩) (fun _=>?_);clear hKK KK hHeld;rename_i hHeld;(try simp only [Act.put,lay]);refine rdy 16 (fun KK hKK=>?_);have ha0:=hHeld.2.2.1.someCell 0 (by decide);have hf0:=hHeld.2.2.1.frozen 0;have ha1:=hHeld.2.2.1.someCell 1 (by decide);have hf1:=hHeld.2.2.1.frozen 1;have ha2:=hHeld.2.2.1.someCell 2 (by decide);have hf2:=hHeld.2.2.1.frozen 2;have HK:=Hd (hHeld.2.2.1.setCell [.bool gz,.slice AZ nZ cZ,.slice BZ mZ dZ] rfl);have F:=Hd (below_sets (w0:=w) (r:=(w.heap.size+2)) (by omega) [.bool gz,.slice AZ nZ cZ,.slice BZ mZ dZ] 0 _ hHeld.2.2.2);have FR:=Hd (hHeld.2.2.1.rat hR [.bool gz,.slice AZ nZ cZ,.slice BZ mZ dZ])
 go_simp;refine hKK.out _ _ (⟨hHeld.1.other (by omega) 0 [.bool gz,.slice AZ nZ cZ,.slice BZ mZ dZ],hHeld.2.1.other (by omega) 0 [.bool gz,.slice AZ nZ cZ,.slice BZ mZ dZ],hHeld.2.2.1.sets [.bool gz,.slice AZ nZ cZ,.slice BZ mZ dZ] rfl rfl,below_sets (by omega) [.bool gz,.slice AZ nZ cZ,.slice BZ mZ dZ] 0 _ hHeld.2.2.2⟩) (fun _=>?_);clear hKK KK hHeld;rename_i hHeld;(try simp only [Act.put,lay]);refine wpAnyH_done (by kernel_rfl) ?_ _;have hk0:=HK.out 0 (by decide);have hk1:=HK.out 1 (by decide);have hk2:=HK.out 2 (by decide)
 simp [sets] at hk0 hk1 hk2
 clear hHeld HK hX hbA hY hbB hR hbC;clear LB0 LR0 LG0_0 LG1_0;go_wp2;refine bodyPost_ret (v:=.agg #[.bool gz,.slice AZ nZ cZ,.slice BZ mZ dZ]) (by simp [results,Tryz.results209,go_sem,hk0,hk1,hk2]) rfl ?_
 exact⟨_,_,_,rfl,FR.out,F.out⟩
theorem rquo_v(K:Nat)(g1:Bool)(vn1 vd1:Value)(x1:Rat)(g2:Bool)(vn2 vd2:Value)(x2:Rat)(w:World)(h1:RatV w K g1 vn1 vd1 x1)(h2:RatV w K g2 vn2 vd2 x2)(hK0:1≤K)(hK:K≤1048576)(hx:x2≠0):
  Calls Tryz.prog 209 #[.agg #[.bool g1,vn1,vd1],.agg #[.bool g2,vn2,vd2]] w (NewRat w (2*K) (x1 / x2)):=by
 obtain⟨p1,q1,A1,n1,c1,B1,m1,d1,rfl,rfl,u1,v1,hq1,-,k1,k2,rfl⟩:=h1;obtain⟨p2,q2,A2,n2,c2,B2,m2,d2,rfl,rfl,u2,v2,hq2,-,k3,k4,rfl⟩:=h2;have l1:=u1.len_le k1;have l2:=v1.len_le k2;have l3:=u2.len_le k3;have l4:=v2.len_le k4
 have hp2:0<p2:=by
  rcases Nat.eq_zero_or_pos p2 with h | h
  ·exact absurd (by rw [h,rv_zero]) hx
  ·exact h
 rw [rv_quo _ _ _ _ _ _ hq1 hq2 hp2]
 exact rquo_walk (2*K) g1 g2 p1 q1 p2 q2 A1 n1 c1 B1 m1 d1 A2 n2 c2 B2 m2 d2 w u1 v1 u2 v2 (by omega) (by omega) (by omega) (by omega) (Nat.mul_pos hq1 hp2) (pow_mm _ _ k1 k4) (pow_mm _ _ k2 k3) (by omega) (by omega)
theorem rmul_walk(K:Nat)(g1 g2:Bool)(p1 q1 p2 q2:Nat)(A1:Option Addr)(n1 c1:Nat)(B1:Option Addr)(m1 d1:Nat)(A2:Option Addr)(n2 c2:Nat)(B2:Option Addr)(m2 d2:Nat)(w:World)(u1:U32s w A1 n1 c1 (digs p1))(v1:U32s w B1 m1 d1 (digs q1))(u2:U32s w A2 n2 c2 (digs p2))(v2:U32s w B2 m2 d2 (digs q2))(l1:n1≤8589934592)(l2:m1≤8589934592)(l3:n2≤8589934592)(l4:m2≤8589934592)(hD:0<q1*q2)(k1:p1*p2<2^(32*K))(k2:q1*q2<2^(32*K))(hK:1≤K)(hK2:K≤1073741824):
  Calls Tryz.prog 221 #[.agg #[.bool g1,.slice A1 n1 c1,.slice B1 m1 d1],.agg #[.bool g2,.slice A2 n2 c2,.slice B2 m2 d2]] w (NewRat w K (rv (g1 != g2) (p1*p2) (q1*q2))):=by
 have T1:=Hd fun W (hW:Below w.heap.size w W)=>times_q A1 A2 n1 c1 n2 c2 p1 p2 W (u1.below hW) (u2.below hW) l1 l3;have T2:=Hd fun W (hW:Below w.heap.size w W)=>times_q B1 B2 m1 d1 m2 d2 q1 q2 W (v1.below hW) (v2.below hW) l2 l4
 obtain⟨X,eX⟩:∃ x,p1*p2=x:=⟨_,rfl⟩
 obtain⟨D,eD⟩:∃ x,q1*q2=x:=⟨_,rfl⟩
 rw [eX] at T1 k1 ⊢;rw [eD] at T2 k2 hD ⊢;have T3:=Hd fun g W (A:Option Addr) (n c:Nat) (B:Option Addr) (m d:Nat) (hx:U32s W A n c (digs X)) (hy:U32s W B m d (digs D))=>frac_plain g A B n c m d K X D W hx hy hD k1 k2 hK hK2;clear u1 v1 u2 v2 l1 l2 l3 l4 hD k1 k2 hK hK2 eX eD;obtain⟨LB0,LG0_0,LG1_0,LR⟩:=bx3 w #[.bool g1,.slice A1 n1 c1,.slice B1 m1 d1] 60 #[.bool g2,.slice A2 n2 c2,.slice B2 m2 d2] 60 #[.bool false,.slice none 0 0,.slice none 0 0] 60;have LR0:=Hd (HasBlk.of (n:=3) LR.out rfl rfl);clear LR
 go_enter Tryz.func221,Tryz.ntmps221
 go_wp2_with fail;refine wp_region_held_drew (S:=fun W'=>Blk W' w.heap.size 60 #[.bool g1,.slice A1 n1 c1,.slice B1 m1 d1]∧Blk W' (w.heap.size+1) 60 #[.bool g2,.slice A2 n2 c2,.slice B2 m2 d2]∧HasBlk W' (w.heap.size+2) 60 3∧Below w.heap.size w W') (by kernel_rfl) (by exact⟨LG0_0.out.drew,LG1_0.out.drew,LR0.out.drew,LB0.out.drew⟩) (fun hHeld=>?_);refine tk 0 ?_;(try simp only [Act.put,lay]);refine tk 1 ?_ (hv:=by intro W2 hSw;obtain⟨q0,q1,q2⟩:=hSw.1.c3;go_simp;(try with_reducible rfl));(try simp only [Act.put,lay]);refine tk 2 ?_;(try simp only [Act.put,lay]);refine tk 3 ?_ (hv:=by intro W2 hSw;obtain⟨q0,q1,q2⟩:=hSw.2.1.c3;go_simp;(try with_reducible rfl));(try simp only [Act.put,lay]);refine tk 4 ?_;(try simp only [Act.put,lay]);refine tk 5 ?_;(try simp only [Act.put,lay]);refine tk 6 ?_ (hv:=by intro W2 hSw;obtain⟨q0,q1,q2⟩:=hSw.1.c3;go_simp;(try with_reducible rfl));(try simp only [Act.put,lay]);refine tk 7 ?_;(try simp only [Act.put,lay]);refine tk 8 ?_ (hv:=by intro W2 hSw;obtain⟨q0,q1,q2⟩:=hSw.2.1.c3;go_simp;(try with_reducible rfl));(try simp only [Act.put,lay]);refine tk 10 ?_;(try simp only [Act.put,lay]);refine tk 11 ?_ (hv:=by intro W2 hSw;obtain⟨q0,q1,q2⟩:=hSw.1.c3;go_simp;(try with_reducible rfl));(try simp only [Act.put,lay]);refine tk 12 ?_;(try simp only [Act.put,lay]);refine tk 13 ?_ (hv:=by intro W2 hSw;obtain⟨q0,q1,q2⟩:=hSw.2.1.c3;go_simp;(try with_reducible rfl));(try simp only [Act.put,lay]);refine rdy 9 (fun KK hKK=>?_);go_simp;refine (T1.out _ hHeld.2.2.2).mono ?_
 rintro e w1 ⟨AX,nX,cX,rfl,hX,hbA⟩;go_wp2_with fail;refine hKK.out _ _ (⟨hHeld.1.keep hbA,hHeld.2.1.keep hbA,hHeld.2.2.1.keep hbA,hHeld.2.2.2.trans (hbA.mono hHeld.2.2.2.size)⟩) (fun _=>?_);clear hKK KK hHeld;rename_i hHeld;(try simp only [Act.put,lay]);refine rdy 14 (fun KK hKK=>?_);go_simp;refine (T2.out _ hHeld.2.2.2).mono ?_;rintro e w2 ⟨AY,nY,cY,rfl,hY,hbB⟩;go_wp2_with fail;refine hKK.out _ _ (⟨hHeld.1.keep hbB,hHeld.2.1.keep hbB,hHeld.2.2.1.keep hbB,hHeld.2.2.2.trans (hbB.mono hHeld.2.2.2.size)⟩) (fun _=>?_);clear hKK KK hHeld;rename_i hHeld;(try simp only [Act.put,lay]);refine rdy 15 (fun KK hKK=>?_);go_simp;refine (T3.out _ _ _ _ _ _ _ _ (hX.below hbB) hY).mono ?_;rintro e w3 ⟨gz,vn,vd,rfl,hR,hbC⟩;obtain⟨AZ,nZ,cZ,BZ,mZ,dZ,rfl,rfl⟩:=hR.shape;go_wp2_with fail;refine hKK.out _ _ (⟨hHeld.1.keep hbC,hHeld.2.1.keep hbC,hHeld.2.2.1.keep hbC,hHeld.2.2.2.trans (hbC.mono hHeld.2.2.2.size)⟩) (fun _=>?_);clear hKK KK hHeld;rename_i hHeld;(try simp only [Act.put,lay]);refine rdy 16 (fun KK hKK=>?_);have ha0:=hHeld.2.2.1.someCell 0 (by decide);have hf0:=hHeld.2.2.1.frozen 0;have ha1:=hHeld.2.2.1.someCell 1 (by decide);have hf1:=hHeld.2.2.1.frozen 1;have ha2:=hHeld.2.2.1.someCell 2 (by decide);have hf2:=hHeld.2.2.1.frozen 2;have HK:=Hd (hHeld.2.2.1.setCell [.bool gz,.slice AZ nZ cZ,.slice BZ mZ dZ] rfl);have F:=Hd (below_sets (w0:=w) (r:=(w.heap.size+2)) (by omega) [.bool gz,.slice AZ nZ cZ,.slice BZ mZ dZ] 0 _ hHeld.2.2.2);have FR:=Hd (hHeld.2.2.1.rat hR [.bool gz,.slice AZ nZ cZ,.slice BZ mZ dZ])
 go_simp;refine hKK.out _ _ (⟨hHeld.1.other (by omega) 0 [.bool gz,.slice AZ nZ cZ,.slice BZ mZ dZ],hHeld.2.1.other (by omega) 0 [.bool gz,.slice AZ nZ cZ,.slice BZ mZ dZ],hHeld.2.2.1.sets [.bool gz,.slice AZ nZ cZ,.slice BZ mZ dZ] rfl rfl,below_sets (by omega) [.bool gz,.slice AZ nZ cZ,.slice BZ mZ dZ] 0 _ hHeld.2.2.2⟩) (fun _=>?_);clear hKK KK hHeld;rename_i hHeld;(try simp only [Act.put,lay]);refine wpAnyH_done (by kernel_rfl) ?_ _;have hk0:=HK.out 0 (by decide);have hk1:=HK.out 1 (by decide);have hk2:=HK.out 2 (by decide)
 simp [sets] at hk0 hk1 hk2
 clear hHeld HK hX hbA hY hbB hR hbC;clear LB0 LR0 LG0_0 LG1_0;go_wp2;refine bodyPost_ret (v:=.agg #[.bool gz,.slice AZ nZ cZ,.slice BZ mZ dZ]) (by simp [results,Tryz.results221,go_sem,hk0,hk1,hk2]) rfl ?_
 exact⟨_,_,_,rfl,FR.out,F.out⟩
theorem rmul_v(K:Nat)(g1:Bool)(vn1 vd1:Value)(x1:Rat)(g2:Bool)(vn2 vd2:Value)(x2:Rat)(w:World)(h1:RatV w K g1 vn1 vd1 x1)(h2:RatV w K g2 vn2 vd2 x2)(hK0:1≤K)(hK:K≤1048576):
  Calls Tryz.prog 221 #[.agg #[.bool g1,vn1,vd1],.agg #[.bool g2,vn2,vd2]] w (NewRat w (2*K) (x1*x2)):=by
 obtain⟨p1,q1,A1,n1,c1,B1,m1,d1,rfl,rfl,u1,v1,hq1,-,k1,k2,rfl⟩:=h1;obtain⟨p2,q2,A2,n2,c2,B2,m2,d2,rfl,rfl,u2,v2,hq2,-,k3,k4,rfl⟩:=h2;have l1:=u1.len_le k1;have l2:=v1.len_le k2;have l3:=u2.len_le k3;have l4:=v2.len_le k4;rw [rv_mul]
 exact rmul_walk (2*K) g1 g2 p1 q1 p2 q2 A1 n1 c1 B1 m1 d1 A2 n2 c2 B2 m2 d2 w u1 v1 u2 v2 (by omega) (by omega) (by omega) (by omega) (Nat.mul_pos hq1 hq2) (pow_mm _ _ k1 k3) (pow_mm _ _ k2 k4) (by omega) (by omega)
theorem sign6_any(K:Nat)(s1:Int)(g1:Bool)(A1:Option Addr)(n1 c1:Nat)(B1:Option Addr)(m1 d1:Nat)(x1:Rat)(w:World)(h1:RatV w K g1 (.slice A1 n1 c1) (.slice B1 m1 d1) x1)(hK:K≤1073741824):
  Calls Tryz.prog 86 #[.agg #[.int .i64 s1,.bool g1,.slice A1 n1 c1,.slice B1 m1 d1]] w fun e w'=>e=.returned (.int .i64 (esx s1 x1))∧Below w.heap.size w w':=by
 have HS:=Hd fun W (hW:Below w.heap.size w W)=>rsign_any K g1 (.slice A1 n1 c1) (.slice B1 m1 d1) x1 W (h1.below hW) hK;unfold esx;clear h1 hK;obtain⟨LB0,LG0_0⟩:=bx1 w #[.int .i64 s1,.bool g1,.slice A1 n1 c1,.slice B1 m1 d1] 67
 by_cases hs:s1=0
 ·subst hs
  simp only [ne_eq,not_true_eq_false,if_false]
  obtain⟨r,hr⟩:∃ r,rsg x1=r:=⟨_,rfl⟩
  rw [hr] at HS ⊢;clear hr
  go_enter Tryz.func86,Tryz.ntmps86
  obtain⟨q0_0,q0_1,q0_2,q0_3⟩:=LG0_0.out.c4;go_wp2_with fail;refine (HS.out _ LB0.out).mono ?_;rintro e w1 ⟨rfl,hb1⟩;have F:=Hd (LB0.out.trans (hb1.mono LB0.out.size));clear hb1;go_wp2
  go_ret
  exact⟨rfl,F.out⟩
 ·rw [if_pos hs]
  have hz:(s1 == 0)=false:=by simpa using hs
  have hz2:(s1 != 0)=true:=by simp [hs]
  clear hs HS;have F:=Hd LB0.out
  go_enter Tryz.func86,Tryz.ntmps86
  obtain⟨q0_0,q0_1,q0_2,q0_3⟩:=LG0_0.out.c4;go_wp2
  go_ret
  exact⟨rfl,F.out⟩
theorem ratio_nought(K:Nat)(s1:Int)(g1:Bool)(A1:Option Addr)(n1 c1:Nat)(B1:Option Addr)(m1 d1:Nat)(x1:Rat)(s2:Int)(g2:Bool)(A2:Option Addr)(n2 c2:Nat)(B2:Option Addr)(m2 d2:Nat)(x2:Rat)(w:World)(h1:RatV w K g1 (.slice A1 n1 c1) (.slice B1 m1 d1) x1)(h2:RatV w K g2 (.slice A2 n2 c2) (.slice B2 m2 d2) x2)(hK0:1≤K)(hK:K≤1048576)(hs:esx s1 x1=0):
  Calls Tryz.prog 147 #[.agg #[.int .i64 s1,.bool g1,.slice A1 n1 c1,.slice B1 m1 d1],.agg #[.int .i64 s2,.bool g2,.slice A2 n2 c2,.slice B2 m2 d2]] w (NewBd w 1 0 0 1 false):=by
 have HS:=Hd fun W (hW:Below w.heap.size w W)=>sign6_any K s1 g1 A1 n1 c1 B1 m1 d1 x1 W (h1.below hW) (by omega);rw [hs] at HS;have HW:=Hd fun W=>whole_nat 0 false W (by omega);clear h1 h2 hs hK0 hK;obtain⟨LB0,LG0_0,LG1_0,LR⟩:=bx3 w #[.int .i64 s1,.bool g1,.slice A1 n1 c1,.slice B1 m1 d1] 67 #[.int .i64 s2,.bool g2,.slice A2 n2 c2,.slice B2 m2 d2] 67 #[.int .i64 0,.bool false,.slice none 0 0,.slice none 0 0,.int .i64 0,.bool false] 62;have LR0:=Hd (HasBlk.of (n:=6) LR.out rfl rfl);clear LR
 go_enter Tryz.func147,Tryz.ntmps147
 obtain⟨q0_0,q0_1,q0_2,q0_3⟩:=LG0_0.out.c4;go_wp2_with fail;refine (HS.out _ LB0.out).mono ?_;rintro e w1 ⟨rfl,hb1⟩;have LB1:=stB LB0 hb1 LB0.out.size;have LR1:=stR LR0 hb1;have LG0_1:=stG LG0_0 hb1;have LG1_1:=stG LG1_0 hb1;clear LB0 LR0 LG0_0 LG1_0;clear hb1 HS q0_0 q0_1 q0_2 q0_3;go_wp2_with fail;refine (HW.out _).mono ?_;rintro e w2 ⟨gz,AZ,nZ,cZ,BZ,mZ,dZ,rfl,hR,hb2⟩;have LB2:=stB LB1 hb2 LB1.out.size;have LR2:=stR LR1 hb2;have LG0_2:=stG LG0_1 hb2;have LG1_2:=stG LG1_1 hb2;clear LB1 LR1 LG0_1 LG1_1;clear HW;have FR:=Hd (LR2.out.rat hR [.int .i64 0,.bool gz,.slice AZ nZ cZ,.slice BZ mZ dZ,.int .i64 1,.bool false]);clear hR hb2;obtain⟨ha0,hf0,ha1,hf1,ha2,hf2,ha3,hf3,ha4,hf4,ha5,hf5⟩:=LR2.out.sf6;obtain⟨hk0,hk1,hk2,hk3,hk4,hk5⟩:=LR2.out.sc6 (.int .i64 0) (.bool gz) (.slice AZ nZ cZ) (.slice BZ mZ dZ) (.int .i64 1) (.bool false);have F:=Hd (below_sets (w0:=w) (r:=(w.heap.size+2)) (by omega) [.int .i64 0,.bool gz,.slice AZ nZ cZ,.slice BZ mZ dZ,.int .i64 1,.bool false] 0 _ LB2.out)
 simp [sets] at hk0 hk1 hk2 hk3 hk4 hk5
 go_wp2;refine bodyPost_ret (v:=.agg #[.int .i64 0,.bool gz,.slice AZ nZ cZ,.slice BZ mZ dZ,.int .i64 1,.bool false]) (by simp [results,Tryz.results147,go_sem,hk0,hk1,hk2,hk3,hk4,hk5]) rfl ?_
 exact⟨_,_,_,_,_,_,_,rfl,FR.out,F.out⟩
theorem ratio_inf(K:Nat)(s1:Int)(g1:Bool)(A1:Option Addr)(n1 c1:Nat)(B1:Option Addr)(m1 d1:Nat)(x1:Rat)(s2:Int)(g2:Bool)(A2:Option Addr)(n2 c2:Nat)(B2:Option Addr)(m2 d2:Nat)(x2:Rat)(w:World)(h1:RatV w K g1 (.slice A1 n1 c1) (.slice B1 m1 d1) x1)(h2:RatV w K g2 (.slice A2 n2 c2) (.slice B2 m2 d2) x2)(hK0:1≤K)(hK:K≤1048576)(hs:esx s1 x1≠0)(ht:s2≠0):
  Calls Tryz.prog 147 #[.agg #[.int .i64 s1,.bool g1,.slice A1 n1 c1,.slice B1 m1 d1],.agg #[.int .i64 s2,.bool g2,.slice A2 n2 c2,.slice B2 m2 d2]] w (NewBd w 1 0 0 1 true):=by
 have HS:=Hd fun W (hW:Below w.heap.size w W)=>sign6_any K s1 g1 A1 n1 c1 B1 m1 d1 x1 W (h1.below hW) (by omega)
 obtain⟨sg,hsg⟩:∃ z,esx s1 x1=z:=⟨_,rfl⟩
 rw [hsg] at HS hs
 have hz:(sg == 0)=false:=by simpa using hs
 have HW:=Hd fun W=>whole_nat 0 true W (by omega)
 have hz2:(s2 == 0)=false:=by simpa using ht
 have hz3:(s2 != 0)=true:=by simp [ht]
 clear h1 h2 hs hsg ht hK0 hK;obtain⟨LB0,LG0_0,LG1_0,LR⟩:=bx3 w #[.int .i64 s1,.bool g1,.slice A1 n1 c1,.slice B1 m1 d1] 67 #[.int .i64 s2,.bool g2,.slice A2 n2 c2,.slice B2 m2 d2] 67 #[.int .i64 0,.bool false,.slice none 0 0,.slice none 0 0,.int .i64 0,.bool false] 62;have LR0:=Hd (HasBlk.of (n:=6) LR.out rfl rfl);clear LR
 go_enter Tryz.func147,Tryz.ntmps147
 obtain⟨q0_0,q0_1,q0_2,q0_3⟩:=LG0_0.out.c4;go_wp2_with fail;refine (HS.out _ LB0.out).mono ?_;rintro e w1 ⟨rfl,hb1⟩;have LB1:=stB LB0 hb1 LB0.out.size;have LR1:=stR LR0 hb1;have LG0_1:=stG LG0_0 hb1;have LG1_1:=stG LG1_0 hb1;clear LB0 LR0 LG0_0 LG1_0;clear hb1 HS q0_0 q0_1 q0_2 q0_3;obtain⟨q1_0,q1_1,q1_2,q1_3⟩:=LG1_1.out.c4;go_wp2_with fail;refine (HW.out _).mono ?_;rintro e w2 ⟨gz,AZ,nZ,cZ,BZ,mZ,dZ,rfl,hR,hb2⟩;have LB2:=stB LB1 hb2 LB1.out.size;have LR2:=stR LR1 hb2;have LG0_2:=stG LG0_1 hb2;have LG1_2:=stG LG1_1 hb2;clear LB1 LR1 LG0_1 LG1_1;clear HW q1_0 q1_1 q1_2 q1_3;have FR:=Hd (LR2.out.rat hR [.int .i64 0,.bool gz,.slice AZ nZ cZ,.slice BZ mZ dZ,.int .i64 1,.bool true]);clear hR hb2;obtain⟨ha0,hf0,ha1,hf1,ha2,hf2,ha3,hf3,ha4,hf4,ha5,hf5⟩:=LR2.out.sf6;obtain⟨hk0,hk1,hk2,hk3,hk4,hk5⟩:=LR2.out.sc6 (.int .i64 0) (.bool gz) (.slice AZ nZ cZ) (.slice BZ mZ dZ) (.int .i64 1) (.bool true);have F:=Hd (below_sets (w0:=w) (r:=(w.heap.size+2)) (by omega) [.int .i64 0,.bool gz,.slice AZ nZ cZ,.slice BZ mZ dZ,.int .i64 1,.bool true] 0 _ LB2.out)
 simp [sets] at hk0 hk1 hk2 hk3 hk4 hk5
 go_wp2;refine bodyPost_ret (v:=.agg #[.int .i64 0,.bool gz,.slice AZ nZ cZ,.slice BZ mZ dZ,.int .i64 1,.bool true]) (by simp [results,Tryz.results147,go_sem,hk0,hk1,hk2,hk3,hk4,hk5]) rfl ?_
 exact⟨_,_,_,_,_,_,_,rfl,FR.out,F.out⟩
theorem ratio_far(K:Nat)(s1:Int)(g1:Bool)(A1:Option Addr)(n1 c1:Nat)(B1:Option Addr)(m1 d1:Nat)(x1:Rat)(s2:Int)(g2:Bool)(A2:Option Addr)(n2 c2:Nat)(B2:Option Addr)(m2 d2:Nat)(x2:Rat)(w:World)(h1:RatV w K g1 (.slice A1 n1 c1) (.slice B1 m1 d1) x1)(h2:RatV w K g2 (.slice A2 n2 c2) (.slice B2 m2 d2) x2)(hK0:1≤K)(hK:K≤1048576)(hs:esx s1 x1≠0)(h0:s2=0)(ht:s1≠0):
  Calls Tryz.prog 147 #[.agg #[.int .i64 s1,.bool g1,.slice A1 n1 c1,.slice B1 m1 d1],.agg #[.int .i64 s2,.bool g2,.slice A2 n2 c2,.slice B2 m2 d2]] w (NewBd w 1 (esx s1 x1) 0 1 true):=by
 have HS:=Hd fun W (hW:Below w.heap.size w W)=>sign6_any K s1 g1 A1 n1 c1 B1 m1 d1 x1 W (h1.below hW) (by omega)
 obtain⟨sg,hsg⟩:∃ z,esx s1 x1=z:=⟨_,rfl⟩
 rw [hsg] at HS hs
 have hz:(sg == 0)=false:=by simpa using hs
 have HW:=Hd fun W=>far_any sg W
 have hz3:(s1 == 0)=false:=by simpa using ht
 have hz4:(s1 != 0)=true:=by simp [ht]
 rw [hsg];subst h0;clear h1 h2 hs hsg ht hK0 hK;obtain⟨LB0,LG0_0,LG1_0,LR⟩:=bx3 w #[.int .i64 s1,.bool g1,.slice A1 n1 c1,.slice B1 m1 d1] 67 #[.int .i64 0,.bool g2,.slice A2 n2 c2,.slice B2 m2 d2] 67 #[.int .i64 0,.bool false,.slice none 0 0,.slice none 0 0,.int .i64 0,.bool false] 62;have LR0:=Hd (HasBlk.of (n:=6) LR.out rfl rfl);clear LR
 go_enter Tryz.func147,Tryz.ntmps147
 obtain⟨q0_0,q0_1,q0_2,q0_3⟩:=LG0_0.out.c4;go_wp2_with fail;refine (HS.out _ LB0.out).mono ?_;rintro e w1 ⟨rfl,hb1⟩;have LB1:=stB LB0 hb1 LB0.out.size;have LR1:=stR LR0 hb1;have LG0_1:=stG LG0_0 hb1;have LG1_1:=stG LG1_0 hb1;clear LB0 LR0 LG0_0 LG1_0;clear hb1 HS q0_0 q0_1 q0_2 q0_3;obtain⟨q0_0,q0_1,q0_2,q0_3⟩:=LG0_1.out.c4;obtain⟨q1_0,q1_1,q1_2,q1_3⟩:=LG1_1.out.c4;go_wp2_with fail;refine (HW.out _).mono ?_;rintro e w2 ⟨gz,AZ,nZ,cZ,BZ,mZ,dZ,rfl,hR,hb2⟩;have LB2:=stB LB1 hb2 LB1.out.size;have LR2:=stR LR1 hb2;have LG0_2:=stG LG0_1 hb2;have LG1_2:=stG LG1_1 hb2;clear LB1 LR1 LG0_1 LG1_1;clear HW q0_0 q0_1 q0_2 q0_3 q1_0 q1_1 q1_2 q1_3;have FR:=Hd (LR2.out.rat hR [.int .i64 sg,.bool gz,.slice AZ nZ cZ,.slice BZ mZ dZ,.int .i64 1,.bool true]);clear hR hb2;obtain⟨ha0,hf0,ha1,hf1,ha2,hf2,ha3,hf3,ha4,hf4,ha5,hf5⟩:=LR2.out.sf6;obtain⟨hk0,hk1,hk2,hk3,hk4,hk5⟩:=LR2.out.sc6 (.int .i64 sg) (.bool gz) (.slice AZ nZ cZ) (.slice BZ mZ dZ) (.int .i64 1) (.bool true);have F:=Hd (below_sets (w0:=w) (r:=(w.heap.size+2)) (by omega) [.int .i64 sg,.bool gz,.slice AZ nZ cZ,.slice BZ mZ dZ,.int .i64 1,.bool true] 0 _ LB2.out)
 simp [sets] at hk0 hk1 hk2 hk3 hk4 hk5
 go_wp2;refine bodyPost_ret (v:=.agg #[.int .i64 sg,.bool gz,.slice AZ nZ cZ,.slice BZ mZ dZ,.int .i64 1,.bool true]) (by simp [results,Tryz.results147,go_sem,hk0,hk1,hk2,hk3,hk4,hk5]) rfl ?_
 exact⟨_,_,_,_,_,_,_,rfl,FR.out,F.out⟩
theorem ratio_zero(K:Nat)(s1:Int)(g1:Bool)(A1:Option Addr)(n1 c1:Nat)(B1:Option Addr)(m1 d1:Nat)(x1:Rat)(s2:Int)(g2:Bool)(A2:Option Addr)(n2 c2:Nat)(B2:Option Addr)(m2 d2:Nat)(x2:Rat)(w:World)(h1:RatV w K g1 (.slice A1 n1 c1) (.slice B1 m1 d1) x1)(h2:RatV w K g2 (.slice A2 n2 c2) (.slice B2 m2 d2) x2)(hK0:1≤K)(hK:K≤1048576)(hs:esx s1 x1≠0)(h0:s2=0)(ht:s1=0)(hx:x2=0):
  Calls Tryz.prog 147 #[.agg #[.int .i64 s1,.bool g1,.slice A1 n1 c1,.slice B1 m1 d1],.agg #[.int .i64 s2,.bool g2,.slice A2 n2 c2,.slice B2 m2 d2]] w (NewBd w 1 (esx s1 x1) 0 1 true):=by
 have HS:=Hd fun W (hW:Below w.heap.size w W)=>sign6_any K s1 g1 A1 n1 c1 B1 m1 d1 x1 W (h1.below hW) (by omega)
 obtain⟨sg,hsg⟩:∃ z,esx s1 x1=z:=⟨_,rfl⟩
 rw [hsg] at HS hs
 have hz:(sg == 0)=false:=by simpa using hs
 have HT:=Hd fun W (hW:Below w.heap.size w W)=>sign6_any K 0 g2 A2 n2 c2 B2 m2 d2 x2 W (h2.below hW) (by omega);rw [show esx 0 x2=0 from by rw [hx];rfl] at HT;have HW:=Hd fun W=>far_any sg W;rw [hsg];subst h0;subst ht;clear h1 h2 hs hsg hx hK0 hK;obtain⟨LB0,LG0_0,LG1_0,LR⟩:=bx3 w #[.int .i64 0,.bool g1,.slice A1 n1 c1,.slice B1 m1 d1] 67 #[.int .i64 0,.bool g2,.slice A2 n2 c2,.slice B2 m2 d2] 67 #[.int .i64 0,.bool false,.slice none 0 0,.slice none 0 0,.int .i64 0,.bool false] 62;have LR0:=Hd (HasBlk.of (n:=6) LR.out rfl rfl);clear LR
 go_enter Tryz.func147,Tryz.ntmps147
 obtain⟨q0_0,q0_1,q0_2,q0_3⟩:=LG0_0.out.c4;go_wp2_with fail;refine (HS.out _ LB0.out).mono ?_;rintro e w1 ⟨rfl,hb1⟩;have LB1:=stB LB0 hb1 LB0.out.size;have LR1:=stR LR0 hb1;have LG0_1:=stG LG0_0 hb1;have LG1_1:=stG LG1_0 hb1;clear LB0 LR0 LG0_0 LG1_0;clear hb1 HS q0_0 q0_1 q0_2 q0_3;obtain⟨q0_0,q0_1,q0_2,q0_3⟩:=LG0_1.out.c4;obtain⟨q1_0,q1_1,q1_2,q1_3⟩:=LG1_1.out.c4;go_wp2_with fail;refine (HT.out _ LB1.out).mono ?_;rintro e w2 ⟨rfl,hb2⟩;have LB2:=stB LB1 hb2 LB1.out.size;have LR2:=stR LR1 hb2;have LG0_2:=stG LG0_1 hb2;have LG1_2:=stG LG1_1 hb2;clear LB1 LR1 LG0_1 LG1_1;clear hb2 HT q0_0 q0_1 q0_2 q0_3 q1_0 q1_1 q1_2 q1_3;go_wp2_with fail;refine (HW.out _).mono ?_;rintro e w3 ⟨gz,AZ,nZ,cZ,BZ,mZ,dZ,rfl,hR,hb3⟩;have LB3:=stB LB2 hb3 LB2.out.size;have LR3:=stR LR2 hb3;have LG0_3:=stG LG0_2 hb3;have LG1_3:=stG LG1_2 hb3;clear LB2 LR2 LG0_2 LG1_2;clear HW;have FR:=Hd (LR3.out.rat hR [.int .i64 sg,.bool gz,.slice AZ nZ cZ,.slice BZ mZ dZ,.int .i64 1,.bool true]);clear hR hb3;obtain⟨ha0,hf0,ha1,hf1,ha2,hf2,ha3,hf3,ha4,hf4,ha5,hf5⟩:=LR3.out.sf6;obtain⟨hk0,hk1,hk2,hk3,hk4,hk5⟩:=LR3.out.sc6 (.int .i64 sg) (.bool gz) (.slice AZ nZ cZ) (.slice BZ mZ dZ) (.int .i64 1) (.bool true);have F:=Hd (below_sets (w0:=w) (r:=(w.heap.size+2)) (by omega) [.int .i64 sg,.bool gz,.slice AZ nZ cZ,.slice BZ mZ dZ,.int .i64 1,.bool true] 0 _ LB3.out)
 simp [sets] at hk0 hk1 hk2 hk3 hk4 hk5
 go_wp2;refine bodyPost_ret (v:=.agg #[.int .i64 sg,.bool gz,.slice AZ nZ cZ,.slice BZ mZ dZ,.int .i64 1,.bool true]) (by simp [results,Tryz.results147,go_sem,hk0,hk1,hk2,hk3,hk4,hk5]) rfl ?_
 exact⟨_,_,_,_,_,_,_,rfl,FR.out,F.out⟩
theorem ratio_fin(K:Nat)(s1:Int)(g1:Bool)(A1:Option Addr)(n1 c1:Nat)(B1:Option Addr)(m1 d1:Nat)(x1:Rat)(s2:Int)(g2:Bool)(A2:Option Addr)(n2 c2:Nat)(B2:Option Addr)(m2 d2:Nat)(x2:Rat)(w:World)(h1:RatV w K g1 (.slice A1 n1 c1) (.slice B1 m1 d1) x1)(h2:RatV w K g2 (.slice A2 n2 c2) (.slice B2 m2 d2) x2)(hK0:1≤K)(hK:K≤1048576)(hs:esx s1 x1≠0)(h0:s2=0)(ht:s1=0)(hx:x2≠0):
  Calls Tryz.prog 147 #[.agg #[.int .i64 s1,.bool g1,.slice A1 n1 c1,.slice B1 m1 d1],.agg #[.int .i64 s2,.bool g2,.slice A2 n2 c2,.slice B2 m2 d2]] w (NewBd w (2*K) 0 (x1 / x2) 1 false):=by
 have HS:=Hd fun W (hW:Below w.heap.size w W)=>sign6_any K s1 g1 A1 n1 c1 B1 m1 d1 x1 W (h1.below hW) (by omega)
 obtain⟨sg,hsg⟩:∃ z,esx s1 x1=z:=⟨_,rfl⟩
 rw [hsg] at HS hs
 have hz:(sg == 0)=false:=by simpa using hs
 have HT:=Hd fun W (hW:Below w.heap.size w W)=>sign6_any K 0 g2 A2 n2 c2 B2 m2 d2 x2 W (h2.below hW) (by omega)
 obtain⟨tg,htg⟩:∃ z,esx 0 x2=z:=⟨_,rfl⟩
 rw [htg] at HT
 have hz5:(tg == 0)=false:=by
  rw [← htg];unfold esx rsg;rw [if_neg (by omega),if_neg hx]
  split<;>rfl
 have HW:=Hd fun W (hW:Below w.heap.size w W)=>(rquo_v K g1 (.slice A1 n1 c1) (.slice B1 m1 d1) x1 g2 (.slice A2 n2 c2) (.slice B2 m2 d2) x2 W (h1.below hW) (h2.below hW) hK0 hK hx).mono fun _ _ h=>h.s;subst h0;subst ht;clear h1 h2 hs hsg hx htg hK0 hK;obtain⟨LB0,LG0_0,LG1_0,LR⟩:=bx3 w #[.int .i64 0,.bool g1,.slice A1 n1 c1,.slice B1 m1 d1] 67 #[.int .i64 0,.bool g2,.slice A2 n2 c2,.slice B2 m2 d2] 67 #[.int .i64 0,.bool false,.slice none 0 0,.slice none 0 0,.int .i64 0,.bool false] 62;have LR0:=Hd (HasBlk.of (n:=6) LR.out rfl rfl);clear LR
 go_enter Tryz.func147,Tryz.ntmps147
 obtain⟨q0_0,q0_1,q0_2,q0_3⟩:=LG0_0.out.c4;go_wp2_with fail;refine (HS.out _ LB0.out).mono ?_;rintro e w1 ⟨rfl,hb1⟩;have LB1:=stB LB0 hb1 LB0.out.size;have LR1:=stR LR0 hb1;have LG0_1:=stG LG0_0 hb1;have LG1_1:=stG LG1_0 hb1;clear LB0 LR0 LG0_0 LG1_0;clear hb1 HS q0_0 q0_1 q0_2 q0_3;obtain⟨q0_0,q0_1,q0_2,q0_3⟩:=LG0_1.out.c4;obtain⟨q1_0,q1_1,q1_2,q1_3⟩:=LG1_1.out.c4;go_wp2_with fail;refine (HT.out _ LB1.out).mono ?_;rintro e w2 ⟨rfl,hb2⟩;have LB2:=stB LB1 hb2 LB1.out.size;have LR2:=stR LR1 hb2;have LG0_2:=stG LG0_1 hb2;have LG1_2:=stG LG1_1 hb2;clear LB1 LR1 LG0_1 LG1_1;clear hb2 HT q0_0 q0_1 q0_2 q0_3 q1_0 q1_1 q1_2 q1_3;obtain⟨q0_0,q0_1,q0_2,q0_3⟩:=LG0_2.out.c4;obtain⟨q1_0,q1_1,q1_2,q1_3⟩:=LG1_2.out.c4;go_wp2_with fail;refine (HW.out _ LB2.out).mono ?_;rintro e w3 ⟨gz,AZ,nZ,cZ,BZ,mZ,dZ,rfl,hR,hb3⟩;have LB3:=stB LB2 hb3 LB2.out.size;have LR3:=stR LR2 hb3;have LG0_3:=stG LG0_2 hb3;have LG1_3:=stG LG1_2 hb3;clear LB2 LR2 LG0_2 LG1_2;clear HW q0_0 q0_1 q0_2 q0_3 q1_0 q1_1 q1_2 q1_3;have FR:=Hd (LR3.out.rat hR [.int .i64 0,.bool gz,.slice AZ nZ cZ,.slice BZ mZ dZ,.int .i64 1,.bool false]);clear hR hb3;obtain⟨ha0,hf0,ha1,hf1,ha2,hf2,ha3,hf3,ha4,hf4,ha5,hf5⟩:=LR3.out.sf6;obtain⟨hk0,hk1,hk2,hk3,hk4,hk5⟩:=LR3.out.sc6 (.int .i64 0) (.bool gz) (.slice AZ nZ cZ) (.slice BZ mZ dZ) (.int .i64 1) (.bool false);have F:=Hd (below_sets (w0:=w) (r:=(w.heap.size+2)) (by omega) [.int .i64 0,.bool gz,.slice AZ nZ cZ,.slice BZ mZ dZ,.int .i64 1,.bool false] 0 _ LB3.out)
 simp [sets] at hk0 hk1 hk2 hk3 hk4 hk5
 go_wp2;refine bodyPost_ret (v:=.agg #[.int .i64 0,.bool gz,.slice AZ nZ cZ,.slice BZ mZ dZ,.int .i64 1,.bool false]) (by simp [results,Tryz.results147,go_sem,hk0,hk1,hk2,hk3,hk4,hk5]) rfl ?_
 exact⟨_,_,_,_,_,_,_,rfl,FR.out,F.out⟩
theorem NewBd.up{w w':World}{K K':Nat}{s:Int}{x:Rat}{N:Int}{o:Bool}{e:Ending}(h:NewBd w K s x N o e w')(hk:K≤K'):NewBd w K' s x N o e w':=by
 obtain⟨g,A,n,c,B,m,d,rfl,hr,hb⟩:=h
 exact⟨g,A,n,c,B,m,d,rfl,hr.mono hk,hb⟩
def rt(s1:Int)(x1:Rat)(s2:Int)(x2:Rat):Int × Rat × Bool:=
 if esx s1 x1=0 then (0,0,false) else if s2≠0 then (0,0,true) else if s1≠0∨x2=0 then (esx s1 x1,0,true) else (0,x1 / x2,false)
theorem ratio_gen(K:Nat)(s1:Int)(g1:Bool)(A1:Option Addr)(n1 c1:Nat)(B1:Option Addr)(m1 d1:Nat)(x1:Rat)(s2:Int)(g2:Bool)(A2:Option Addr)(n2 c2:Nat)(B2:Option Addr)(m2 d2:Nat)(x2:Rat)(w:World)(h1:RatV w K g1 (.slice A1 n1 c1) (.slice B1 m1 d1) x1)(h2:RatV w K g2 (.slice A2 n2 c2) (.slice B2 m2 d2) x2)(hK0:1≤K)(hK:K≤1048576):
  Calls Tryz.prog 147 #[.agg #[.int .i64 s1,.bool g1,.slice A1 n1 c1,.slice B1 m1 d1],.agg #[.int .i64 s2,.bool g2,.slice A2 n2 c2,.slice B2 m2 d2]] w (NewBd w (2*K) (rt s1 x1 s2 x2).1 (rt s1 x1 s2 x2).2.1 1 (rt s1 x1 s2 x2).2.2):=by
 unfold rt
 by_cases hs:esx s1 x1=0
 ·rw [if_pos hs]
  exact (ratio_nought K s1 g1 A1 n1 c1 B1 m1 d1 x1 s2 g2 A2 n2 c2 B2 m2 d2 x2 w h1 h2 hK0 hK hs).mono fun _ _ h=>h.up (by omega)
 ·rw [if_neg hs]
  by_cases ht:s2=0
  ·rw [if_neg (by simpa using ht)]
   by_cases h3:s1=0
   ·by_cases hx:x2=0
    ·rw [if_pos (.inr hx)]
     exact (ratio_zero K s1 g1 A1 n1 c1 B1 m1 d1 x1 s2 g2 A2 n2 c2 B2 m2 d2 x2 w h1 h2 hK0 hK hs ht h3 hx).mono fun _ _ h=>h.up (by omega)
    ·rw [if_neg (by rintro (h | h);exact h h3;exact hx h)]
     exact ratio_fin K s1 g1 A1 n1 c1 B1 m1 d1 x1 s2 g2 A2 n2 c2 B2 m2 d2 x2 w h1 h2 hK0 hK hs ht h3 hx
   ·rw [if_pos (.inl h3)]
    exact (ratio_far K s1 g1 A1 n1 c1 B1 m1 d1 x1 s2 g2 A2 n2 c2 B2 m2 d2 x2 w h1 h2 hK0 hK hs ht h3).mono fun _ _ h=>h.up (by omega)
  ·rw [if_pos ht]
   exact (ratio_inf K s1 g1 A1 n1 c1 B1 m1 d1 x1 s2 g2 A2 n2 c2 B2 m2 d2 x2 w h1 h2 hK0 hK hs ht).mono fun _ _ h=>h.up (by omega)
theorem middle_walk(b r:Nat)(o1 o2:Ordering)(m:Bool)(w:World)(ha:∀ W,Calls Tryz.prog 181 #[.float .f64 b] W fun e w'=>e=.returned (.float .f64 r)∧W=w')
  (h1:FloatKind.f64.format.order r 553942754166571008=some o1)(h2:FloatKind.f64.format.order r 8660422083433463808=some o2)(hm:((o1 == .gt) && (o2 == .lt))=m):
  Calls Tryz.prog 222 #[.float .f64 b] w fun e w'=>e=.returned (.bool m)∧w=w':=by
 have HA:=Hd ha;have HM:=Hd hm;clear ha hm
 cases o1<;>cases o2
 all_goals
  go_enter Tryz.func222,Tryz.ntmps222
  go_wp2_with fail;refine (HA.out _).mono ?_;rintro e w' ⟨rfl,rfl⟩;go_wp2
  go_ret
  refine⟨?_,rfl⟩;rw [← HM.out]
  rfl
theorem middle_any(b:Nat)(w:World)(hb:b<18446744073709551616)(hr:rungOf b≤M):Calls Tryz.prog 222 #[.float .f64 b] w fun e w'=>e=.returned (.bool (mid b))∧w=w':=by
 have hM:M=9218868437227405312:=rfl;have r0:=rung_idx (b:=rungOf b) (by omega);have r1:rungOf 553942754166571008=553942754166571008∧idx 553942754166571008=((553942754166571008:Nat):Int):=rung_idx (by decide);have r2:rungOf 8660422083433463808=8660422083433463808∧idx 8660422083433463808=((8660422083433463808:Nat):Int):=rung_idx (by decide)
 have o1:FloatKind.f64.format.order (rungOf b) 553942754166571008=some (compare ((rungOf b:Nat):Int) ((553942754166571008:Nat):Int)):=by
  have h:=order_real (x:=rungOf b) (y:=553942754166571008) (show rungOf (rungOf b)≤M by rw [r0.1];exact hr) (show rungOf 553942754166571008≤M by rw [r1.1];omega);rw [r0.2,r1.2] at h;exact h
 have o2:FloatKind.f64.format.order (rungOf b) 8660422083433463808=some (compare ((rungOf b:Nat):Int) ((8660422083433463808:Nat):Int)):=by
  have h:=order_real (x:=rungOf b) (y:=8660422083433463808) (show rungOf (rungOf b)≤M by rw [r0.1];exact hr) (show rungOf 8660422083433463808≤M by rw [r2.1];omega);rw [r0.2,r2.2] at h;exact h
 refine middle_walk b _ _ _ _ w (fun W=>abs_any b W hb) o1 o2 ?_;unfold mid
 obtain⟨R,hR⟩:∃ R,rungOf b=R:=⟨_,rfl⟩
 rw [hR]
 obtain⟨c1,hc1⟩:∃ c,compare ((R:Nat):Int) ((553942754166571008:Nat):Int)=c:=⟨_,rfl⟩
 obtain⟨c2,hc2⟩:∃ c,compare ((R:Nat):Int) ((8660422083433463808:Nat):Int)=c:=⟨_,rfl⟩
 rw [hc1,hc2]
 have e1:(c1 == .gt)=decide (553942754166571008<R):=by
  by_cases h:553942754166571008<R
  ·rw [decide_eq_true h,← hc1,Int.compare_eq_gt.2 (by omega)];rfl
  ·rw [decide_eq_false h,← hc1]
   rcases Int.lt_or_eq_of_le (show ((R:Nat):Int)≤((553942754166571008:Nat):Int) by omega) with k | k
   ·rw [Int.compare_eq_lt.2 k];rfl
   ·rw [Int.compare_eq_eq.2 k];rfl
 have e2:(c2 == .lt)=decide (R<8660422083433463808):=by
  by_cases h:R<8660422083433463808
  ·rw [decide_eq_true h,← hc2,Int.compare_eq_lt.2 (by omega)];rfl
  ·rw [decide_eq_false h,← hc2]
   rcases Int.lt_or_eq_of_le (show ((8660422083433463808:Nat):Int)≤((R:Nat):Int) by omega) with k | k
   ·rw [Int.compare_eq_gt.2 k];rfl
   ·rw [Int.compare_eq_eq.2 k.symm];rfl
 rw [e1,e2]
theorem halves_walk(x t u h l:Nat)(w:World)(q1:FloatKind.f64.format.mul 4728779608772575232 x=some t)(q2:FloatKind.f64.format.sub t x=some u)(q3:FloatKind.f64.format.sub t u=some h)(q4:FloatKind.f64.format.sub x h=some l):
  Calls Tryz.prog 241 #[.float .f64 x] w fun e w'=>e=.returned (.tuple #[.float .f64 h,.float .f64 l])∧w=w':=by
 have A1:=fun W=>run_float_arith (P:=Tryz.prog) W .mul 27 .f64 4728779608772575232 x t q1;have A2:=fun W=>run_float_arith (P:=Tryz.prog) W .sub 27 .f64 t x u q2;have A3:=fun W=>run_float_arith (P:=Tryz.prog) W .sub 27 .f64 t u h q3;have A4:=fun W=>run_float_arith (P:=Tryz.prog) W .sub 27 .f64 x h l q4;clear q1 q2 q3 q4
 go_enter Tryz.func241,Tryz.ntmps241
 go_wp2
 go_ret2
 exact⟨rfl,rfl⟩
theorem missed_walk(x y p xh xl yh yl z1 e0 z2 e1 z3 e2 z4 e:Nat)(w:World)(hx:∀ W,Calls Tryz.prog 241 #[.float .f64 x] W fun e w'=>e=.returned (.tuple #[.float .f64 xh,.float .f64 xl])∧W=w')
  (hy:∀ W,Calls Tryz.prog 241 #[.float .f64 y] W fun e w'=>e=.returned (.tuple #[.float .f64 yh,.float .f64 yl])∧W=w')
  (q1:FloatKind.f64.format.mul xh yh=some z1)(q2:FloatKind.f64.format.sub z1 p=some e0)(q3:FloatKind.f64.format.mul xh yl=some z2)(q4:FloatKind.f64.format.add e0 z2=some e1)
  (q5:FloatKind.f64.format.mul xl yh=some z3)(q6:FloatKind.f64.format.add e1 z3=some e2)(q7:FloatKind.f64.format.mul xl yl=some z4)(q8:FloatKind.f64.format.add e2 z4=some e):
  Calls Tryz.prog 223 #[.float .f64 x,.float .f64 y,.float .f64 p] w fun e' w'=>e'=.returned (.float .f64 e)∧w=w':=by
 have A1:=fun W=>run_float_arith (P:=Tryz.prog) W .mul 27 .f64 _ _ _ q1;have A2:=fun W=>run_float_arith (P:=Tryz.prog) W .sub 27 .f64 _ _ _ q2;have A3:=fun W=>run_float_arith (P:=Tryz.prog) W .mul 27 .f64 _ _ _ q3;have A4:=fun W=>run_float_arith (P:=Tryz.prog) W .add 27 .f64 _ _ _ q4;have A5:=fun W=>run_float_arith (P:=Tryz.prog) W .mul 27 .f64 _ _ _ q5;have A6:=fun W=>run_float_arith (P:=Tryz.prog) W .add 27 .f64 _ _ _ q6;have A7:=fun W=>run_float_arith (P:=Tryz.prog) W .mul 27 .f64 _ _ _ q7;have A8:=fun W=>run_float_arith (P:=Tryz.prog) W .add 27 .f64 _ _ _ q8;have HX:=Hd hx;have HY:=Hd hy;clear q1 q2 q3 q4 q5 q6 q7 q8 hx hy
 go_enter Tryz.func223,Tryz.ntmps223
 go_wp2_with fail;refine (HX.out _).mono ?_;rintro e w' ⟨rfl,rfl⟩;go_wp2_with fail;refine (HY.out _).mono ?_;rintro e w' ⟨rfl,rfl⟩;go_wp2
 go_ret
 exact⟨rfl,rfl⟩
theorem HasBlk.u32{W:World}{A:Option Addr}{k c:Nat}{xs:List Nat}{r:Nat}{t:TypeId}{n:Nat}(h:HasBlk W r t n)(hr:U32s W A k c xs)(vs:List Value):U32s (Proofs.YtmjkmoahkanblaaGreat.sets W r 0 vs) A k c xs:=by
 obtain⟨cs,h1,-,h2⟩:=h
 exact hr.sets h1 h2 0 vs
theorem digs_two2{S:Nat}(h:S<18446744073709551616):wlen (digs S)≤2:=wlen_lt (W32.digs S) (K:=2) (by rw [num_digs];exact h)
theorem rprod_any(n1:Bool)(A1:Option Addr)(m1 c1 S1:Nat)(e1:Int)(n2:Bool)(A2:Option Addr)(m2 c2 S2:Nat)(e2:Int)(w:World)(hu1:U32s w A1 m1 c1 (digs S1))(hu2:U32s w A2 m2 c2 (digs S2))(h1:S1<9007199254740992)(h2:S2<9007199254740992)(b1:-1074≤e1∧e1≤971)(b2:-1074≤e2∧e2≤971):
  Calls Tryz.prog 224 #[.agg #[.bool n1,.slice A1 m1 c1,.int .i64 e1],.agg #[.bool n2,.slice A2 m2 c2,.int .i64 e2]] w (NewDy w (n1 != n2) (S1*S2) (e1+e2)):=by
 have k1:=digs_two2 (S:=S1) (by omega);have k2:=digs_two2 (S:=S2) (by omega);have k3:blen S1≤53:=blen_le_iff.2 (show S1<2^53 from h1);have k4:blen S2≤53:=blen_le_iff.2 (show S2<2^53 from h2)
 have HM:=Hd fun W (a:U32s W A1 m1 c1 (digs S1)) (b:U32s W A2 m2 c2 (digs S2))=>by
  have h:=nmul_any A1 A2 m1 c1 m2 c2 (digs S1) (digs S2) W a b (by omega) (by rw [num_digs,num_digs];omega);rw [num_digs,num_digs] at h
  exact h
 obtain⟨P,hP⟩:∃ P,S1*S2=P:=⟨_,rfl⟩
 obtain⟨n3,hn3⟩:∃ z,(n1 != n2)=z:=⟨_,rfl⟩
 rw [hP] at HM ⊢;rw [hn3];have hne:(!n1 == n2)=n3:=hn3;clear hn3 hP k1 k2 k3 k4 h1 h2;have LL:=li3 w #[.bool n1,.slice A1 m1 c1,.int .i64 e1] 156 #[.bool n2,.slice A2 m2 c2,.int .i64 e2] 156 #[.bool false,.slice none 0 0,.int .i64 0] 156;have HU1:=Hd (hu1.below LL.out.b);have HU2:=Hd (hu2.below LL.out.b);clear hu1 hu2
 go_enter Tryz.func224,Tryz.ntmps224
 obtain⟨q1_0,q1_1,q1_2⟩:=(LL.out.blk 0 rfl).c3;obtain⟨q2_0,q2_1,q2_2⟩:=(LL.out.blk 1 rfl).c3;go_wp2_with fail;refine (HM.out _ HU1.out HU2.out).mono ?_;rintro e wk ⟨A3,m3,c3,rfl,hu3,hb⟩;replace LL:=stL LL hb;replace HU1:=Hd (HU1.out.below hb);replace HU2:=Hd (HU2.out.below hb);clear hb q1_0 q1_1 q1_2 q2_0 q2_1 q2_2;have HU3:=Hd hu3;clear hu3;obtain⟨q3_0,q3_1,q3_2⟩:=(LL.out.blk 0 rfl).c3;obtain⟨q4_0,q4_1,q4_2⟩:=(LL.out.blk 1 rfl).c3;replace LL:=Hd (LL.out.loose 2 rfl rfl)
 simp only [List.eraseIdx,List.size_toArray,List.length_cons,List.length_nil,Nat.zero_add,Nat.reduceAdd] at LL
 obtain⟨ha4_0,hf4_0,ha4_1,hf4_1,ha4_2,hf4_2⟩:=(LL.out.has 0 rfl).sf3;have LF:=Hd (LL.out.write [.bool n3,.slice A3 m3 c3,.int .i64 (e1+e2)] rfl (by omega) (by simp<;>omega) (by simp<;>omega));obtain⟨hk4_0,hk4_1,hk4_2⟩:=(LF.out.blk 2 rfl).c3
 simp [sets] at hk4_0 hk4_1 hk4_2
 have LL3:=LL;clear LL;go_wp2;refine bodyPost_ret (v:=.agg #[.bool n3,.slice A3 m3 c3,.int .i64 (e1+e2)]) (by simp [results,Tryz.results224,go_sem,hk4_0,hk4_1,hk4_2]) rfl ?_
 exact⟨A3,m3,c3,rfl,(LL3.out.has 0 rfl).u32 HU3.out [.bool n3,.slice A3 m3 c3,.int .i64 (e1+e2)],LF.out.b⟩
theorem sgn_pat{i:Int}(h:-(M:Int)≤i∧i≤M)(h0:i≠0):sgn (pat i)=decide (i<0):=by
 have c:=pat_cases (pat_lt h.1 h.2);rw [idx_pat h.1 h.2] at c
 rcases c with ⟨c1,c2,c3,c4⟩ | ⟨c1,c2,c3,c4⟩
 ·rw [c3,decide_eq_false (by omega)]
 ·rw [c3,decide_eq_true (by omega)]
end Go.Proofs.YtmjkmoahkanblaaGreat
namespace Go.Proofs.YtmjkmoahkanblaaGreat
open Go.RowKit Ieee
theorem R_stay{r e:Int}(hr:Rep r){l:Nat}(h1:2^(54+l)≤r.natAbs)(h2:r.natAbs<2^(55+l))(he:e.natAbs*2^55<r.natAbs):R (r+e)=r:=by
 have p0:2^(55+l)=2^55*2^l:=Nat.pow_add 2 55 l;have p1:2^(54+l)=2^54*2^l:=Nat.pow_add 2 54 l
 have p2:2^(52+(l+1))=2^53*2^l:=by rw [show 52+(l+1)=53+l from by omega,Nat.pow_add]
 have p3:2^(l+1)=2*2^l:=by rw [Nat.pow_succ,Nat.mul_comm]
 have hl:0<2^l:=Nat.two_pow_pos l;have near:=R_nearest (n:=r+e) hr
 have he2:e.natAbs<2^l:=by
  have:e.natAbs*2^55<2^l*2^55:=by rw [Nat.mul_comm (2^l)];omega
  exact Nat.lt_of_mul_lt_mul_right this
 have hd:(R (r+e) - r).natAbs<2^(l+1):=by omega
 have k1:=rep_dvd (k:=l+1) hr (by omega);have k2:=rep_dvd (k:=l+1) (R_rep (r+e)) (by omega);obtain⟨a,ha⟩:=k1;obtain⟨b,hb⟩:=k2
 have e1:R (r+e) - r=2^(l+1)*(b - a):=by rw [hb];conv=>lhs;rw [ha]
                                         rw [Int.mul_sub]
 rw [e1,Int.natAbs_mul,Int.natAbs_pow] at hd
 have h0:(b - a).natAbs=0:=by
  rcases Nat.eq_zero_or_pos (b - a).natAbs with h | h
  ·exact h
  ·exfalso
   have:2^(l+1)*1≤2^(l+1)*(b - a).natAbs:=Nat.mul_le_mul_left _ h;have e2:(2:Int).natAbs=2:=rfl;rw [e2] at hd
   omega
 have:b=a:=by omega
 rw [this,Int.sub_self,Int.mul_zero] at e1
 omega
theorem R_stays{r e:Int}(hr:Rep r)(h1:2^54≤r.natAbs)(he:e.natAbs*2^55<r.natAbs):R (r+e)=r:=by
 have n0:r.natAbs≠0:=by have:=Nat.two_pow_pos 54;omega
 have a:=Nat.log2_self_le n0;have b:=@Nat.lt_log2_self r.natAbs;have c:54≤r.natAbs.log2:=(Nat.le_log2 n0).2 h1
 obtain⟨l,hl⟩:∃ l,r.natAbs.log2=54+l:=⟨_,(Nat.add_sub_cancel' c).symm⟩
 rw [hl] at a b
 exact R_stay hr a (by rw [show 54+l+1=55+l from by omega] at b;exact b) he
theorem add_nought{x y:Nat}{m:Int}(hx:Fl x m)(hy:Fl y 0):(∃ r,FloatKind.f64.format.add x y=some r∧Fl r m)∧∃ r,FloatKind.f64.format.add y x=some r∧Fl r m:=by
 have hM:M=9218868437227405312:=rfl;have h1:=idx_natAbs x;have hf:rungOf x<M:=hx.fin;have e:near (val (idx x)) 0=idx x:=near_val_zero (by omega) (by omega)
 have key:∀ r,Is r (idx x)→Fl r m:=fun r h=>by
  have h2:=idx_natAbs r;rw [h.idx] at h2
  exact⟨h.lt,by unfold fin;omega,by rw [h.idx,hx.val]⟩
 constructor
 ·obtain⟨r,hr,hi⟩:=add_fin hx.fin hy.fin;rw [hy.val,Int.add_zero,e] at hi
  exact⟨r,hr,key r hi⟩
 ·obtain⟨r,hr,hi⟩:=add_fin hy.fin hx.fin;rw [hy.val,Int.zero_add,e] at hi
  exact⟨r,hr,key r hi⟩
theorem fma_good{d:Int}(hd:d=-1∨d=1){s f e:Nat}{N P Z n:Int}(hn:n=P+Z)(fs:Fl s (R n))(ff:Fl f (n - R n))(fe:Fl e (N - P))(hc:N - P=0∨(n - R n=0∧2^54≤(R n).natAbs∧(N - P).natAbs*2^55<(R n).natAbs)):
  ∃ g,FloatKind.f64.format.add e f=some g∧rungOf g≤M∧nud d (idx s) (idx g)=rndI d (((N+Z:Int):Rat)*2^(-1074:Int)):=by
 rcases hc with h | ⟨h,h2,h3⟩
 ·rw [h] at fe;obtain⟨g,hg,fg⟩:=(add_nought ff fe).2
  have e1:N+Z=n:=by omega
  refine⟨g,hg,Nat.le_of_lt fg.fin,?_⟩;rw [e1]
  exact nud_n hd fs fg
 ·rw [h] at ff;obtain⟨g,hg,fg⟩:=(add_nought fe ff).1
  have e1:R (N+Z)=R n:=by
   rw [show N+Z=R n+(N - P) from by omega]
   exact R_stays (R_rep n) h2 h3
  refine⟨g,hg,Nat.le_of_lt fg.fin,?_⟩;rw [← e1] at fs;rw [show N - P=N+Z - R (N+Z) from by rw [e1];omega] at fg
  exact nud_n hd fs fg
end Go.Proofs.YtmjkmoahkanblaaGreat
