/-
Lemmas for the statement: MinusT RaT QuoT.
-/
import Derived.Test.YthlmlmfebpjgdaaGreatDoorM10
import Derived.Test.YthlmlmfebpjgdaaGreatDoorM03
import Derived.Test.YthlmlmfebpjgdaaGreatDoorM05
import Derived.Test.YthlmlmfebpjgdaaGreatDoorM06
import Derived.Test.YthlmlmfebpjgdaaGreatDoorM11
import Derived.Test.YthlmlmfebpjgdaaGreatDoorM09
import Derived.Test.YthlmlmfebpjgdaaGreatDoorM08
set_option linter.unusedSimpArgs false
set_option linter.unusedVariables false
set_option maxHeartbeats 12800000
namespace Go.Proofs.YthlmlmfebpjgdaaGreatDoor
section
open Go.RowKit
end
section
open Go.RowKit
end
section
open Go.RowKit
theorem times_q(A B:Option Addr)(n c m d a b:Nat)(w:World)(hx:U32s w A n c (digs a))(hy:U32s w B m d (digs b))(hs1:n≤8589934592)(hs2:m≤8589934592):
  Calls Tryz.prog 95 #[.slice A n c,.slice B m d] w (NewU32 w (digs (a*b))):=by
 have h:=times_any A B n c m d _ _ w hx hy hs1 hs2;rw [num_digs,num_digs] at h;exact h
theorem pow_mm{K:Nat}(a b:Nat)(ha:a<2^(32*K))(hb:b<2^(32*K)):a*b<2^(32*(2*K)):=by
 have h:2^(32*(2*K))=2^(32*K)*2^(32*K):=by rw [← Nat.pow_add];congr 1;omega
 rw [h]
 exact Nat.mul_lt_mul'' ha hb
theorem rv_mul(g1 g2:Bool)(p1 q1 p2 q2:Nat):rv g1 p1 q1*rv g2 p2 q2=rv (g1 != g2) (p1*p2) (q1*q2):=by
 unfold rv
 cases g1<;>cases g2<;>simp [Rat.div_def,Rat.natCast_mul,Rat.inv_mul_rev]<;>grind
theorem rv_ne(g:Bool){p q:Nat}(hp:0<p)(hq:0<q):rv g p q≠0:=by
 have h1:=mt (rv_le_false (p:=p) (p':=0) hq (q':=1) (by omega)).1 (by omega);rw [rv_zero] at h1
 cases g
 ·grind
 ·rw [rv_true];grind
theorem rv_quo(g1 g2:Bool)(p1 q1 p2 q2:Nat)(h1:0<q1)(h2:0<q2)(h3:0<p2):rv g1 p1 q1 / rv g2 p2 q2=rv (g1 != g2) (p1*q2) (q1*p2):=by
 refine div_eq (rv_ne g2 h3 h2) ?_;rw [rv_mul,show ((g1 != g2) != g2)=g1 from by cases g1<;>cases g2<;>rfl]
 exact rv_eq h1 (Nat.mul_pos (Nat.mul_pos h1 h3) h2) (by ac_rfl)
theorem rquo_walk(K:Nat)(g1 g2:Bool)(p1 q1 p2 q2:Nat)(A1:Option Addr)(n1 c1:Nat)(B1:Option Addr)(m1 d1:Nat)(A2:Option Addr)(n2 c2:Nat)(B2:Option Addr)(m2 d2:Nat)(w:World)(u1:U32s w A1 n1 c1 (digs p1))(v1:U32s w B1 m1 d1 (digs q1))(u2:U32s w A2 n2 c2 (digs p2))(v2:U32s w B2 m2 d2 (digs q2))(l1:n1≤8589934592)(l2:m1≤8589934592)(l3:n2≤8589934592)(l4:m2≤8589934592)(hD:0<q1*p2)(k1:p1*q2<2^(32*K))(k2:q1*p2<2^(32*K))(hK:1≤K)(hK2:K≤1073741824):
  Calls Tryz.prog 43 #[.agg #[.bool g1,.slice A1 n1 c1,.slice B1 m1 d1],.agg #[.bool g2,.slice A2 n2 c2,.slice B2 m2 d2]] w (NewRat w K (rv (g1 != g2) (p1*q2) (q1*p2))):=by
 have T1:=Hd fun W (hW:Below w.heap.size w W)=>times_q A1 B2 n1 c1 m2 d2 p1 q2 W (u1.below hW) (v2.below hW) l1 l4;have T2:=Hd fun W (hW:Below w.heap.size w W)=>times_q B1 A2 m1 d1 n2 c2 q1 p2 W (v1.below hW) (u2.below hW) l2 l3
 obtain⟨X,eX⟩:∃ x,p1*q2=x:=⟨_,rfl⟩
 obtain⟨D,eD⟩:∃ x,q1*p2=x:=⟨_,rfl⟩
 rw [eX] at T1 k1 ⊢;rw [eD] at T2 k2 hD ⊢;have T3:=Hd fun g W (A:Option Addr) (n c:Nat) (B:Option Addr) (m d:Nat) (hx:U32s W A n c (digs X)) (hy:U32s W B m d (digs D))=>frac_plain g A B n c m d K X D W hx hy hD k1 k2 hK hK2;clear u1 v1 u2 v2 l1 l2 l3 l4 hD k1 k2 hK hK2 eX eD;obtain⟨LB0,LG0_0,LG1_0,LR⟩:=bx3 w #[.bool g1,.slice A1 n1 c1,.slice B1 m1 d1] 42 #[.bool g2,.slice A2 n2 c2,.slice B2 m2 d2] 42 #[.bool false,.slice none 0 0,.slice none 0 0] 42;have LR0:=Hd (HasBlk.of (n:=3) LR.out rfl rfl);clear LR
 go_enter Tryz.func43,Tryz.ntmps43
 go_wp2_with fail;refine wp_region_held_drew (S:=fun W'=>Blk W' w.heap.size 42 #[.bool g1,.slice A1 n1 c1,.slice B1 m1 d1]∧Blk W' (w.heap.size+1) 42 #[.bool g2,.slice A2 n2 c2,.slice B2 m2 d2]∧HasBlk W' (w.heap.size+2) 42 3∧Below w.heap.size w W') (by kernel_rfl) (by exact⟨LG0_0.out.drew,LG1_0.out.drew,LR0.out.drew,LB0.out.drew⟩) (fun hHeld=>?_);refine tk 0 ?_;(try simp only [Act.put,lay]);refine tk 1 ?_ (hv:=by intro W2 hSw;obtain⟨q0,q1,q2⟩:=hSw.1.c3;go_simp;(try with_reducible rfl));(try simp only [Act.put,lay]);refine tk 2 ?_;(try simp only [Act.put,lay]);refine tk 3 ?_ (hv:=by intro W2 hSw;obtain⟨q0,q1,q2⟩:=hSw.2.1.c3;go_simp;(try with_reducible rfl));(try simp only [Act.put,lay]);refine tk 4 ?_;(try simp only [Act.put,lay]);refine tk 5 ?_;(try simp only [Act.put,lay]);refine tk 6 ?_ (hv:=by intro W2 hSw;obtain⟨q0,q1,q2⟩:=hSw.1.c3;go_simp;(try with_reducible rfl));(try simp only [Act.put,lay]);refine tk 7 ?_;(try simp only [Act.put,lay]);refine tk 8 ?_ (hv:=by intro W2 hSw;obtain⟨q0,q1,q2⟩:=hSw.2.1.c3;go_simp;(try with_reducible rfl));(try simp only [Act.put,lay]);refine tk 10 ?_;(try simp only [Act.put,lay]);refine tk 11 ?_ (hv:=by intro W2 hSw;obtain⟨q0,q1,q2⟩:=hSw.1.c3;go_simp;(try with_reducible rfl));(try simp only [Act.put,lay]);refine tk 12 ?_;(try simp only [Act.put,lay]);refine tk 13 ?_ (hv:=by intro W2 hSw;obtain⟨q0,q1,q2⟩:=hSw.2.1.c3;go_simp;(try with_reducible rfl));(try simp only [Act.put,lay]);refine rdy 9 (fun KK hKK=>?_);go_simp;refine (T1.out _ hHeld.2.2.2).mono ?_
 rintro e w1 ⟨AX,nX,cX,rfl,hX,hbA⟩;go_wp2_with fail;refine hKK.out _ _ (⟨hHeld.1.keep hbA,hHeld.2.1.keep hbA,hHeld.2.2.1.keep hbA,hHeld.2.2.2.trans (hbA.mono hHeld.2.2.2.size)⟩) (fun _=>?_);clear hKK KK hHeld;rename_i hHeld;(try simp only [Act.put,lay]);refine rdy 14 (fun KK hKK=>?_);go_simp;refine (T2.out _ hHeld.2.2.2).mono ?_;rintro e w2 ⟨AY,nY,cY,rfl,hY,hbB⟩;go_wp2_with fail;refine hKK.out _ _ (⟨hHeld.1.keep hbB,hHeld.2.1.keep hbB,hHeld.2.2.1.keep hbB,hHeld.2.2.2.trans (hbB.mono hHeld.2.2.2.size)⟩) (fun _=>?_);clear hKK KK hHeld;rename_i hHeld;(try simp only [Act.put,lay]);refine rdy 15 (fun KK hKK=>?_);go_simp;refine (T3.out _ _ _ _ _ _ _ _ (hX.below hbB) hY).mono ?_;rintro e w3 ⟨gz,vn,vd,rfl,hR,hbC⟩;obtain⟨AZ,nZ,cZ,BZ,mZ,dZ,rfl,rfl⟩:=hR.shape;go_wp2_with fail;refine hKK.out _ _ (⟨hHeld.1.keep hbC,hHeld.2.1.keep hbC,hHeld.2.2.1.keep hbC,hHeld.2.2.2.trans (hbC.mono hHeld.2.2.2.size)⟩) (fun _=>?_);clear hKK KK hHeld;rename_i hHeld;(try simp only [Act.put,lay]);refine rdy 16 (fun KK hKK=>?_);have ha0:=hHeld.2.2.1.someCell 0 (by decide);have hf0:=hHeld.2.2.1.frozen 0;have ha1:=hHeld.2.2.1.someCell 1 (by decide);have hf1:=hHeld.2.2.1.frozen 1;have ha2:=hHeld.2.2.1.someCell 2 (by decide);have hf2:=hHeld.2.2.1.frozen 2;have HK:=Hd (hHeld.2.2.1.setCell [.bool gz,.slice AZ nZ cZ,.slice BZ mZ dZ] rfl);have F:=Hd (below_sets (w0:=w) (r:=(w.heap.size+2)) (by omega) [.bool gz,.slice AZ nZ cZ,.slice BZ mZ dZ] 0 _ hHeld.2.2.2);have FR:=Hd (hHeld.2.2.1.rat hR [.bool gz,.slice AZ nZ cZ,.slice BZ mZ dZ])
 go_simp;refine hKK.out _ _ (⟨hHeld.1.other (by omega) 0 [.bool gz,.slice AZ nZ cZ,.slice BZ mZ dZ],hHeld.2.1.other (by omega) 0 [.bool gz,.slice AZ nZ cZ,.slice BZ mZ dZ],hHeld.2.2.1.sets [.bool gz,.slice AZ nZ cZ,.slice BZ mZ dZ] rfl rfl,below_sets (by omega) [.bool gz,.slice AZ nZ cZ,.slice BZ mZ dZ] 0 _ hHeld.2.2.2⟩) (fun _=>?_);clear hKK KK hHeld;rename_i hHeld;(try simp only [Act.put,lay]);refine wpAnyH_done (by kernel_rfl) ?_ _;have hk0:=HK.out 0 (by decide);have hk1:=HK.out 1 (by decide);have hk2:=HK.out 2 (by decide)
 simp [sets] at hk0 hk1 hk2
 clear hHeld HK hX hbA hY hbB hR hbC;clear LB0 LR0 LG0_0 LG1_0;go_wp2;refine bodyPost_ret (v:=.agg #[.bool gz,.slice AZ nZ cZ,.slice BZ mZ dZ]) (by simp [results,Tryz.results43,go_sem,hk0,hk1,hk2]) rfl ?_
 exact⟨_,_,_,rfl,FR.out,F.out⟩
theorem rquo_v(K:Nat)(g1:Bool)(vn1 vd1:Value)(x1:Rat)(g2:Bool)(vn2 vd2:Value)(x2:Rat)(w:World)(h1:RatV w K g1 vn1 vd1 x1)(h2:RatV w K g2 vn2 vd2 x2)(hK0:1≤K)(hK:K≤1048576)(hx:x2≠0):
  Calls Tryz.prog 43 #[.agg #[.bool g1,vn1,vd1],.agg #[.bool g2,vn2,vd2]] w (NewRat w (2*K) (x1 / x2)):=by
 obtain⟨p1,q1,A1,n1,c1,B1,m1,d1,rfl,rfl,u1,v1,hq1,-,k1,k2,rfl⟩:=h1;obtain⟨p2,q2,A2,n2,c2,B2,m2,d2,rfl,rfl,u2,v2,hq2,-,k3,k4,rfl⟩:=h2;have l1:=u1.len_le k1;have l2:=v1.len_le k2;have l3:=u2.len_le k3;have l4:=v2.len_le k4
 have hp2:0<p2:=by
  rcases Nat.eq_zero_or_pos p2 with h | h
  ·exact absurd (by rw [h,rv_zero]) hx
  ·exact h
 rw [rv_quo _ _ _ _ _ _ hq1 hq2 hp2]
 exact rquo_walk (2*K) g1 g2 p1 q1 p2 q2 A1 n1 c1 B1 m1 d1 A2 n2 c2 B2 m2 d2 w u1 v1 u2 v2 (by omega) (by omega) (by omega) (by omega) (Nat.mul_pos hq1 hp2) (pow_mm _ _ k1 k4) (pow_mm _ _ k2 k3) (by omega) (by omega)
end
end Go.Proofs.YthlmlmfebpjgdaaGreatDoor
