/-
Walks: package nat, Pow.
Plain: the greatest natural whose n-th power is at most a; Newton's steps from above.
Rows of words tell their natural; the naturals' calls with their digits.
-/
import Derived.Test.YthlmlmfebpjgdaaGreatDoorPAbT
import Derived.Test.YthlmlmfebpjgdaaGreatDoorM02
import Derived.Test.YthlmlmfebpjgdaaGreatDoorM05
import Derived.Lib.RabinKarpLaws
import Derived.Test.YthlmlmfebpjgdaaGreatDoorM01
import Derived.Test.YthlmlmfebpjgdaaGreatDoorM11
import Derived.Test.YthlmlmfebpjgdaaGreatDoorM12
set_option linter.unusedSimpArgs false
set_option linter.unusedVariables false
set_option maxHeartbeats 12800000
namespace Go.Proofs.YthlmlmfebpjgdaaGreatDoor
open Go.RowKit
theorem npow_any(A:Option Addr)(n c N:Nat)(xs:List Nat)(w:World)(hx:U32s w A n c xs)(hl:wlen xs≤16384)(hN:N≤4096)(hb:blen (num xs)*N≤500000):
  Calls Tryz.prog 251 #[.slice A n c,.int .i64 (N:Int)] w (NewU32E w (digs (num xs ^ N))):=by
 obtain⟨w1,hw1⟩:∃ w1,w.alloc (.cells #[.slice A n c] 40)=w1:=⟨_,rfl⟩
 have hb1:Below w.heap.size w w1:=by rw [← hw1];exact below_alloc w _
 have hx1:=hx.below hb1;have hlg:=long_one w.heap.size A n c xs w1 hx1 (by rw [← hw1];simp [World.cell?_alloc_new]) hl;have hnn:=Nat.le_trans (digs_length_le (num_lt_wlen hx.w32)) hl;have hn0:=nnorm_any A n c xs w1 hx1;have hln:=fun W (hb:Below w1.heap.size w1 W)=>nlen_any A n c xs W (hx1.below hb)
 obtain⟨X,hX⟩:∃ X,num xs=X:=⟨_,rfl⟩
 rw [hX] at hb hnn hn0 hln ⊢
 obtain⟨K,hK⟩:∃ K,blen X=K:=⟨_,rfl⟩
 rw [hK] at hb hln
 have hXK:X<2^K:=by rw [← hK];exact blen_le_iff.1 (Nat.le_refl _)
 have HLG:=Hd hlg;have HN:=Hd hn0;have HL:=Hd hln;have HB1:=Hd hb1;have HW1:=Hd hw1;have HK:=Hd hK;have HXK:=Hd hXK;have HNN:=Hd hnn;have HBB:=Hd hb;have HM:=Hd fun (W:World) (Ap Ax:Option Addr) (np cp nx cx P X:Nat) (h1:U32s W Ap np cp (digs P)) (h2:U32s W Ax nx cx (digs X)) (h3:np≤16384) (h4:nx≤16384)=>nmul_in Ap Ax np cp nx cx (digs P) (digs X) W h1 h2 (by omega) (by omega);have HC:=Hd fun (W:World) (D:Option Addr) (n c:Nat) (ls:List Nat) (h:U32s W D n c ls)=>cut_any D n c ls W h;have hAND:=fun (j:Nat) (hj:j≤4096)=>and_one j (by omega);have HAND:=Hd hAND;clear hx hx1 hlg hnn hn0 hln hX hK hXK hb hl hb1 hw1 hAND
 go_enter Tryz.func251,Tryz.ntmps251
 go_wp2_with fail;rw [HW1.out];refine HLG.out.mono ?_;rintro e w' ⟨rfl,rfl⟩;go_wp2_with fail;refine HN.out.mono ?_;rintro e w2 ⟨g,nn,rfl,hl2,ha,hg,hb2⟩;have hnn:=HNN.out;have HU:=Hd (ha.u32s' (W32.digs _) hl2 (by omega));have HNB:=Hd (show nn≤16384 by omega);have HB2:=Hd hb2;clear hl2 ha hg hb2 hnn HNN HN HLG;go_wp2_with fail;refine (HL.out _ HB2.out).mono ?_;rintro e w' ⟨rfl,rfl⟩;have HB3:=Hd (HB1.out.trans (HB2.out.mono HB1.out.size));clear HL HB1 HB2 HW1
 rcases Nat.eq_zero_or_pos N with h0 | h0
 ·subst h0;go_wp2
  go_ret2
  exact⟨_,1,1,rfl,by rw [Nat.pow_zero,digs_one];exact U32s.lit1 w2 117 (a:=1) (by omega),HB3.out.alloc HB3.out.size _⟩
 have hz:((N:Int) == 0)=false:=by simp;omega
 by_cases hK2:K<2
 ·have hk2:(K:Int)<2:=by omega
  have hXN:X ^ N=X:=by
   have h:=HXK.out;have h2:(2:Nat) ^ K≤2 ^ 1:=Nat.pow_le_pow_right (by omega) (by omega)
   rcases (show X=0∨X=1 by omega) with h | h
   ·rw [h,Nat.zero_pow h0]
   ·rw [h,Nat.one_pow]
  have HXI:=Hd hXN;clear hXN hK2;go_wp2
  go_ret2
  exact⟨_,nn,nn,rfl,by rw [HXI.out];exact HU.out,HB3.out⟩
 have hk2:¬ (K:Int)<2:=by omega
 have hX0:0<X:=by
  rcases Nat.eq_zero_or_pos X with h | h
  ·have:=HK.out;rw [h,blen_zero] at this;omega
  ·exact h
 have HX0:=Hd hX0
 have hq:N≤524288 / (K - 1):=by
  rw [Nat.le_div_iff_mul_le (by omega)];have:=HBB.out
  obtain⟨K1,rfl⟩:∃ K1,K=K1+1:=⟨K - 1,by omega⟩
  rw [Nat.mul_comm,Nat.add_sub_cancel];rw [Nat.add_mul,Nat.one_mul] at this
  omega
 obtain⟨K1,hK1⟩:∃ K1,K - 1=K1:=⟨_,rfl⟩
 rw [hK1] at hq
 obtain⟨Q,hQ⟩:∃ Q,524288 / K1=Q:=⟨_,rfl⟩
 rw [hQ] at hq
 have hKL:K≤524288:=by
  have:=HBB.out;have:=Nat.mul_le_mul_left K h0
  omega
 have hk3:wrap64 ((K:Int) - 1)=(K1:Int):=by unfold wrap64;omega
 have hk4:¬ (K1:Int)=0:=by omega
 have hq1:(524288:Int) / (K1:Int)=(Q:Int):=by rw [← hQ];rfl
 have hq2:(524288:Int).tdiv (K1:Int)=(Q:Int):=by rw [Int.tdiv_eq_ediv_of_nonneg (by omega)];exact hq1
 have hq5:(524288:Int) / ((K:Int) - 1)=(Q:Int):=by rw [show ((K:Int) - 1)=(K1:Int) from by omega];exact hq1
 have hq3:¬ ((Q:Int)<(N:Int)):=by omega
 have hQ2:Q≤524288:=by rw [← hQ];exact Nat.div_le_self _ _
 have hq4:wrap64 (Q:Int)=(Q:Int):=by unfold wrap64;omega
 clear hK1 hQ hq hQ2
 obtain⟨S,hS⟩:∃ S:Nat,S=15626:=⟨_,rfl⟩
 have HXN:=Hd (show X ^ N<2 ^ (32*S) from by
  calc X ^ N≤(2 ^ K) ^ N:=Nat.pow_le_pow_left (Nat.le_of_lt HXK.out) N
   _=2 ^ (K*N):=by rw [Nat.pow_mul]
   _<2 ^ (32*S):=Nat.pow_lt_pow_right (by omega) (by have:=HBB.out;omega))
 have HS:=Hd hS;clear hX0 hK2 hS HBB HXK HK;go_wp2
 simp only [show decide (Q<N)=false from decide_eq_false (by omega)]
 go_loopw [1,6,8] (fun jv xv pv wr=>∃ (j P Y:Nat) (Ap Ax:Option Addr) (np nx cp cx:Nat),jv=.int .i64 j∧xv=.slice Ax nx cx∧pv=.slice Ap np cp∧(1≤j∧j≤N)∧PowInv X N P Y j ∧
  U32s wr Ap np cp (digs P)∧U32s wr Ax nx cx (digs Y)∧(np≤16384∧nx≤16384)∧Below w.heap.size w wr) (fun jv _ _ _=>(intOf jv).toNat)
 case atStart=>exact⟨N,1,X,some ⟨w2.heap.size,0,none⟩,some ⟨g,0,none⟩,1,nn,1,nn,rfl,rfl,rfl,⟨h0,Nat.le_refl _⟩,by unfold PowInv;rw [Nat.one_mul],by rw [digs_one];exact U32s.lit1 w2 117 (a:=1) (by omega),HU.out.alloc _,⟨by omega,HNB.out⟩,HB3.out.alloc HB3.out.size _⟩
 case round=>
  obtain⟨j,P,Y,Ap,Ax,np,nx,cp,cx,rfl,rfl,rfl,hj,hinv,hp,hx,⟨hnp,hnx⟩,hb⟩:=hrel;have HI:=Hd hinv;have HP:=Hd hp;have HX:=Hd hx;have HBB:=Hd hb;clear hinv hp hx hb HU HB3 HNB hk2 hk3 hk4 hq1 hq2 hq3 hq4 hq5 hKL
  by_cases hodd:j % 2=1
  ·have ga:bits .and .i64 (j:Int) 1=1:=by rw [HAND.out j (by omega),hodd];rfl
   have HT:=Hd (HM.out _ Ap Ax np cp nx cx P Y HP.out HX.out hnp hnx);go_wp2_with fail;refine HT.out.mono ?_;rintro e w4 ⟨D4,n4,c4,ls4,rfl,hu4,hv4,hn4,hb4⟩;rw [num_digs,num_digs] at hv4;have HC4:=Hd (HC.out _ D4 n4 c4 ls4 hu4);have hp4:=hu4.cutd;rw [hv4] at hp4;have HP4:=Hd hp4;have HX4:=Hd (HX.out.below hb4);have HB4:=Hd (HBB.out.trans (hb4.mono HBB.out.size))
   have hl4:wlen ls4≤16384:=by
    have h:=digs_length_le (Nat.lt_of_le_of_lt (HI.out.le_px HX0.out (show 0<j by omega)) HXN.out);rw [hp4.len] at h;have:=HS.out;omega
   have HL4:=Hd hl4;clear hu4 hv4 hn4 hb4 hp4 HT HP HX HBB hl4;go_wp2_with fail;refine HC4.out.mono ?_;rintro e w' ⟨rfl,rfl⟩;clear HC4
   obtain⟨k4,hk4⟩:∃ k,wlen ls4=k:=⟨_,rfl⟩
   rw [hk4] at HP4 HL4 ⊢;clear hk4;have hk4:=HL4.out
   have HJ2:=Hd (show (j<2→P*Y=X ^ N)∧PowInv X N (P*Y) (Y*Y) (j / 2) from⟨fun h=>by
    have h2:=HI.out.odd hodd;rw [show j / 2=0 by omega] at h2
    exact h2.done,HI.out.odd hodd⟩)
   clear ga hodd
   by_cases hj1:j<2
   ·have gz:(j:Int) / 2=0:=by omega
    have e:P*Y=X ^ N:=HJ2.out.1 hj1;rw [e] at HP4;clear HM HC HAND hj1 e HJ2;go_wp2
    go_ret2
    exact⟨D4,k4,k4,rfl,HP4.out,HB4.out⟩
   ·have gz:¬ (j:Int) / 2=0:=by omega
    have HT2:=Hd (HM.out _ Ax Ax nx cx nx cx Y Y HX4.out HX4.out hnx hnx);go_wp2_with fail;refine HT2.out.mono ?_;rintro e w5 ⟨D5,n5,c5,ls5,rfl,hu5,hv5,hn5,hb5⟩
    simp only [num_digs] at hv5
    have HC5:=Hd (HC.out _ D5 n5 c5 ls5 hu5);have hx5:=hu5.cutd;rw [hv5] at hx5;have HX5:=Hd hx5;have HP5:=Hd (HP4.out.below hb5);have HB5:=Hd (HB4.out.trans (hb5.mono HB4.out.size))
    have HL5:=Hd (show wlen ls5≤16384 from by
     have h:=digs_length_le (Nat.lt_of_le_of_lt (HI.out.le_xx HX0.out (show 2≤j by omega)) HXN.out);rw [hx5.len] at h
     have:=HS.out;omega)
    clear hu5 hv5 hn5 hb5 hx5 HT2 HP4 HX4 HB4;go_wp2_with fail;refine HC5.out.mono ?_;rintro e w' ⟨rfl,rfl⟩;clear HC5
    obtain⟨k5,hk5⟩:∃ k,wlen ls5=k:=⟨_,rfl⟩
    rw [hk5] at HX5 HL5 ⊢;go_wp2
    go_roundw
    case rel=>exact⟨j / 2,_,_,D4,D5,k4,k5,_,_,by go_num,rfl,rfl,by omega,HJ2.out.2,HP5.out,HX5.out,⟨by omega,HL5.out⟩,HB5.out⟩
    case measure=>simp [intOf];omega
  ·have ga:bits .and .i64 (j:Int) 1=0:=by rw [HAND.out j (by omega),show j % 2=0 by omega];rfl
   have HJ2:=Hd (show (j<2→P=X ^ N)∧PowInv X N P (Y*Y) (j / 2) from⟨fun h=>by omega,HI.out.even (by omega)⟩);clear hodd
   by_cases hj1:j<2
   ·have gz:(j:Int) / 2=0:=by omega
    have e:P=X ^ N:=HJ2.out.1 hj1;rw [e] at HP;clear HM HC HAND hj1 e HJ2;go_wp2
    go_ret2
    exact⟨Ap,np,cp,rfl,HP.out,HBB.out⟩
   ·have gz:¬ (j:Int) / 2=0:=by omega
    have HT2:=Hd (HM.out _ Ax Ax nx cx nx cx Y Y HX.out HX.out hnx hnx);go_wp2_with fail;refine HT2.out.mono ?_;rintro e w5 ⟨D5,n5,c5,ls5,rfl,hu5,hv5,hn5,hb5⟩
    simp only [num_digs] at hv5
    have HC5:=Hd (HC.out _ D5 n5 c5 ls5 hu5);have hx5:=hu5.cutd;rw [hv5] at hx5;have HX5:=Hd hx5;have HP5:=Hd (HP.out.below hb5);have HB5:=Hd (HBB.out.trans (hb5.mono HBB.out.size))
    have HL5:=Hd (show wlen ls5≤16384 from by
     have h:=digs_length_le (Nat.lt_of_le_of_lt (HI.out.le_xx HX0.out (show 2≤j by omega)) HXN.out);rw [hx5.len] at h
     have:=HS.out;omega)
    clear hu5 hv5 hn5 hb5 hx5 HT2 HP HX HBB;go_wp2_with fail;refine HC5.out.mono ?_;rintro e w' ⟨rfl,rfl⟩;clear HC5
    obtain⟨k5,hk5⟩:∃ k,wlen ls5=k:=⟨_,rfl⟩
    rw [hk5] at HX5 HL5 ⊢;go_wp2
    go_roundw
    case rel=>exact⟨j / 2,_,_,Ap,D5,np,k5,_,_,by go_num,rfl,rfl,by omega,HJ2.out.2,HP5.out,HX5.out,⟨by omega,HL5.out⟩,HB5.out⟩
    case measure=>simp [intOf];omega
end Go.Proofs.YthlmlmfebpjgdaaGreatDoor
namespace Go.Proofs.YthlmlmfebpjgdaaGreatDoor
def IsR(a n r:Nat):Prop:=r ^ n≤a∧a<(r+1) ^ n
theorem exists_root(n:Nat)(hn:0<n)(a:Nat):∃ r,IsR a n r:=by
 induction a with
 | zero=>exact⟨0,by rw [Nat.zero_pow hn];exact Nat.le_refl 0,by rw [Nat.one_pow];omega⟩
 | succ a ih=>
  obtain⟨r,h1,h2⟩:=ih
  by_cases h:(r+1) ^ n≤a+1
  ·refine⟨r+1,h,?_⟩;have:(r+1) ^ n<(r+1+1) ^ n:=Nat.pow_lt_pow_left (by omega) (by omega)
   omega
  ·exact⟨r,by omega,by omega⟩
theorem IsR.lt{a n r x:Nat}(h:IsR a n r)(hx:a<x ^ n):r<x:=by
 rcases Nat.lt_or_ge r x with k | k
 ·exact k
 ·have:=Nat.pow_le_pow_left k n;have:=h.1
  omega
theorem IsR.ge{a n r x:Nat}(h:IsR a n r)(hx:x ^ n≤a):x≤r:=by
 rcases Nat.lt_or_ge r x with k | k
 ·have:=Nat.pow_le_pow_left (show r+1≤x from k) n;have:=h.2
  omega
 ·exact k
theorem IsR.pos{a n r:Nat}(h:IsR a n r)(ha:0<a):0<r:=by
 rcases Nat.eq_zero_or_pos r with k | k
 ·subst k;have:=h.2;rw [Nat.zero_add,Nat.one_pow] at this
  omega
 ·exact k
theorem IsR.one{a r:Nat}(h:IsR a 1 r):r=a:=by
 have h1:=h.1;have h2:=h.2;rw [Nat.pow_one] at h1 h2
 omega
theorem IsR.uniq{a n r r':Nat}(h:IsR a n r)(h':IsR a n r'):r=r':=by
 have:=h.ge h'.1;have:=h'.ge h.1
 omega
theorem amgm(r x m:Nat):(m+1)*r*x ^ m≤r ^ (m+1)+m*x ^ (m+1):=by
 induction m with
 | zero=>simp
 | succ m ih=>
  have h1:r*((m+1)*r*x ^ m)≤r*(r ^ (m+1)+m*x ^ (m+1)):=Nat.mul_le_mul_left r ih
  have h2:2*(r*x)≤r*r+x*x:=by
   rcases Nat.le_total r x with h | h
   ·obtain⟨t,rfl⟩:=Nat.exists_eq_add_of_le h
    have e:r*r+(r+t)*(r+t)=2*(r*(r+t))+t*t:=by grind
    omega
   ·obtain⟨t,rfl⟩:=Nat.exists_eq_add_of_le h
    have e:(x+t)*(x+t)+x*x=2*((x+t)*x)+t*t:=by grind
    omega
  have h3:(m+1)*x ^ m*(2*(r*x))≤(m+1)*x ^ m*(r*r+x*x):=Nat.mul_le_mul_left _ h2
  have e1:r ^ (m+1+1)=r*r ^ (m+1):=by rw [Nat.pow_succ r (m+1),Nat.mul_comm]
  have e2:x ^ (m+1)=x*x ^ m:=by rw [Nat.pow_succ,Nat.mul_comm]
  have e3:x ^ (m+1+1)=x*x*x ^ m:=by rw [Nat.pow_succ,e2];grind
  rw [e1,e3,e2];rw [e2] at h1
  grind
theorem newton_step{a m r x:Nat}(h:IsR a (m+1) r)(hx:0<x)(hr:r≤x):r≤(x*m+a / x ^ m) / (m+1)∧(x≤(x*m+a / x ^ m) / (m+1)→r=x):=by
 have hp:0<x ^ m:=Nat.pow_pos hx
 constructor
 ·rw [Nat.le_div_iff_mul_le (by omega)]
  rcases Nat.lt_or_ge (x*m) (r*(m+1)) with k | k
  ·obtain⟨t,ht⟩:=Nat.exists_eq_add_of_le (Nat.le_of_lt k);have ha:=amgm r x m;have h1:=h.1
   have e:(m+1)*r*x ^ m=m*x ^ (m+1)+t*x ^ m:=by
    rw [Nat.mul_comm (m+1) r,ht,Nat.add_mul,Nat.pow_succ];grind
   have h2:t≤a / x ^ m:=(Nat.le_div_iff_mul_le hp).2 (by omega)
   omega
  ·exact Nat.le_trans k (Nat.le_add_right _ _)
 ·intro hy;rw [Nat.le_div_iff_mul_le (by omega)] at hy
  have h1:x≤a / x ^ m:=by
   have e:x*(m+1)=x*m+x:=by rw [Nat.mul_add,Nat.mul_one]
   omega
  rw [Nat.le_div_iff_mul_le hp] at h1
  have h2:x ^ (m+1)≤a:=by rw [Nat.pow_succ,Nat.mul_comm];exact h1
  have:=h.ge h2
  omega
theorem root_shift{a n h r r':Nat}(hr:IsR a n r)(hr':IsR (a / 2 ^ (h*n)) n r'):r≤(r'+1)*2 ^ h:=by
 refine Nat.le_of_lt (hr.lt ?_);have h2:=hr'.2;rw [Nat.div_lt_iff_lt_mul (Nat.two_pow_pos _)] at h2
 rwa [Nat.mul_pow,← Nat.pow_mul]
theorem root_small{a n r:Nat}(hr:IsR a n r)(h:a<2 ^ (4*n)):r≤32:=by
 rw [Nat.pow_mul] at h;have:=hr.lt h
 omega
end Go.Proofs.YthlmlmfebpjgdaaGreatDoor
namespace Go.Proofs.YthlmlmfebpjgdaaGreatDoor
open Go.RowKit
theorem U32s.uniq{w:World}{A:Option Addr}{n c c':Nat}{xs ys:List Nat}(h:U32s w A n c xs)(h':U32s w A n c' ys):xs=ys:=by
 apply List.ext_getElem?
 intro j
 by_cases hj:j<n
 ·obtain⟨ad,e,-,hc⟩:=h.at_ (by omega);obtain⟨ad',e',-,hc'⟩:=h'.at_ (by omega);rw [e] at e';cases e';have h3:=(hc j hj).symm.trans (hc' j hj)
  have l1:j<xs.length:=by rw [h.len];exact hj
  have l2:j<ys.length:=by rw [h'.len];exact hj
  rw [List.getElem?_eq_getElem l1,List.getElem?_eq_getElem l2] at h3 ⊢
  simp only [Option.getD_some,Option.some.injEq,Value.int.injEq,true_and] at h3
  rw [show xs[j]=ys[j] from by omega]
 ·rw [List.getElem?_eq_none (by rw [h.len];omega),List.getElem?_eq_none (by rw [h'.len];omega)]
open Classical in
noncomputable def xval(w:World)(v:Value):Nat:=if h:∃ x A n c,v=.slice A n c∧U32s w A n c (digs x) then h.choose else 0
theorem xval_eq{w:World}{A:Option Addr}{n c x:Nat}(h:U32s w A n c (digs x)):xval w (.slice A n c)=x:=by
 unfold xval
 have k:∃ y A' n' c',(.slice A n c:Value)=.slice A' n' c'∧U32s w A' n' c' (digs y):=⟨x,A,n,c,rfl,h⟩
 rw [dif_pos k];obtain⟨A',n',c',e,h'⟩:=k.choose_spec
 cases e
 have e2:=congrArg num (h.uniq h');rw [num_digs,num_digs] at e2
 exact e2.symm
section
variable {A B:Option Addr} {n c m d x y:Nat} {w:World}
theorem wl{x:Nat}(h:blen x≤500000):wlen (digs x)≤15625:=wlen_digs_le (by omega)
theorem pow_d(N:Nat)(hx:U32s w A n c (digs x))(h1:blen x≤500000)(hN:N≤4096)(hb:blen x*N≤500000):
  Calls Tryz.prog 251 #[.slice A n c,.int .i64 (N:Int)] w (NewU32E w (digs (x ^ N))):=by
 have h:=npow_any A n c N _ w hx (by have:=wl h1;omega) hN (by rw [num_digs];exact hb)
 rwa [num_digs] at h
theorem quo_d(hx:U32s w A n c (digs x))(hy:U32s w B m d (digs y))(h1:blen x≤500000)(h2:blen y≤500000)(h0:0<y):
  Calls Tryz.prog 240 #[.slice A n c,.slice B m d] w (NewQR w (x / y) (x % y)):=by
 have h:=nquo_any A B n c m d _ _ w hx hy (by have:=wl h1;omega) (by have:=wl h2;omega) (by rw [num_digs];exact h0)
 rwa [num_digs,num_digs] at h
theorem mul_d(hx:U32s w A n c (digs x))(hy:U32s w B m d (digs y))(h1:blen x≤250000)(h2:blen y≤250000):
  Calls Tryz.prog 229 #[.slice A n c,.slice B m d] w (NewU32E w (digs (x*y))):=by
 have w1:=wlen_digs_le (S:=x) (K:=7813) (by omega);have w2:=wlen_digs_le (S:=y) (K:=7813) (by omega);have h:=nmul_any A B n c m d _ _ w hx hy (by omega) (by rw [num_digs,num_digs];omega)
 rwa [num_digs,num_digs] at h
theorem add_d(hx:U32s w A n c (digs x))(hy:U32s w B m d (digs y))(h1:blen x≤500000)(h2:blen y≤500000):
  Calls Tryz.prog 159 #[.slice A n c,.slice B m d] w (NewU32E w (digs (x+y))):=by
 have h:=nadd_any A B n c m d _ _ w hx hy (by have:=wl h1;omega) (by have:=wl h2;omega)
 rwa [num_digs,num_digs] at h
theorem shl_d(k:Nat)(hx:U32s w A n c (digs x))(h1:blen x+k≤500000):
  Calls Tryz.prog 202 #[.slice A n c,.int .i64 (k:Int)] w (NewU32E w (digs (x*2 ^ k))):=by
 have h:=nshl_any A n c k _ w hx (by have:=wl (x:=x) (by omega);omega) (by rw [num_digs];omega)
 rwa [num_digs] at h
theorem shr_d(k:Nat)(hx:U32s w A n c (digs x))(h1:blen x≤500000)(hk:k≤500000):
  Calls Tryz.prog 254 #[.slice A n c,.int .i64 (k:Int)] w fun e w'=>
   ∃ A2 n2 c2,e=.returned (.tuple #[.slice A2 n2 c2,.bool (decide (x % 2^k≠0)),.int .i64 0])∧U32s w' A2 n2 c2 (digs (x / 2^k))∧Below w.heap.size w w':=by
 have h:=nshr_any A n c k _ w hx (by have:=wl h1;omega) (by omega)
 rwa [num_digs] at h
theorem len_d(hx:U32s w A n c (digs x)):Calls Tryz.prog 232 #[.slice A n c] w fun e w'=>e=.returned (.int .i64 (blen x:Int))∧w=w':=by
 have h:=nlen_any A n c _ w hx
 rwa [num_digs] at h
theorem cmp_d(hx:U32s w A n c (digs x))(hy:U32s w B m d (digs y)):Calls Tryz.prog 142 #[.slice A n c,.slice B m d] w (QuietRet w (.int .i64 (cmp3 x y))):=by
 have h:=ncmp_any A B n c m d _ _ w hx hy
 rwa [num_digs,num_digs] at h
end
theorem blen_pow(x N:Nat):blen (x ^ N)≤blen x*N+1:=by
 have h:x<2 ^ blen x:=blen_le_iff.1 (Nat.le_refl _);refine blen_le_iff.2 (Nat.lt_of_le_of_lt (Nat.pow_le_pow_left (Nat.le_of_lt h) N) ?_);rw [← Nat.pow_mul]
 exact Nat.pow_lt_pow_right (by omega) (by omega)
theorem blen_mul(x y:Nat):blen (x*y)≤blen x+blen y:=by
 have h:x<2 ^ blen x:=blen_le_iff.1 (Nat.le_refl _);have h2:y<2 ^ blen y:=blen_le_iff.1 (Nat.le_refl _);refine blen_le_iff.2 ?_;rw [Nat.pow_add]
 exact Nat.mul_lt_mul'' h h2
theorem blen_add(x y k:Nat)(h1:blen x≤k)(h2:blen y≤k):blen (x+y)≤k+1:=by
 have h:=blen_le_iff.1 h1;have h3:=blen_le_iff.1 h2
 exact blen_le_iff.2 (by rw [Nat.pow_succ];omega)
end Go.Proofs.YthlmlmfebpjgdaaGreatDoor
