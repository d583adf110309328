/-
Lemmas for the statement: Pw0T Irt Rtf RpwT HdP ReadT CutT AddQ PartT SumT Sum2T.
-/
import Derived.Test.YthlmlmfebpjgdaaGreatDoorM02
import Derived.Test.YthlmlmfebpjgdaaGreatDoorM01
import Derived.Test.YthlmlmfebpjgdaaGreatDoorM04
import Derived.Test.YthlmlmfebpjgdaaGreatDoorM05
import Derived.Test.YthlmlmfebpjgdaaGreatDoorM10
import Derived.Deep.DeepCutAuto
import Derived.Test.YthlmlmfebpjgdaaGreatDoorM11
import Derived.Test.YthlmlmfebpjgdaaGreatDoorM03
import Derived.Test.YthlmlmfebpjgdaaGreatDoorM07
import Derived.Test.YthlmlmfebpjgdaaGreatDoorM08
set_option linter.unusedSimpArgs false
set_option linter.unusedVariables false
set_option maxHeartbeats 12800000
set_option maxRecDepth 8000
namespace Go.Proofs.YthlmlmfebpjgdaaGreatDoor
open Go.Proofs.Tryz
open Go.RowKit
def PowZ(N k P X j:Nat):Prop:=P*X^j=N^k/\(N=0->X=0/\P<=1)
theorem PowZ.odd{N k P X j:Nat}(h:PowZ N k P X j)(hj:j % 2=1):PowZ N k (P*X) (X*X) (j / 2):=by
 unfold PowZ at *;refine⟨?_,fun z=>by rw [(h.2 z).1];omega⟩;rw [<- h.1,<- Nat.pow_two,<- Nat.pow_mul,Nat.mul_assoc,<- Nat.pow_succ']
 congr 2;omega
theorem PowZ.even{N k P X j:Nat}(h:PowZ N k P X j)(hj:j % 2=0):PowZ N k P (X*X) (j / 2):=by
 unfold PowZ at *;refine⟨?_,fun z=>by have:=(h.2 z).2;rw [(h.2 z).1];omega⟩;rw [<- h.1,<- Nat.pow_two,<- Nat.pow_mul]
 congr 2;omega
theorem PowZ.last{N k P X j X':Nat}(h:PowZ N k P X j)(hj:j=0)(hx:N=0->X'=0):PowZ N k P X' j:=by
 unfold PowZ at *;subst hj;exact⟨by simpa using h.1,fun z=>⟨hx z,(h.2 z).2⟩⟩
theorem PowZ.done{N k P X:Nat}(h:PowZ N k P X 0):P=N^k:=by unfold PowZ at h;simpa using h.1
theorem PowZ.pos{N k P X j:Nat}(h:PowZ N k P X j)(hN:0<N):0<P:=by
 unfold PowZ at h;have:=Nat.pow_pos (n:=k) hN
 rcases Nat.eq_zero_or_pos P with h0 | h0
 ·rw [h0] at h;omega
 ·exact h0
theorem PowZ.xpos{N k P X j:Nat}(h:PowZ N k P X j)(hN:0<N)(hj:0<j):0<X:=by
 unfold PowZ at h;have:=Nat.pow_pos (n:=k) hN
 rcases Nat.eq_zero_or_pos X with h0 | h0
 ·rw [h0,Nat.zero_pow hj] at h;omega
 ·exact h0
theorem PowZ.le_px{N k P X j:Nat}(h:PowZ N k P X j)(hj:0<j):P*X<=N^k:=by
 rcases Nat.eq_zero_or_pos N with z | hN
 ·rw [(h.2 z).1];omega
 have hx:=h.xpos hN hj;unfold PowZ at h;rw [<- h.1]
 exact Nat.mul_le_mul_left _ (by
  calc X=X^1:=(Nat.pow_one X).symm
   _<=X^j:=Nat.pow_le_pow_right hx hj)
theorem PowZ.le_xx{N k P X j:Nat}(h:PowZ N k P X j)(hj:2<=j):X*X<=N^k:=by
 rcases Nat.eq_zero_or_pos N with z | hN
 ·rw [(h.2 z).1];omega
 have hx:=h.xpos hN (by omega);have hp:=h.pos hN;unfold PowZ at h;rw [<- h.1]
 calc X*X=1*X^2:=by rw [Nat.pow_two,Nat.one_mul]
  _<=P*X^j:=Nat.mul_le_mul hp (Nat.pow_le_pow_right hx hj)
theorem power_all(A:Option Addr)(n c k S:Nat)(xs:List Nat)(w:World)(hS0:1<=S)(hx:U32s w A n c xs)(hs:n<=8589934592)(hS1:num xs<2^(32*S))(hS:num xs ^ k<2^(32*S))(hS2:S<=1073741824)(hk:k<=1048576):
  Calls prog 120 #[.slice A n c,.int .i64 (k:Int)] w (NewU32 w (digs (num xs ^ k))):=by
 have HX:=Hd hx;have HS:=Hd hS;have HS1:=Hd hS1;clear hx hS hS1
 go_enter func120,ntmps120
 go_wp2_with fail;have hu0:=HX.out.below (below_alloc w (.cells #[.int .u32 1] 117));have hnorm:=norm_any A n c xs _ hu0 (by omega);rw [trim_eq_digs HX.out.w32] at hnorm;have HN:=Hd hnorm;clear hnorm hu0;refine HN.out.mono ?_;rintro e w1 ⟨A1,n1,c1,rfl,hu1,hb1⟩
 have h1:U32s w1 (some ⟨w.heap.size,0,none⟩) 1 1 (digs 1):=by
  rw [digs_one];exact (U32s.lit1 w 117 (a:=1) (by omega)).below hb1
 have HB:=Hd (show Below w.heap.size w w1 from (below_alloc w _).trans (hb1.mono (by simp)));have HU1:=Hd hu1;have H1:=Hd h1;clear HN hu1 hb1 h1;go_wp2
 go_loopw [1,5,6] (fun jv pv xv wr=>∃ (j P X:Nat) (Ap Ax:Option Addr) (np nx cp cx:Nat),jv=.int .i64 j/\pv=.slice Ap np cp/\xv=.slice Ax nx cx/\j<=k/\PowZ (num xs) k P X j /\
  U32s wr Ap np cp (digs P)/\U32s wr Ax nx cx (digs X)/\np<=S/\nx<=S/\Below w.heap.size w wr) (fun jv _ _ _=>(intOf jv).toNat)
 case atStart=>exact⟨k,1,num xs,some ⟨w.heap.size,0,none⟩,A1,1,n1,1,c1,rfl,rfl,rfl,Nat.le_refl _,⟨Nat.one_mul _,fun z=>⟨z,Nat.le_refl _⟩⟩,H1.out,HU1.out,hS0,HU1.out.len_le HS1.out,HB.out⟩
 case round=>
  obtain⟨j,P,X,Ap,Ax,np,nx,cp,cx,rfl,rfl,rfl,hj,hinv,hp,hx,hnp,hnx,hb⟩:=hrel;have HI:=Hd hinv;have HP:=Hd hp;have HXX:=Hd hx;have HBB:=Hd hb;clear hinv hp hx hb H1 HU1 HB
  rcases Nat.eq_zero_or_pos j with h0 | h0
  ·subst h0;have e:=HI.out.done;subst e;go_wp2
   go_ret
   exact⟨Ap,np,cp,rfl,HP.out,HBB.out⟩
  have hj2:(0:Int)<(j:Int):=by omega
  by_cases hodd:j % 2=1
  ·have g1:(j:Int) % 2=1:=by omega
   have ht:=times_any Ap Ax np cp nx cx _ _ wr HP.out HXX.out (by omega) (by omega);rw [num_digs,num_digs] at ht;have HT:=Hd ht;clear ht;go_wp2_with fail;refine HT.out.mono ?_;rintro e w2 ⟨A2,n2,c2,rfl,hu2,hb2⟩;have hn2:n2<=S:=hu2.len_le (Nat.lt_of_le_of_lt (HI.out.le_px h0) HS.out);have HU2:=Hd hu2;have HX2:=Hd (HXX.out.below hb2);have HB2:=Hd (show Below w.heap.size w w2 from HBB.out.trans (hb2.mono HBB.out.size));clear HT hu2 hb2
   by_cases h2:2<=j
   ·have g2:(0:Int)<(j:Int) / 2:=by omega
    have ht:=times_any Ax Ax nx cx nx cx _ _ w2 HX2.out HX2.out (by omega) (by omega);rw [num_digs] at ht;have HT:=Hd ht;clear ht;go_wp2_with fail;refine HT.out.mono ?_;rintro e w3 ⟨A3,n3,c3,rfl,hu3,hb3⟩;have hn3:n3<=S:=hu3.len_le (Nat.lt_of_le_of_lt (HI.out.le_xx (by omega)) HS.out);have HU3:=Hd hu3;have HP3:=Hd (HU2.out.below hb3);have HB3:=Hd (show Below w.heap.size w w3 from HB2.out.trans (hb3.mono HB2.out.size));clear HT hu3 hb3;go_wp2
    go_roundw
    case rel=>exact⟨j / 2,P*X,X*X,A2,A3,n2,n3,c2,c3,by go_num,rfl,rfl,by omega,HI.out.odd hodd,HP3.out,HU3.out,hn2,hn3,HB3.out⟩
    case measure=>simp [intOf];omega
   ·obtain rfl:j=1:=by omega
    go_wp2
    go_roundw
    case rel=>exact⟨0,P*X,X,A2,Ax,n2,nx,c2,cx,by go_num,rfl,rfl,by omega,(HI.out.odd (by omega)).last rfl (fun z=>(HI.out.2 z).1),HU2.out,HX2.out,hn2,hnx,HB2.out⟩
    case measure=>simp [intOf]
  ·have g1:(j:Int) % 2=0:=by omega
   have g2:(0:Int)<(j:Int) / 2:=by omega
   have ht:=times_any Ax Ax nx cx nx cx _ _ wr HXX.out HXX.out (by omega) (by omega);rw [num_digs] at ht;have HT:=Hd ht;clear ht;go_wp2_with fail;refine HT.out.mono ?_;rintro e w3 ⟨A3,n3,c3,rfl,hu3,hb3⟩;have hn3:n3<=S:=hu3.len_le (Nat.lt_of_le_of_lt (HI.out.le_xx (by omega)) HS.out);have HU3:=Hd hu3;have HP3:=Hd (HP.out.below hb3);have HB3:=Hd (show Below w.heap.size w w3 from HBB.out.trans (hb3.mono HBB.out.size));clear HT hu3 hb3;go_wp2
   go_roundw
   case rel=>exact⟨j / 2,P,X*X,Ap,A3,np,n3,cp,c3,by go_num,rfl,rfl,by omega,HI.out.even (by omega),HP3.out,HU3.out,hnp,hn3,HB3.out⟩
   case measure=>simp [intOf];omega
def IsR(a n r:Nat):Prop:=r ^ n<=a/\a<(r+1) ^ n
theorem exists_root(n:Nat)(hn:0<n)(a:Nat):∃ r,IsR a n r:=by
 induction a with
 | zero=>exact⟨0,by rw [Nat.zero_pow hn];exact Nat.le_refl 0,by rw [Nat.one_pow];omega⟩
 | succ a ih=>
  obtain⟨r,h1,h2⟩:=ih
  by_cases h:(r+1) ^ n<=a+1
  ·refine⟨r+1,h,?_⟩;have:(r+1) ^ n<(r+1+1) ^ n:=Nat.pow_lt_pow_left (by omega) (by omega)
   omega
  ·exact⟨r,by omega,by omega⟩
theorem IsR.lt{a n r x:Nat}(h:IsR a n r)(hx:a<x ^ n):r<x:=by
 rcases Nat.lt_or_ge r x with k | k
 ·exact k
 ·have:=Nat.pow_le_pow_left k n;have:=h.1
  omega
theorem IsR.ge{a n r x:Nat}(h:IsR a n r)(hx:x ^ n<=a):x<=r:=by
 rcases Nat.lt_or_ge r x with k | k
 ·have:=Nat.pow_le_pow_left (show r+1<=x from k) n;have:=h.2
  omega
 ·exact k
theorem IsR.pos{a n r:Nat}(h:IsR a n r)(ha:0<a):0<r:=by
 rcases Nat.eq_zero_or_pos r with k | k
 ·subst k;have:=h.2;rw [Nat.zero_add,Nat.one_pow] at this
  omega
 ·exact k
theorem IsR.one{a r:Nat}(h:IsR a 1 r):r=a:=by
 have h1:=h.1;have h2:=h.2;rw [Nat.pow_one] at h1 h2
 omega
theorem IsR.uniq{a n r r':Nat}(h:IsR a n r)(h':IsR a n r'):r=r':=by
 have:=h.ge h'.1;have:=h'.ge h.1
 omega
theorem amgm(r x m:Nat):(m+1)*r*x ^ m<=r ^ (m+1)+m*x ^ (m+1):=by
 induction m with
 | zero=>simp
 | succ m ih=>
  have h1:r*((m+1)*r*x ^ m)<=r*(r ^ (m+1)+m*x ^ (m+1)):=Nat.mul_le_mul_left r ih
  have h2:2*(r*x)<=r*r+x*x:=by
   rcases Nat.le_total r x with h | h
   ·obtain⟨t,rfl⟩:=Nat.exists_eq_add_of_le h
    have e:r*r+(r+t)*(r+t)=2*(r*(r+t))+t*t:=by grind
    omega
   ·obtain⟨t,rfl⟩:=Nat.exists_eq_add_of_le h
    have e:(x+t)*(x+t)+x*x=2*((x+t)*x)+t*t:=by grind
    omega
  have h3:(m+1)*x ^ m*(2*(r*x))<=(m+1)*x ^ m*(r*r+x*x):=Nat.mul_le_mul_left _ h2
  have e1:r ^ (m+1+1)=r*r ^ (m+1):=by rw [Nat.pow_succ r (m+1),Nat.mul_comm]
  have e2:x ^ (m+1)=x*x ^ m:=by rw [Nat.pow_succ,Nat.mul_comm]
  have e3:x ^ (m+1+1)=x*x*x ^ m:=by rw [Nat.pow_succ,e2];grind
  rw [e1,e3,e2];rw [e2] at h1
  grind
theorem newton_step{a m r x:Nat}(h:IsR a (m+1) r)(hx:0<x)(hr:r<=x):r<=(x*m+a / x ^ m) / (m+1)/\(x<=(x*m+a / x ^ m) / (m+1)->r=x):=by
 have hp:0<x ^ m:=Nat.pow_pos hx
 constructor
 ·rw [Nat.le_div_iff_mul_le (by omega)]
  rcases Nat.lt_or_ge (x*m) (r*(m+1)) with k | k
  ·obtain⟨t,ht⟩:=Nat.exists_eq_add_of_le (Nat.le_of_lt k);have ha:=amgm r x m;have h1:=h.1
   have e:(m+1)*r*x ^ m=m*x ^ (m+1)+t*x ^ m:=by
    rw [Nat.mul_comm (m+1) r,ht,Nat.add_mul,Nat.pow_succ];grind
   have h2:t<=a / x ^ m:=(Nat.le_div_iff_mul_le hp).2 (by omega)
   omega
  ·exact Nat.le_trans k (Nat.le_add_right _ _)
 ·intro hy;rw [Nat.le_div_iff_mul_le (by omega)] at hy
  have h1:x<=a / x ^ m:=by
   have e:x*(m+1)=x*m+x:=by rw [Nat.mul_add,Nat.mul_one]
   omega
  rw [Nat.le_div_iff_mul_le hp] at h1
  have h2:x ^ (m+1)<=a:=by rw [Nat.pow_succ,Nat.mul_comm];exact h1
  have:=h.ge h2
  omega
theorem root_shift{a n h r r':Nat}(hr:IsR a n r)(hr':IsR (a / 2 ^ (h*n)) n r'):r<=(r'+1)*2 ^ h:=by
 refine Nat.le_of_lt (hr.lt ?_);have h2:=hr'.2;rw [Nat.div_lt_iff_lt_mul (Nat.two_pow_pos _)] at h2
 rwa [Nat.mul_pow,<- Nat.pow_mul]
theorem root_small{a n r:Nat}(hr:IsR a n r)(h:a<2 ^ (4*n)):r<=32:=by
 rw [Nat.pow_mul] at h;have:=hr.lt h
 omega
theorem rmul_pow(a b:Rat)(n:Nat):(a*b) ^ n=a ^ n*b ^ n:=by
 induction n with
 | zero=>simp [Rat.pow_zero]
 | succ n ih=>rw [Rat.pow_succ,Rat.pow_succ,Rat.pow_succ,ih];grind
theorem rpow_le{a b:Rat}(h0:0<=a)(h:a<=b)(n:Nat):a ^ n<=b ^ n:=by
 induction n with
 | zero=>rw [Rat.pow_zero,Rat.pow_zero];grind
 | succ n ih=>
  rw [Rat.pow_succ,Rat.pow_succ]
  have h1:a ^ n*a<=b ^ n*a:=by rw [Rat.mul_comm _ a,Rat.mul_comm _ a];exact Rat.mul_le_mul_of_nonneg_left ih h0
  have h2:b ^ n*a<=b ^ n*b:=Rat.mul_le_mul_of_nonneg_left h (Rat.pow_nonneg (by grind))
  grind
theorem rpow_lt{a b:Rat}(h0:0<=a)(h:a<b)(n:Nat)(hn:0<n):a ^ n<b ^ n:=by
 obtain⟨m,rfl⟩:∃ m,n=m+1:=⟨n - 1,by omega⟩
 rw [Rat.pow_succ,Rat.pow_succ]
 have hb:0<b:=by grind
 have h1:a ^ m*a<=b ^ m*a:=by rw [Rat.mul_comm _ a,Rat.mul_comm _ a];exact Rat.mul_le_mul_of_nonneg_left (rpow_le h0 (by grind) m) h0
 have h2:b ^ m*a<b ^ m*b:=Rat.mul_lt_mul_of_pos_left h (Rat.pow_pos hb)
 grind
theorem zpow_pow(E:Int)(n:Nat):((2:Rat) ^ E) ^ n=2 ^ ((n:Int)*E):=by
 induction n with
 | zero=>rw [Rat.pow_zero];simp
 | succ n ih=>
  rw [Rat.pow_succ,ih,<- zpow_add]
  congr 1
  rw [show ((n+1:Nat):Int)=(n:Int)+1 from by omega,Int.add_mul,Int.one_mul]
theorem nat_le_c{c:Rat}(hc:0<c)(a b:Nat):(a:Rat)*c<=(b:Rat)*c↔a<=b:=by
 rw [mul_le_pos hc];exact Rat.natCast_le_natCast
theorem pow_le_iff(Z R n:Nat)(hn:0<n):Z ^ n<=R ^ n↔Z<=R:=by
 constructor
 ·intro h
  rcases Nat.lt_or_ge R Z with k | k
  ·have:=Nat.pow_lt_pow_left k (show n≠0 by omega);omega
  ·exact k
 ·exact fun h=>Nat.pow_le_pow_left h n
def rq(s n R:Nat)(c:Rat):Rat:=if R ^ n=s then (R:Rat)*c else ((2*R+1:Nat):Rat)*(c / 2)
theorem root_cmp{c f:Rat}{s n R:Nat}(hc:0<c)(hn:0<n)(hR:IsR s n R)(hf:(∃ Z:Nat,f=(Z:Rat)*c)\/(0<=f/\f<(R:Rat)*c)):
  (f<=rq s n R c↔f ^ n<=(s:Rat)*c ^ n)/\(rq s n R c<=f↔(s:Rat)*c ^ n<=f ^ n):=by
 have hcn:0<c ^ n:=Rat.pow_pos hc
 have hc2:0<c / 2:=by grind
 rcases hf with ⟨Z,rfl⟩ | ⟨h0,hlt⟩
 ·rw [rmul_pow,<- Rat.natCast_pow,nat_le_c hcn,nat_le_c hcn];unfold rq
  by_cases h:R ^ n=s
  ·rw [if_pos h,nat_le_c hc,nat_le_c hc,<- h,pow_le_iff _ _ _ hn,pow_le_iff _ _ _ hn]
   exact⟨Iff.rfl,Iff.rfl⟩
  ·rw [if_neg h]
   have e:(Z:Rat)*c=((2*Z:Nat):Rat)*(c / 2):=by push_cast;grind
   rw [e,nat_le_c hc2,nat_le_c hc2]
   constructor
   ·constructor
    ·intro k;have:=Nat.pow_le_pow_left (show Z<=R by omega) n;have:=hR.1;omega
    ·intro k;have:=hR.ge k;omega
   ·constructor
    ·intro k;have:=Nat.pow_le_pow_left (show R+1<=Z by omega) n;have:=hR.2;omega
    ·intro k;have h1:=hR.1
     rcases Nat.lt_or_ge R Z with q | q
     ·omega
     ·have:=Nat.pow_le_pow_left q n;omega
 ·have h1:(R:Rat)*c<=rq s n R c:=by
   unfold rq
   split
   ·grind
   ·have:((R:Rat)*c)=((2*R:Nat):Rat)*(c / 2):=by push_cast;grind
    rw [this,nat_le_c hc2];omega
  have h2:f ^ n<((R:Rat)*c) ^ n:=rpow_lt h0 hlt n hn
  have h3:((R:Rat)*c) ^ n<=(s:Rat)*c ^ n:=by
   rw [rmul_pow,<- Rat.natCast_pow,nat_le_c hcn];exact hR.1
  constructor
  ·exact⟨fun _=>by grind,fun _=>by grind⟩
  ·exact⟨fun _=>by grind,fun _=>by grind⟩
theorem fl_dig{j:Int}(hj:0<=j)(E:Int)(R:Nat)(hR:144115188075855872<=R):(∃ Z:Nat,fl j=(Z:Rat)*2 ^ E)\/(0<=fl j/\fl j<(R:Rat)*2 ^ E):=by
 obtain⟨k,q,e,hk,hq⟩:=rung_form j.toNat
 have hm:mag j.natAbs=q*2 ^ k:=by
  rw [show j.natAbs=j.toNat by omega,e];exact mag_form k q hk (by omega)
 have hv:val j=((q*2 ^ k:Nat):Int):=by
  have h1:=val_natAbs j;rw [hm] at h1
  have h2:0<=val j:=by
   rcases Int.lt_or_eq_of_le hj with h | h
   ·have:=(@val_lt_iff 0 j).2 h;rw [val_zero] at this;omega
   ·rw [<- h,val_zero];omega
  omega
 have hf:fl j=(q:Rat)*2 ^ ((k:Int) - 1074):=by
  unfold fl;rw [hv,show ((k:Int) - 1074)=(k:Int)+(-1074) from by omega,zpow_add,zpow_nat];generalize (2:Rat) ^ (-1074:Int)=z
  push_cast
  grind
 by_cases h:E<=(k:Int) - 1074
 ·left
  obtain⟨t,ht⟩:∃ t:Nat,(k:Int) - 1074=(t:Int)+E:=⟨((k:Int) - 1074 - E).toNat,by omega⟩
  refine⟨q*2 ^ t,?_⟩;rw [hf,ht,zpow_add,zpow_nat]
  push_cast
  grind
 ·right
  obtain⟨t,ht⟩:∃ t:Nat,E=(t:Int)+((k:Int) - 1074):=⟨(E - ((k:Int) - 1074)).toNat,by omega⟩
  have hp:=zpow_pos ((k:Int) - 1074)
  have h53:(2:Nat) ^ 53=9007199254740992:=by decide
  refine⟨fl_le_iff.2 hj |> fun h=>by rwa [fl_zero] at h,?_⟩;rw [hf,ht,zpow_add,zpow_nat,<- Rat.mul_assoc,<- Rat.natCast_mul]
  have h1:((q+1:Nat):Rat)*2 ^ ((k:Int) - 1074)<=((R*2 ^ t:Nat):Rat)*2 ^ ((k:Int) - 1074):=by
   rw [nat_le_c hp];have:=Nat.mul_le_mul_left R (Nat.one_le_two_pow (n:=t))
   omega
  push_cast at h1 ⊢
  grind
def RtOk(i:Int)(n:Nat)(q:Rat):Prop:=0<q/\∀ j:Int,0<=j->(fl j<=q↔fl j ^ n<=fl i)/\(q<=fl j↔fl i<=fl j ^ n)
theorem RtOk.le{i:Int}{n:Nat}{q q':Rat}(h:RtOk i n q)(h':RtOk i n q')(j:Int):(fl j<=q↔fl j<=q')/\(q<=fl j↔q'<=fl j):=by
 by_cases hj:0<=j
 ·rw [(h.2 j hj).1,(h'.2 j hj).1,(h.2 j hj).2,(h'.2 j hj).2];exact⟨Iff.rfl,Iff.rfl⟩
 ·have h1:fl j<0:=by have:=fl_lt_iff.2 (show j<0 by omega);rwa [fl_zero] at this
  have h2:=h.1;have h3:=h'.1
  exact⟨⟨fun _=>by grind,fun _=>by grind⟩,⟨fun _=>by grind,fun _=>by grind⟩⟩
theorem RtOk.rnd{i:Int}{n:Nat}{q q':Rat}(h:RtOk i n q)(h':RtOk i n q'){d:Int}(hd:d=-1\/d=1):rndI d q=rndI d q':=by
 rcases hd with rfl | rfl
 ·obtain⟨a1,a2,a3⟩:=rndI_down q;obtain⟨b1,b2,b3⟩:=rndI_down q';have hM:=M_val
  by_cases c1:rndI (-1) q=-(M:Int)
  ·by_cases c2:rndI (-1) q'=-(M:Int)
   ·omega
   ·have:=(a3 _ (by omega) b2).2 ((h.le h' _).1.2 ((b3 _ (by omega) b2).1 (Int.le_refl _)))
    omega
  ·have l1:=(b3 _ (by omega) a2).2 ((h.le h' _).1.1 ((a3 _ (by omega) a2).1 (Int.le_refl _)));have l2:=(a3 (rndI (-1) q') (by omega) b2).2 ((h.le h' _).1.2 ((b3 _ (by omega) b2).1 (Int.le_refl _)))
   omega
 ·obtain⟨a1,a2,a3⟩:=rndI_up q;obtain⟨b1,b2,b3⟩:=rndI_up q';have hM:=M_val
  by_cases c1:rndI 1 q=M
  ·by_cases c2:rndI 1 q'=M
   ·omega
   ·have:=(a3 _ b1 (by omega)).2 ((h.le h' _).2.2 ((b3 _ b1 (by omega)).1 (Int.le_refl _)))
    omega
  ·have l1:=(b3 _ a1 (by omega)).2 ((h.le h' _).2.1 ((a3 _ a1 (by omega)).1 (Int.le_refl _)));have l2:=(a3 (rndI 1 q') b1 (by omega)).2 ((h.le h' _).2.2 ((b3 _ b1 (by omega)).1 (Int.le_refl _)))
   omega
theorem rq_pos{s n R:Nat}{c:Rat}(hc:0<c)(hR:0<R):0<rq s n R c:=by
 unfold rq
 split
 ·exact Rat.mul_pos (by exact_mod_cast hR) hc
 ·exact Rat.mul_pos (by exact_mod_cast (show 0<2*R+1 by omega)) (by grind)
theorem rq_ok{i:Int}{n s R:Nat}{E:Int}(hn:0<n)(hR:IsR s n R)(h57:144115188075855872<=R)(hi:fl i=(s:Rat)*2 ^ ((n:Int)*E)):RtOk i n (rq s n R (2 ^ E)):=by
 have hc:=zpow_pos E;refine⟨rq_pos hc (by omega),fun j hj=>?_⟩;have h:=root_cmp hc hn hR (fl_dig hj E R h57);rw [zpow_pow,<- hi] at h
 exact h
open Classical in
noncomputable def rootq(i:Int)(n:Nat):Rat:=if h:∃ q,RtOk i n q then h.choose else 0
theorem rootq_ok{i:Int}{n:Nat}{q:Rat}(h:RtOk i n q):RtOk i n (rootq i n):=by
 unfold rootq
 have k:∃ q,RtOk i n q:=⟨q,h⟩
 rw [dif_pos k]
 exact k.choose_spec
noncomputable def rt1(d i:Int)(n:Nat):Int:=if i=0\/i=M then i else rndI d (rootq i n)
noncomputable def rti(d i:Int)(n:Nat):Int:=if i<0 then -(rt1 (-d) (-i) n) else rt1 d i n
theorem rt1_of{d i:Int}{n:Nat}{q:Rat}(hd:d=-1\/d=1)(h:RtOk i n q)(h0:i≠0)(h1:i≠M):rt1 d i n=rndI d q:=by
 unfold rt1;rw [if_neg (by omega)]
 exact (rootq_ok h).rnd h hd
theorem rpoww_walk(K k P Q:Nat)(g:Bool)(A:Option Addr)(n c:Nat)(B:Option Addr)(m d:Nat)(gr:Bool)(y:Rat)(w:World)(hP:∀ W,Below w.heap.size w W->Calls prog 120 #[.slice A n c,.int .i64 (k:Int)] W (NewU32 W (digs P)))(hQ:∀ W,Below w.heap.size w W->Calls prog 120 #[.slice B m d,.int .i64 (k:Int)] W (NewU32 W (digs Q)))
  (hF:∀ A5 n5 c5 B6 m6 d6 W,U32s W A5 n5 c5 (digs P)->U32s W B6 m6 d6 (digs Q)->Calls prog 96 #[.bool gr,.slice A5 n5 c5,.slice B6 m6 d6,.int .i64 0] W (NewRatS W K y))
  (hg:(g=false/\gr=false)\/(g=true/\((k:Int).tmod 2 == 1)=true/\gr=true)\/(g=true/\((k:Int).tmod 2 == 1)=false/\gr=false)):
  Calls prog 53 #[Zg g A n c B m d,.int .i64 (k:Int)] w (NewRatS w K y):=by
 have HP:=Hd hP;have HQ:=Hd hQ;have HF:=Hd hF;clear hP hQ hF
 rcases hg with ⟨rfl,rfl⟩ | ⟨rfl,hk,rfl⟩ | ⟨rfl,hk,rfl⟩
 ·skip;have LL:=li2 w (Zr false A n c B m d) 42 (Zr false none 0 0 none 0 0) 42
  go_enter func53,ntmps53
  go_upto_region 1 with fail
  replace LL:=Hd (LL.out.loose1 rfl);refine regL LL (fun hHeld=>?_);clear LL;generalize World.drew _=wk at hHeld  ⊢;refine tks 0 ?_;refine tkb 1 (fun _ h=>(h.blk 0 rfl).c3) ?_;refine tks 2 ?_;refine tkns 3 ?_;refine tkns 4 ?_;refine tkns 5 ?_;refine tks 6 ?_;refine tks 7 ?_;refine tkb 8 (fun _ h=>(h.blk 0 rfl).c3) ?_;refine tks 9 ?_;refine tks 11 ?_;refine tkb 12 (fun _ h=>(h.blk 0 rfl).c3) ?_;refine tks 13 ?_;refine rdy 10 fun KK hKK=>?_;go_simp;refine (HP.out _ hHeld.b).mono ?_;rintro e wk ⟨A5,n5,c5,rfl,hu5,hb5⟩;go_wp2_with fail;refine hKK.out _ _ (hHeld.keep hb5) (fun _=>?_);clear hKK KK hHeld;rename_i hHeld;(try simp only [Act.put,lay]);(try replace HU6:=Hd (HU6.out.below hb5));(try replace HR7:=Hd (HR7.out.below hb5));have HU5:=Hd hu5;clear hu5;clear hb5;refine rdy 14 fun KK hKK=>?_;go_simp;refine (HQ.out _ hHeld.b).mono ?_;rintro e wk ⟨B6,m6,d6,rfl,hu6,hb6⟩;go_wp2_with fail;refine hKK.out _ _ (hHeld.keep hb6) (fun _=>?_);clear hKK KK hHeld;rename_i hHeld;(try simp only [Act.put,lay]);(try replace HU5:=Hd (HU5.out.below hb6));(try replace HR7:=Hd (HR7.out.below hb6));have HU6:=Hd hu6;clear hu6;clear hb6;refine rcn 15 (HF.out _ _ _ _ _ _ _ HU5.out HU6.out) ?_;clear hHeld;intro wk g7 A7 n7 c7 B7 m7 d7 hr7 hb7 hHeld;(try replace HU5:=Hd (HU5.out.below hb7));(try replace HU6:=Hd (HU6.out.below hb7));have HR7:=Hd hr7;clear hr7;clear hb7;refine rdy 16 fun KK hKK=>?_;obtain⟨ha0,hf0,ha1,hf1,ha2,hf2⟩:=(hHeld.has 0 rfl).sf3;obtain⟨csx,hbx,-,hcx⟩:=hHeld.has 0 rfl
  replace HU5:=Hd (HU5.out.sets hbx hcx 0 [.bool g7,.slice A7 n7 c7,.slice B7 m7 d7]);replace HU6:=Hd (HU6.out.sets hbx hcx 0 [.bool g7,.slice A7 n7 c7,.slice B7 m7 d7]);replace HR7:=Hd (HR7.out.sets hbx hcx 0 [.bool g7,.slice A7 n7 c7,.slice B7 m7 d7]);clear hbx hcx;go_simp;have HS_0:=(hHeld.has 0 rfl).laid [.bool g7,.slice A7 n7 c7,.slice B7 m7 d7] rfl;refine hKK.out _ _ (hHeld.over 0 rfl [.bool g7,.slice A7 n7 c7,.slice B7 m7 d7] rfl rfl (by first | omega | exact hHeld.le_of 0 rfl) (by simp<;>omega) (by simp<;>omega)) (fun _=>?_);clear hKK KK hHeld;rename_i hHeld;(try simp only [Act.put,lay]);refine wpAnyH_done (by kernel_rfl) ?_ _;have LB:=Hd hHeld.b;clear hHeld;obtain⟨hk4_0,hk4_1,hk4_2⟩:=HS_0.c3;clear HS_0
  simp [sets] at hk4_0 hk4_1 hk4_2
  go_wp2;refine bodyPost_ret (v:=Zg g7 A7 n7 c7 B7 m7 d7) (by simp [results,results53,go_sem,hk4_0,hk4_1,hk4_2]) rfl ?_
  exact⟨g7,A7,n7,c7,B7,m7,d7,rfl,HR7.out,LB.out⟩
 ·skip;have LL:=li2 w (Zr true A n c B m d) 42 (Zr false none 0 0 none 0 0) 42
  go_enter func53,ntmps53
  go_upto_region 1 with fail
  replace LL:=Hd (LL.out.loose1 rfl);refine regL LL (fun hHeld=>?_);clear LL;generalize World.drew _=wk at hHeld  ⊢;refine tks 0 ?_;refine tkb 1 (fun _ h=>(h.blk 0 rfl).c3) ?_;refine tks 2 ?_;refine tks 3 ?_;refine tks 4 ?_;refine tks 5 ?_;refine tks 6 ?_;refine tks 7 ?_;refine tkb 8 (fun _ h=>(h.blk 0 rfl).c3) ?_;refine tks 9 ?_;refine tks 11 ?_;refine tkb 12 (fun _ h=>(h.blk 0 rfl).c3) ?_;refine tks 13 ?_;refine rdy 10 fun KK hKK=>?_;go_simp;refine (HP.out _ hHeld.b).mono ?_;rintro e wk ⟨A5,n5,c5,rfl,hu5,hb5⟩;go_wp2_with fail;refine hKK.out _ _ (hHeld.keep hb5) (fun _=>?_);clear hKK KK hHeld;rename_i hHeld;(try simp only [Act.put,lay]);(try replace HU6:=Hd (HU6.out.below hb5));(try replace HR7:=Hd (HR7.out.below hb5));have HU5:=Hd hu5;clear hu5;clear hb5;refine rdy 14 fun KK hKK=>?_;go_simp;refine (HQ.out _ hHeld.b).mono ?_;rintro e wk ⟨B6,m6,d6,rfl,hu6,hb6⟩;go_wp2_with fail;refine hKK.out _ _ (hHeld.keep hb6) (fun _=>?_);clear hKK KK hHeld;rename_i hHeld;(try simp only [Act.put,lay]);(try replace HU5:=Hd (HU5.out.below hb6));(try replace HR7:=Hd (HR7.out.below hb6));have HU6:=Hd hu6;clear hu6;clear hb6;refine rcn 15 (HF.out _ _ _ _ _ _ _ HU5.out HU6.out) ?_;clear hHeld;intro wk g7 A7 n7 c7 B7 m7 d7 hr7 hb7 hHeld;(try replace HU5:=Hd (HU5.out.below hb7));(try replace HU6:=Hd (HU6.out.below hb7));have HR7:=Hd hr7;clear hr7;clear hb7;refine rdy 16 fun KK hKK=>?_;obtain⟨ha0,hf0,ha1,hf1,ha2,hf2⟩:=(hHeld.has 0 rfl).sf3;obtain⟨csx,hbx,-,hcx⟩:=hHeld.has 0 rfl
  replace HU5:=Hd (HU5.out.sets hbx hcx 0 [.bool g7,.slice A7 n7 c7,.slice B7 m7 d7]);replace HU6:=Hd (HU6.out.sets hbx hcx 0 [.bool g7,.slice A7 n7 c7,.slice B7 m7 d7]);replace HR7:=Hd (HR7.out.sets hbx hcx 0 [.bool g7,.slice A7 n7 c7,.slice B7 m7 d7]);clear hbx hcx;go_simp;have HS_0:=(hHeld.has 0 rfl).laid [.bool g7,.slice A7 n7 c7,.slice B7 m7 d7] rfl;refine hKK.out _ _ (hHeld.over 0 rfl [.bool g7,.slice A7 n7 c7,.slice B7 m7 d7] rfl rfl (by first | omega | exact hHeld.le_of 0 rfl) (by simp<;>omega) (by simp<;>omega)) (fun _=>?_);clear hKK KK hHeld;rename_i hHeld;(try simp only [Act.put,lay]);refine wpAnyH_done (by kernel_rfl) ?_ _;have LB:=Hd hHeld.b;clear hHeld;obtain⟨hk4_0,hk4_1,hk4_2⟩:=HS_0.c3;clear HS_0
  simp [sets] at hk4_0 hk4_1 hk4_2
  go_wp2;refine bodyPost_ret (v:=Zg g7 A7 n7 c7 B7 m7 d7) (by simp [results,results53,go_sem,hk4_0,hk4_1,hk4_2]) rfl ?_
  exact⟨g7,A7,n7,c7,B7,m7,d7,rfl,HR7.out,LB.out⟩
 ·skip;have LL:=li2 w (Zr true A n c B m d) 42 (Zr false none 0 0 none 0 0) 42
  go_enter func53,ntmps53
  go_upto_region 1 with fail
  replace LL:=Hd (LL.out.loose1 rfl);refine regL LL (fun hHeld=>?_);clear LL;generalize World.drew _=wk at hHeld  ⊢;refine tks 0 ?_;refine tkb 1 (fun _ h=>(h.blk 0 rfl).c3) ?_;refine tks 2 ?_;refine tks 3 ?_;refine tks 4 ?_;refine tks 5 ?_;refine tks 6 ?_;refine tks 7 ?_;refine tkb 8 (fun _ h=>(h.blk 0 rfl).c3) ?_;refine tks 9 ?_;refine tks 11 ?_;refine tkb 12 (fun _ h=>(h.blk 0 rfl).c3) ?_;refine tks 13 ?_;refine rdy 10 fun KK hKK=>?_;go_simp;refine (HP.out _ hHeld.b).mono ?_;rintro e wk ⟨A5,n5,c5,rfl,hu5,hb5⟩;go_wp2_with fail;refine hKK.out _ _ (hHeld.keep hb5) (fun _=>?_);clear hKK KK hHeld;rename_i hHeld;(try simp only [Act.put,lay]);(try replace HU6:=Hd (HU6.out.below hb5));(try replace HR7:=Hd (HR7.out.below hb5));have HU5:=Hd hu5;clear hu5;clear hb5;refine rdy 14 fun KK hKK=>?_;go_simp;refine (HQ.out _ hHeld.b).mono ?_;rintro e wk ⟨B6,m6,d6,rfl,hu6,hb6⟩;go_wp2_with fail;refine hKK.out _ _ (hHeld.keep hb6) (fun _=>?_);clear hKK KK hHeld;rename_i hHeld;(try simp only [Act.put,lay]);(try replace HU5:=Hd (HU5.out.below hb6));(try replace HR7:=Hd (HR7.out.below hb6));have HU6:=Hd hu6;clear hu6;clear hb6;refine rcn 15 (HF.out _ _ _ _ _ _ _ HU5.out HU6.out) ?_;clear hHeld;intro wk g7 A7 n7 c7 B7 m7 d7 hr7 hb7 hHeld;(try replace HU5:=Hd (HU5.out.below hb7));(try replace HU6:=Hd (HU6.out.below hb7));have HR7:=Hd hr7;clear hr7;clear hb7;refine rdy 16 fun KK hKK=>?_;obtain⟨ha0,hf0,ha1,hf1,ha2,hf2⟩:=(hHeld.has 0 rfl).sf3;obtain⟨csx,hbx,-,hcx⟩:=hHeld.has 0 rfl
  replace HU5:=Hd (HU5.out.sets hbx hcx 0 [.bool g7,.slice A7 n7 c7,.slice B7 m7 d7]);replace HU6:=Hd (HU6.out.sets hbx hcx 0 [.bool g7,.slice A7 n7 c7,.slice B7 m7 d7]);replace HR7:=Hd (HR7.out.sets hbx hcx 0 [.bool g7,.slice A7 n7 c7,.slice B7 m7 d7]);clear hbx hcx;go_simp;have HS_0:=(hHeld.has 0 rfl).laid [.bool g7,.slice A7 n7 c7,.slice B7 m7 d7] rfl;refine hKK.out _ _ (hHeld.over 0 rfl [.bool g7,.slice A7 n7 c7,.slice B7 m7 d7] rfl rfl (by first | omega | exact hHeld.le_of 0 rfl) (by simp<;>omega) (by simp<;>omega)) (fun _=>?_);clear hKK KK hHeld;rename_i hHeld;(try simp only [Act.put,lay]);refine wpAnyH_done (by kernel_rfl) ?_ _;have LB:=Hd hHeld.b;clear hHeld;obtain⟨hk4_0,hk4_1,hk4_2⟩:=HS_0.c3;clear HS_0
  simp [sets] at hk4_0 hk4_1 hk4_2
  go_wp2;refine bodyPost_ret (v:=Zg g7 A7 n7 c7 B7 m7 d7) (by simp [results,results53,go_sem,hk4_0,hk4_1,hk4_2]) rfl ?_
  exact⟨g7,A7,n7,c7,B7,m7,d7,rfl,HR7.out,LB.out⟩
theorem int_mone(w:World):Calls prog 51 #[.int .i64 (-1)] w (NewI w (-1)):=by
 have HS:=Hd fun W=>small_any 1 W (by omega)
 have HFR:=Hd fun (A1:Option Addr) (n1 c1:Nat) (B1:Option Addr) (d1:Nat) W (h1:U32s W A1 n1 c1 (digs 1)) (h2:U32s W B1 1 d1 (digs 1))=>(by
  have l:=h1.len;have l2:(digs 1).length<=1:=digs_length_le (n:=1) (k:=1) (by decide)
  exact frac1_any true A1 B1 n1 c1 1 d1 1 _ _ W h1 h2 (by omega) (by omega) (num_digs _) (num_digs _):Calls prog 96 #[.bool true,.slice A1 n1 c1,.slice B1 1 d1,.int .i64 0] W (NewI W (-1)))
 have LL:=li1 w (Zr false none 0 0 none 0 0) 42
 go_enter func51,ntmps51
 go_wp2_with fail;refine (HS.out _).mono ?_;rintro e w1 ⟨A1,n1,c1,rfl,hu1,hb1⟩;replace LL:=stL LL hb1;have U1:=Hd hu1;clear hb1 hu1 HS;have HD1:=Hd (show U32s (w1.alloc (.cells #[.int .u32 1] 117)) (some ⟨w1.heap.size,0,none⟩) 1 1 (digs 1) from by rw [digs_one];exact U32s.lit1 w1 117 (a:=1) (by omega));have HQ:=Hd (HFR.out A1 n1 c1 _ 1 (w1.alloc (.cells #[.int .u32 1] 117)) (U1.out.alloc _) HD1.out);replace LL:=Hd (LL.out.alloc (.cells #[.int .u32 1] 117));clear HD1 HFR U1;go_wp2_with fail;refine HQ.out.mono ?_;rintro e w2 ⟨g2,A2,n2,c2,B2,d2,rfl,hr,hb2⟩;replace LL:=stL LL hb2;have HR:=Hd hr;clear hr hb2 HQ;replace LL:=Hd (LL.out.loose0 rfl);obtain⟨ha2_0,hf2_0,ha2_1,hf2_1,ha2_2,hf2_2⟩:=(LL.out.has 0 rfl).sf3;have LF:=Hd (LL.out.wr [.bool g2,.slice A2 n2 c2,.slice B2 1 d2]);obtain⟨hk2_0,hk2_1,hk2_2⟩:=(LF.out.blk 0 rfl).c3
 simp [sets] at hk2_0 hk2_1 hk2_2
 have FR:=Hd ((LL.out.has 0 rfl).ratI HR.out [.bool g2,.slice A2 n2 c2,.slice B2 1 d2]);clear LL;go_wp2;refine bodyPost_ret (v:=Zg g2 A2 n2 c2 B2 1 d2) (by simp [results,results51,go_sem,hk2_0,hk2_1,hk2_2]) rfl ?_
 exact⟨g2,A2,n2,c2,B2,d2,rfl,FR.out,LF.out.b⟩
theorem NewI.s{w w':World}{K:Nat}{z:Int}{e:Ending}(h:NewI w z e w')(hK:1<=K)(hz:z.natAbs<2 ^ (32*K)):NewRatS w K (z:Rat) e w':=by
 obtain⟨g,A,n,c,B,d,rfl,hr,hb⟩:=h
 exact⟨g,A,n,c,B,1,d,rfl,hr.rat hK hz,hb⟩
theorem int_small(a:Int)(w:World)(ha:a=-1\/a=0\/a=1):Calls prog 51 #[.int .i64 a] w (NewRatS w 1 (a:Rat)):=by
 rcases ha with rfl | rfl | rfl
 ·exact (int_mone w).mono fun _ _ h=>h.s (K:=1) (by omega) (by decide)
 ·exact (int_nat 0 w (by omega)).mono fun _ _ h=>h.s
 ·exact (int_nat 1 w (by omega)).mono fun _ _ h=>h.s
theorem rinv_pow(b:Rat)(k:Nat):(b⁻¹) ^ k=(b ^ k)⁻¹:=by
 induction k with
 | zero=>
  rw [Rat.pow_zero,Rat.pow_zero];have h:=Rat.inv_mul_cancel 1 (by decide);rw [Rat.mul_one] at h
  exact h.symm
 | succ k ih=>rw [Rat.pow_succ,ih,<- Rat.inv_mul_rev,Rat.pow_succ,Rat.mul_comm b]
theorem rdiv_pow(a b:Rat)(k:Nat):(a / b) ^ k=a ^ k / b ^ k:=by rw [Rat.div_def,rmul_pow,rinv_pow,<- Rat.div_def]
theorem mone_pow(k:Nat):(-1:Rat) ^ k=if k % 2=1 then -1 else 1:=by
 induction k with
 | zero=>rw [Rat.pow_zero];rfl
 | succ k ih=>
  rw [Rat.pow_succ,ih]
  by_cases h:k % 2=1
  ·rw [if_pos h,if_neg (by omega)];grind
  ·rw [if_neg h,if_pos (by omega)];grind
theorem rv_pow(g:Bool)(p q k:Nat):rv (g && decide (k % 2=1)) (p ^ k) (q ^ k)=rv g p q ^ k:=by
 unfold rv
 cases g
 ·simp only [Bool.false_and,Bool.false_eq_true,if_false]
  rw [rdiv_pow,Rat.natCast_pow,Rat.natCast_pow]
 ·simp only [Bool.true_and,if_true,decide_eq_true_eq]
  rw [show -(p:Rat) / q=-1*((p:Rat) / q) by rw [Rat.div_def,Rat.div_def];grind,rmul_pow,mone_pow,rdiv_pow,Rat.natCast_pow,Rat.natCast_pow]
  split
  ·rw [Rat.div_def,Rat.div_def];grind
  ·grind
theorem rpow_w(K k:Nat)(g:Bool)(A:Option Addr)(n c:Nat)(B:Option Addr)(m d:Nat)(x:Rat)(w:World)(h:RatW w K g (.slice A n c) (.slice B m d) x)(hK:K<=1048576)(hk:k<=16):
  Calls prog 53 #[Zg g A n c B m d,.int .i64 (k:Int)] w (NewRatS w (16*K+1) (x ^ k)):=by
 obtain⟨p,q,A',n',c',B',m',d',e1,e2,⟨xs,u,up⟩,⟨ys,v,vq⟩,hq,⟨l1,l2⟩,kp,kq,rfl⟩:=h
 cases e1;cases e2
 rw [<- rv_pow]
 have big:∀ t:Nat,t<2 ^ (32*K)->t ^ k<2 ^ (32*(16*K+1)):=fun t ht=>by
  have h1:t ^ k<=(2 ^ (32*K)) ^ k:=Nat.pow_le_pow_left (Nat.le_of_lt ht) k;rw [<- Nat.pow_mul] at h1;have h2:32*K*k<=32*K*16:=Nat.mul_le_mul_left _ hk
  exact Nat.lt_of_le_of_lt h1 (Nat.pow_lt_pow_right (by omega) (by omega))
 have kp':p<2 ^ (32*(16*K+1)):=Nat.lt_of_lt_of_le kp (Nat.pow_le_pow_right (by omega) (by omega));have kq':q<2 ^ (32*(16*K+1)):=Nat.lt_of_lt_of_le kq (Nat.pow_le_pow_right (by omega) (by omega));have bp:=big p kp;have bq:=big q kq;have hqk:0<q ^ k:=Nat.pow_pos hq
 obtain⟨S,hS⟩:∃ S,16*K+1=S:=⟨_,rfl⟩
 rw [hS] at kp' kq' bp bq ⊢;have P1:=fun W (hW:Below w.heap.size w W)=>power_all A n c k S xs W (by omega) (u.below hW) (by omega) (by rw [up];exact kp') (by rw [up];exact bp) (by omega) (by omega);have P2:=fun W (hW:Below w.heap.size w W)=>power_all B m d k S ys W (by omega) (v.below hW) (by omega) (by rw [vq];exact kq') (by rw [vq];exact bq) (by omega) (by omega);rw [up] at P1;rw [vq] at P2;refine rpoww_walk S k _ _ g A n c B m d _ _ w P1 P2 (fun A5 n5 c5 B6 m6 d6 W h5 h6=>(frac_plain _ A5 B6 n5 c5 m6 d6 S _ _ W h5 h6 hqk bp bq (by omega) (by omega)).mono fun _ _ h=>h.s) ?_
 have tm:((k:Int).tmod 2 == 1)=decide (k % 2=1):=by
  have e:(k:Int).tmod 2=((k % 2:Nat):Int):=rfl;rw [e,Bool.eq_iff_iff]
  simp only [beq_iff_eq,decide_eq_true_eq]
  omega
 cases g
 ·exact .inl ⟨rfl,rfl⟩
 ·rcases Nat.mod_two_eq_zero_or_one k with z | z
  ·exact .inr (.inr ⟨rfl,tm.trans (decide_eq_false (by omega)),by rw [decide_eq_false (by omega)];rfl⟩)
  ·exact .inr (.inl ⟨rfl,tm.trans (decide_eq_true z),by rw [decide_eq_true z];rfl⟩)
def In(i j:Int)(v:Rat):Prop:=i<=rndI (-1) v/\rndI 1 v<=j
theorem In.neg{i j:Int}{v:Rat}(h:In i j v):In (-j) (-i) (-v):=by
 have a:=rndI_neg (d:=1) (.inr rfl) v;have b:=rndI_neg (d:=-1) (.inl rfl) v;rw [show (-(1:Int))=-1 from rfl] at a;rw [show (-(-1:Int))=1 from rfl] at b;obtain⟨h1,h2⟩:=h
 exact⟨by omega,by omega⟩
theorem In.of_neg{i j:Int}{v:Rat}(h:In (-j) (-i) (-v)):In i j v:=by
 have k:=h.neg
 rwa [Int.neg_neg,Int.neg_neg,Rat.neg_neg] at k
theorem In.ne{i j:Int}{v:Rat}(h:In i j v)(hi:-(M:Int)<=i)(hj:j<=M):Ne i j:=by
 have a:=rndI_down v;have b:=rndI_up v;have c:=rndI_le v;obtain⟨h1,h2⟩:=h;unfold Ne
 omega
theorem In.nonempty{i j:Int}{v:Rat}(h:In i j v):i<=j:=by
 have c:=rndI_le v;obtain⟨h1,h2⟩:=h
 omega
theorem In.lo{i j:Int}{v:Rat}(h:In i j v)(h1:-(M:Int)<i):fl i<=v:=by
 have a:=rndI_down v
 exact (a.2.2 i h1 (by have:=h.1;omega)).1 h.1
theorem In.hi{i j:Int}{v:Rat}(h:In i j v)(h1:j<M):v<=fl j:=by
 have a:=rndI_up v
 exact (a.2.2 j (by have:=h.2;omega) h1).1 h.2
theorem pf_in{s1:Int}{x1:Rat}{o1:Bool}{s2:Int}{x2:Rat}{o2:Bool}{i j:Int}{v:Rat}(hs1:s1=0\/s1=-1)(hs2:s2=0\/s2=1)(hi:-(M:Int)<=i)(hj:j<=M)(h:In i j v)
  (l1:s1=0->x1<=v)(l2:s1=0->o1=true->x1≠v)(u1:s2=0->v<=x2)(u2:s2=0->o2=true->x2≠v):In (pf s1 x1 o1 s2 x2 o2 i j).1 (pf s1 x1 o1 s2 x2 o2 i j).2 v:=by
 have hM:=M_val;have hne:=h.ne hi hj;unfold Ne at hne;unfold pf;rw [if_neg (by omega)];unfold wg;have a:=rndI_down v;have b:=rndI_up v;have d1:s1=0->rndI (-1) x1<=rndI (-1) v:=fun e=>rndI_mono (.inl rfl) (l1 e);have d2:s1=0->rndI 1 x1<=rndI 1 v:=fun e=>rndI_mono (.inr rfl) (l1 e);have d3:s2=0->rndI (-1) v<=rndI (-1) x2:=fun e=>rndI_mono (.inl rfl) (u1 e);have d4:s2=0->rndI 1 v<=rndI 1 x2:=fun e=>rndI_mono (.inr rfl) (u1 e)
 have c1:¬ 0<ec (es i) (ex i) s2 x2:=by
  rw [ec_hi (by omega) hs2];unfold dn
  rcases hs2 with e | e
  ·rw [if_pos e];have:=d3 e;have:=h.1;omega
  ·rw [if_neg (by omega),e];omega
 have c2:¬ ec (es j) (ex j) s1 x1<0:=by
  rw [ec_lo (by omega) hs1];unfold up
  rcases hs1 with e | e
  ·rw [if_pos e];have:=d2 e;have:=h.2;omega
  ·rw [if_neg (by omega),e];omega
 have c3:¬ (ec (es i) (ex i) s2 x2=0/\o2=true):=by
  rintro⟨e,ho⟩
  rcases hs2 with z | z
  ·subst z;have k:=u2 rfl ho;have l:=u1 rfl
   by_cases hm:i=-(M:Int)
   ·rw [hm,es_min] at e;unfold ec at e;rw [if_neg (by omega),if_pos (by omega)] at e
    omega
   ·rw [es_mid (by omega) (by omega),ec_zero,ex_mid (by omega) (by omega)] at e;have q:=h.lo (by omega);unfold rc at e
    split at e
    ·omega
    ·split at e
     ·omega
     ·grind
  ·exact ec_hi_open (by omega) z e
 have c4:¬ (ec (es j) (ex j) s1 x1=0/\o1=true):=by
  rintro⟨e,ho⟩
  rcases hs1 with z | z
  ·subst z;have k:=l2 rfl ho;have l:=l1 rfl
   by_cases hm:j=M
   ·rw [hm,es_max] at e;unfold ec at e;rw [if_neg (by omega),if_neg (by omega)] at e
    omega
   ·rw [es_mid (by omega) (by omega),ec_zero,ex_mid (by omega) (by omega)] at e;have q:=h.hi (by omega);unfold rc at e
    split at e
    ·omega
    ·split at e
     ·omega
     ·grind
  ·exact ec_lo_open (by omega) z e
 rw [if_neg (by rintro (z | z | z | z);exact c1 z;exact c3 z;exact c2 z;exact c4 z),ec_lo_at (by omega) hs1,ec_hi_at (by omega) hs2]
 have e1:dn s1 x1<=rndI (-1) v:=by
  unfold dn
  rcases hs1 with e | e
  ·rw [if_pos e];exact d1 e
  ·rw [if_neg (by omega),e];omega
 have e2:rndI 1 v<=up s2 x2:=by
  unfold up
  rcases hs2 with e | e
  ·rw [if_pos e];exact d4 e
  ·rw [if_neg (by omega),e];omega
 have h1:=h.1;have h2:=h.2
 exact⟨by dsimp only;omega,by dsimp only;omega⟩
theorem In.hull{a b c d:Int}{v:Rat}(h:In a b v\/In c d v):In (min a c) (max b d) v:=by
 rcases h with h | h
 ·exact⟨by have:=h.1;omega,by have:=h.2;omega⟩
 ·exact⟨by have:=h.1;omega,by have:=h.2;omega⟩
section
attribute [local go_sem] run_store_float run_eqf
end
section
attribute [local go_sem] run_store_float
theorem not_gt{i j:Int}(hi:-(M:Int)<=i/\i<=M)(hj:-(M:Int)<=j/\j<=M)(h:¬ j<i):(FloatKind.f64.format.order (pat i) (pat j) == some Ordering.gt)=false:=by
 rw [order_pat hi.1 hi.2 hj.1 hj.2]
 rcases Int.lt_trichotomy i j with h2 | h2 | h2
 ·rw [Int.compare_eq_lt.2 h2];rfl
 ·rw [Int.compare_eq_eq.2 h2];rfl
 ·exact absurd h2 h
theorem not_lt'{i j:Int}(hi:-(M:Int)<=i/\i<=M)(hj:-(M:Int)<=j/\j<=M)(h:¬ i<j):(FloatKind.f64.format.order (pat i) (pat j) == some Ordering.lt)=false:=by
 rw [order_pat hi.1 hi.2 hj.1 hj.2]
 rcases Int.lt_trichotomy i j with h2 | h2 | h2
 ·exact absurd h2 h
 ·rw [Int.compare_eq_eq.2 h2];rfl
 ·rw [Int.compare_eq_gt.2 h2];rfl
theorem rcut_gt(i j pd pu qd qu:Nat)(w:World)(o1:FloatKind.f64.format.order i qd=some .gt):
  Rt 77 #[Zf i j,Zf pd pu,Zf qd qu,.bool false] (Zf 9218868437227405312 18442240474082181120) w:=by
 obtain⟨LB0,LG0_0,LG1_0,LG2_0,LR⟩:=bx4 w (Zv i j) 28 (Zv pd pu) 78 (Zv qd qu) 78 (Zv 0 0) 28;have LR0:=Hd (HasBlk.of (n:=2) LR.out rfl rfl);clear LR;have HE:=Hd emptyf
 go_enter func77,ntmps77
 go_wp2_with fail;refine cx (HE.out _) fun w1 hb1=>?_;have LB1:=stB LB0 hb1 LB0.out.size;have LR1:=stR LR0 hb1;have LG0_1:=stG LG0_0 hb1;have LG1_1:=stG LG1_0 hb1;have LG2_1:=stG LG2_0 hb1;clear LB0 LR0 LG0_0 LG1_0 LG2_0;clear hb1 HE;obtain⟨ha0,hf0,ha1,hf1⟩:=LR1.out.sf2;obtain⟨hk0,hk1⟩:=LR1.out.sc2 (.float .f64 9218868437227405312) (.float .f64 18442240474082181120);have F:=Hd (below_sets (w0:=w) (r:=(w.heap.size+3)) (by omega) [.float .f64 9218868437227405312,.float .f64 18442240474082181120] 0 _ LB1.out)
 simp [sets] at hk0 hk1
 go_wp2;refine bodyPost_ret (v:=Zf 9218868437227405312 18442240474082181120) (by simp [results,results77,go_sem,hk0,hk1]) rfl ?_
 exact⟨rfl,F.out⟩
theorem rcut_lt(i j pd pu qd qu:Nat)(w:World)(o1:(FloatKind.f64.format.order i qd == some Ordering.gt)=false)(o2:FloatKind.f64.format.order j pu=some .lt):
  Rt 77 #[Zf i j,Zf pd pu,Zf qd qu,.bool false] (Zf 9218868437227405312 18442240474082181120) w:=by
 obtain⟨LB0,LG0_0,LG1_0,LG2_0,LR⟩:=bx4 w (Zv i j) 28 (Zv pd pu) 78 (Zv qd qu) 78 (Zv 0 0) 28;have LR0:=Hd (HasBlk.of (n:=2) LR.out rfl rfl);clear LR;have HE:=Hd emptyf
 go_enter func77,ntmps77
 go_wp2_with fail;refine cx (HE.out _) fun w1 hb1=>?_;have LB1:=stB LB0 hb1 LB0.out.size;have LR1:=stR LR0 hb1;have LG0_1:=stG LG0_0 hb1;have LG1_1:=stG LG1_0 hb1;have LG2_1:=stG LG2_0 hb1;clear LB0 LR0 LG0_0 LG1_0 LG2_0;clear hb1 HE;obtain⟨ha0,hf0,ha1,hf1⟩:=LR1.out.sf2;obtain⟨hk0,hk1⟩:=LR1.out.sc2 (.float .f64 9218868437227405312) (.float .f64 18442240474082181120);have F:=Hd (below_sets (w0:=w) (r:=(w.heap.size+3)) (by omega) [.float .f64 9218868437227405312,.float .f64 18442240474082181120] 0 _ LB1.out)
 simp [sets] at hk0 hk1
 go_wp2;refine bodyPost_ret (v:=Zf 9218868437227405312 18442240474082181120) (by simp [results,results77,go_sem,hk0,hk1]) rfl ?_
 exact⟨rfl,F.out⟩
theorem rcut_in(i j pd pu qd qu a b:Nat)(w:World)(o1:(FloatKind.f64.format.order i qd == some Ordering.gt)=false)(o2:(FloatKind.f64.format.order j pu == some Ordering.lt)=false)(m1:∀ W ts t,(Builtin.max_ ts t (Zv i pd)).run prog W=.ok (.float .f64 a) W)(m2:∀ W ts t,(Builtin.min_ ts t (Zv j qu)).run prog W=.ok (.float .f64 b) W):
  Rt 77 #[Zf i j,Zf pd pu,Zf qd qu,.bool false] (Zf a b) w:=by
 obtain⟨LB0,LG0_0,LG1_0,LG2_0,LR⟩:=bx4 w (Zv i j) 28 (Zv pd pu) 78 (Zv qd qu) 78 (Zv 0 0) 28;have LR0:=Hd (HasBlk.of (n:=2) LR.out rfl rfl);clear LR
 go_enter func77,ntmps77
 go_wp2_with fail
 go_quiet (fail)
 have LB1:=Hd (below_drewN LB0.out nq);have LR1:=Hd (show HasBlk ((((((w.alloc (.cells (Zv i j) 28)).alloc (.cells (Zv pd pu) 78)).alloc (.cells (Zv qd qu) 78)).alloc (.cells (Zv 0 0) 28))).drewN nq) (w.heap.size+3) 28 2 from LR0.out);have LG0_1:=Hd (LG0_0.out.drewN nq);have LG1_1:=Hd (LG1_0.out.drewN nq);have LG2_1:=Hd (LG2_0.out.drewN nq);clear LB0 LR0 LG0_0 LG1_0 LG2_0
 obtain⟨W1,hW1⟩:∃ X,(((((w.alloc (.cells (Zv i j) 28)).alloc (.cells (Zv pd pu) 78)).alloc (.cells (Zv qd qu) 78)).alloc (.cells (Zv 0 0) 28))).drewN nq=X:=⟨_,rfl⟩
 rw [hW1] at LB1 LR1 LG0_1 LG1_1 LG2_1 ⊢;clear hW1;clear o1 o2;obtain⟨q0_0,q0_1⟩:=LG0_1.out.c2;obtain⟨q1_0,q1_1⟩:=LG1_1.out.c2;obtain⟨q2_0,q2_1⟩:=LG2_1.out.c2;obtain⟨ha0,hf0,ha1,hf1⟩:=LR1.out.sf2;obtain⟨hk0,hk1⟩:=LR1.out.sc2 (.float .f64 a) (.float .f64 b);have F:=Hd (below_sets (w0:=w) (r:=(w.heap.size+3)) (by omega) [.float .f64 a,.float .f64 b] 0 _ LB1.out)
 simp [sets] at hk0 hk1
 go_wp2;refine bodyPost_ret (v:=Zf a b) (by simp [results,results77,go_sem,hk0,hk1]) rfl ?_
 exact⟨rfl,F.out⟩
theorem rcut_any(i j pd pu qd qu:Int)(w:World)(hi:-(M:Int)<=i/\i<=M)(hj:-(M:Int)<=j/\j<=M)(h1:-(M:Int)<=pd/\pd<=M)(h2:-(M:Int)<=pu/\pu<=M)(h3:-(M:Int)<=qd/\qd<=M)(h4:-(M:Int)<=qu/\qu<=M):
  Calls prog 77 #[Zf (pat i) (pat j),Zf (pat pd) (pat pu),Zf (pat qd) (pat qu),.bool false] w
   fun e w'=>e=.returned (Zf (pat (ct i j pd pu qd qu).1) (pat (ct i j pd pu qd qu).2))/\Below w.heap.size w w':=by
 unfold ct
 by_cases c1:qd<i
 ·rw [if_pos (.inl c1),pat_max,pat_min]
  exact rcut_gt _ _ _ _ _ _ w (by rw [order_pat hi.1 hi.2 h3.1 h3.2,Int.compare_eq_gt.2 c1])
 ·by_cases c2:j<pu
  ·rw [if_pos (.inr c2),pat_max,pat_min]
   exact rcut_lt _ _ _ _ _ _ w (not_gt hi h3 c1) (by rw [order_pat hj.1 hj.2 h2.1 h2.2,Int.compare_eq_lt.2 c2])
  ·rw [if_neg (by omega)]
   exact rcut_in _ _ _ _ _ _ _ _ w (not_gt hi h3 c1) (not_lt' hj h2 c2) (fun W ts t=>run_maxf hi h1 W ts t) (fun W ts t=>run_minf hj h4 W ts t)
end
section
open Go.RowKit Ieee
theorem inf_word{x:Nat}(hx:L64 x)(h:rungOf x=M):double.write (.infinity (sgn x))=x:=by
 show double.word (sgn x) double.infRung=x
 rw [infRung_eq];have h1:=Is.word (sgn x) (r:=M) (Nat.le_refl _);have h2:=pat_cases (b:=double.word (sgn x) M) (by have:=h1.lt;omega);have h3:=pat_cases hx;have h4:=h1.idx
 obtain⟨b,hb⟩:∃ b,double.word (sgn x) M=b:=⟨_,rfl⟩
 rw [hb] at h2 h4 ⊢;rw [M_val] at h h4
 rcases h3 with ⟨a,b1,c,d⟩ | ⟨a,b1,c,d⟩
 ·rw [c] at h4
  simp only [Bool.false_eq_true,if_false] at h4
  omega
 ·rw [c] at h4
  simp only [if_true] at h4
  omega
theorem inf_pat{x:Nat}(hx:L64 x)(h:rungOf x=M):pat (idx x)=x:=by
 have h3:=pat_cases hx;rw [M_val] at *
 rcases h3 with ⟨a,b1,c,d⟩ | ⟨a,b1,c,d⟩
 ·rw [pat_nn (by omega)];omega
 ·rw [pat_neg (by omega)];omega
theorem add_inf_left{x y:Nat}(hx:L64 x)(h:rungOf x=M)(hy:rungOf y<=M)(hno:rungOf y=M->sgn x=sgn y):double.add x y=some (pat (idx x)):=by
 rw [inf_pat hx h];unfold Format.add;rw [read_inf h]
 by_cases h2:rungOf y=M
 ·rw [read_inf h2]
  simp only [Datum.sum]
  rw [if_pos (hno h2)]
  simp only [Option.map_some]
  rw [inf_word hx h]
 ·obtain⟨m,k,e,-,-⟩:=read_fin (show fin y from by unfold fin;omega);rw [e]
  simp only [Datum.sum,Option.map_some]
  rw [inf_word hx h]
theorem add_inf_right{x y:Nat}(hy:L64 y)(h:rungOf y=M)(hx:rungOf x<M):double.add x y=some (pat (idx y)):=by
 rw [inf_pat hy h];unfold Format.add;obtain⟨m,k,e,-,-⟩:=read_fin (show fin x from hx);rw [read_inf h,e]
 simp only [Datum.sum,Option.map_some]
 rw [inf_word hy h]
def ad(d i j:Int):Int:=if i=M\/i=-(M:Int) then i else if j=M\/j=-(M:Int) then j else rndI d (fl i+fl j)
theorem nud_sum{d:Int}(hd:d=-1\/d=1){s e:Nat}{n:Int}{j k:Int}(hs:Fl s (R n))(he:Fl e (n - R n))(hn:val j+val k=n):nud d (idx s) (idx e)=rndI d (fl j+fl k):=by
 rw [fl_add,hn];have h0:=idx_natAbs s;have hf:rungOf s<M:=hs.fin
 have e1:idx e<0↔n<R n:=by
  have h:=@val_lt_iff (idx e) 0;rw [val_zero,he.val] at h
  omega
 have e2:0<idx e↔R n<n:=by
  have h:=@val_lt_iff 0 (idx e);rw [val_zero,he.val] at h
  omega
 rcases hd with rfl | rfl
 ·rw [near_down hs.val (by omega) (by omega)];unfold nud
  by_cases h:n<R n
  ·rw [if_pos h,if_pos ⟨rfl,e1.2 h⟩]
  ·rw [if_neg h,if_neg (fun h'=>h (e1.1 h'.2)),if_neg (by omega)]
 ·rw [near_up hs.val (by omega) (by omega)];unfold nud
  by_cases h:R n<n
  ·rw [if_pos h,if_neg (by omega),if_pos ⟨rfl,e2.2 h⟩]
  ·rw [if_neg h,if_neg (by omega),if_neg (fun h'=>h (e2.1 h'.2))]
theorem not_great{x t T:Nat}(h:rungOf x<=(t+1)*2^52)(hT:T=52+t):(val (idx x)).natAbs<=2^T:=by
 rw [val_natAbs,idx_natAbs];have h1:mag (rungOf x)<=mag ((t+1)*2^52):=mag_le_iff.2 h;rw [mag_two_pow,<- Nat.pow_add] at h1;rw [hT];exact h1
theorem Fl_self{x:Nat}(hx:L64 x)(h:rungOf x<M):Fl x (val (idx x)):=⟨hx,h,rfl⟩
theorem great_ord{r:Nat}(h:r<=M):(r<=8660422083433463808/\(FloatKind.f64.format.order r 8660422083433463808=some .lt\/FloatKind.f64.format.order r 8660422083433463808=some .eq))\/(8660422083433463808<r/\FloatKind.f64.format.order r 8660422083433463808=some .gt):=by
 have hM:M=9218868437227405312:=rfl;have g1:rungOf 8660422083433463808=8660422083433463808/\idx 8660422083433463808=((8660422083433463808:Nat):Int):=rung_idx (by decide);have r1:=rung_idx (b:=r) (by omega)
 rcases Nat.lt_trichotomy r 8660422083433463808 with h1 | h1 | h1
 ·exact .inl ⟨by omega,.inl (ord_lt (by omega) (by omega) (by omega))⟩
 ·exact .inl ⟨by omega,.inr (ord_eq (by omega) (by omega) (by omega))⟩
 ·exact .inr ⟨h1,ord_gt (by omega) (by omega) (by omega)⟩
end
section
attribute [local go_sem] run_store_float run_frombits run_bitsof run_negf
def NewDy(w:World)(neg:Bool)(S:Nat)(x:Int)(e:Ending)(w':World):Prop:=
 ∃ A n c,e=.returned (.agg #[.bool neg,.slice A n c,.int .i64 x])/\U32s w' A n c (digs S)/\Below w.heap.size w w'
theorem part_walk(b e f S:Nat)(neg:Bool)(w:World)(hb:L64 b)(he:b / 4503599627370496 % 2048=e)(hff:b % 4503599627370496=f)(hn:(b / 9223372036854775808 == 1)=neg)(hS:S=if e=0 then f else f+4503599627370496):
  Calls prog 189 #[.float .f64 b] w (NewDy w neg S ((if e=0 then (e:Int) else (e:Int) - 1) - 1074)):=by
 have m1:=mask52_u64 hb;rw [hff] at m1
 have m2:bits .and .u64 ((b:Int) / 4503599627370496) 2047=(e:Int):=by
  have h:=mask11_u64 (x:=b / 4503599627370496) (by omega);rw [he,show ((b / 4503599627370496:Nat):Int)=(b:Int) / 4503599627370496 from by omega] at h
  exact h
 have m3:((b:Int) / 9223372036854775808 == 1)=neg:=by
  rw [<- hn,Bool.eq_iff_iff]
  simp only [beq_iff_eq]
  omega
 have ff:=fun W=>run_bitsof b W
 have hf2:f<4503599627370496:=by omega
 have he2:e<2048:=by omega
 have hor:=or_join' (i:=52) (x:=1) (y:=f) (by omega) (by omega) (by omega);rw [show ((1*2^52:Nat):Int)=4503599627370496 from rfl,show (f+1*2^52:Nat)=f+4503599627370496 from rfl] at hor;clear hff hn he
 by_cases h0:e=0
 ·subst h0;rw [if_pos rfl] at hS ⊢;subst hS;have HS:=Hd fun W=>nsmall_any S W (by omega);clear hor;obtain⟨LB0,LR⟩:=bx1 w #[.bool false,.slice none 0 0,.int .i64 0] 168;have LR0:=Hd (HasBlk.of (n:=3) LR.out rfl rfl);clear LR
  go_enter func189,ntmps189
  go_wp2_with fail;refine (HS.out _).mono ?_;rintro e w1 ⟨A,n,c,rfl,hu,hb1⟩;have LB1:=stB LB0 hb1 LB0.out.size;have LR1:=stR LR0 hb1;clear LB0 LR0;obtain⟨ha0,hf0,ha1,hf1,ha2,hf2⟩:=LR1.out.sf3;obtain⟨hk0,hk1,hk2⟩:=LR1.out.sc3 (.bool neg) (.slice A n c) (.int .i64 (-1074));have F:=Hd (below_sets (w0:=w) (r:=w.heap.size) (by omega) [.bool neg,.slice A n c,.int .i64 (-1074)] 0 _ LB1.out)
  simp [sets] at hk0 hk1 hk2
  have FU:=Hd (LR1.out.u32s hu [.bool neg,.slice A n c,.int .i64 (-1074)]);clear hu hb1 HS;go_wp2;refine bodyPost_ret (v:=.agg #[.bool neg,.slice A n c,.int .i64 (-1074)]) (by simp [results,results189,go_sem,hk0,hk1,hk2]) rfl ?_
  exact⟨A,n,c,rfl,FU.out,F.out⟩
 ·rw [if_neg h0] at hS ⊢;subst hS;have HS:=Hd fun W=>nsmall_any (f+4503599627370496) W (by omega)
  obtain⟨S,hS⟩:∃ S,f+4503599627370496=S:=⟨_,rfl⟩
  rw [hS] at HS hor ⊢
  have hei:(0:Int)<(e:Int):=by omega
  clear h0 hS;obtain⟨LB0,LR⟩:=bx1 w #[.bool false,.slice none 0 0,.int .i64 0] 168;have LR0:=Hd (HasBlk.of (n:=3) LR.out rfl rfl);clear LR
  go_enter func189,ntmps189
  go_wp2_with fail;refine (HS.out _).mono ?_;rintro e w1 ⟨A,n,c,rfl,hu,hb1⟩;have LB1:=stB LB0 hb1 LB0.out.size;have LR1:=stR LR0 hb1;clear LB0 LR0;obtain⟨ha0,hf0,ha1,hf1,ha2,hf2⟩:=LR1.out.sf3;obtain⟨hk0,hk1,hk2⟩:=LR1.out.sc3 (.bool neg) (.slice A n c) (.int .i64 ((e:Int) - 1 - 1074));have F:=Hd (below_sets (w0:=w) (r:=w.heap.size) (by omega) [.bool neg,.slice A n c,.int .i64 ((e:Int) - 1 - 1074)] 0 _ LB1.out)
  simp [sets] at hk0 hk1 hk2
  have FU:=Hd (LR1.out.u32s hu [.bool neg,.slice A n c,.int .i64 ((e:Int) - 1 - 1074)]);clear hu hb1 HS;go_wp2;refine bodyPost_ret (v:=.agg #[.bool neg,.slice A n c,.int .i64 ((e:Int) - 1 - 1074)]) (by simp [results,results189,go_sem,hk0,hk1,hk2]) rfl ?_
  exact⟨A,n,c,rfl,FU.out,F.out⟩
theorem part_any(b:Nat)(hb:L64 b)(hf:fin b):∃ (S:Nat) (x:Int),S<9007199254740992/\-1074<=x/\x<=971/\fl (idx b)=rv (sgn b) S 1*2^x/\∀ w,Calls prog 189 #[.float .f64 b] w (NewDy w (sgn b) S x):=by
 have hp:=fl_parts (b:=b) hf rfl rfl rfl
 have hn:(b / 9223372036854775808 == 1)=sgn b:=by
  unfold sgn;rw [Bool.eq_iff_iff]
  simp only [beq_iff_eq]
  omega
 refine⟨_,_,?_,?_,?_,?_,fun w=>part_walk b _ _ _ (sgn b) w hb rfl rfl hn rfl⟩
 ·split<;>omega
 ·split<;>omega
 ·split<;>omega
 ·by_cases h0:b / 4503599627370496 % 2048=0
  ·rw [if_pos h0,if_pos h0];exact hp.2.2.2 h0
  ·rw [if_neg h0,if_neg h0];exact hp.2.2.1 (by omega)
end
section
attribute [local go_sem] run_store_float run_frombits run_bitsof run_negf
theorem sum_left(n1:Bool)(A1:Option Addr)(m1 c1 S1:Nat)(e1:Int)(n2:Bool)(A2:Option Addr)(m2 c2 S2:Nat)(e2:Int)(w:World)(h2:U32s w A2 m2 c2 (digs S2))(hm:m1=0):Calls prog 201 #[.agg #[.bool n1,.slice A1 m1 c1,.int .i64 e1],.agg #[.bool n2,.slice A2 m2 c2,.int .i64 e2]] w (NewDy w n2 S2 e2):=by
 subst hm;have H2:=Hd h2;clear h2;obtain⟨LB0,LG0_0,LG1_0,LR⟩:=bx3 w #[.bool n1,.slice A1 0 c1,.int .i64 e1] 168 #[.bool n2,.slice A2 m2 c2,.int .i64 e2] 168 #[.bool false,.slice none 0 0,.int .i64 0] 168;have LR0:=Hd (HasBlk.of (n:=3) LR.out rfl rfl);clear LR;clear LB0 LG0_0 LG1_0 LR0
 go_enter func201,ntmps201
 go_wp2;refine bodyPost_ret (v:=.agg #[.bool n2,.slice A2 m2 c2,.int .i64 e2]) (by simp [results,results201,go_sem]) rfl ?_
 exact have b:=(((below_alloc w _).alloc (by simp<;>omega) _).alloc (by simp<;>omega) _);⟨A2,m2,c2,rfl,H2.out.below b,b⟩
theorem sum_right(n1:Bool)(A1:Option Addr)(m1 c1 S1:Nat)(e1:Int)(n2:Bool)(A2:Option Addr)(m2 c2 S2:Nat)(e2:Int)(w:World)(h1:U32s w A1 m1 c1 (digs S1))(hm1:0<m1)(hm:m2=0):Calls prog 201 #[.agg #[.bool n1,.slice A1 m1 c1,.int .i64 e1],.agg #[.bool n2,.slice A2 m2 c2,.int .i64 e2]] w (NewDy w n1 S1 e1):=by
 subst hm
 have hq1:((m1:Int) == 0)=false:=by simp;omega
 have H1:=Hd h1;clear h1 hm1;obtain⟨LB0,LG0_0,LG1_0,LR⟩:=bx3 w #[.bool n1,.slice A1 m1 c1,.int .i64 e1] 168 #[.bool n2,.slice A2 0 c2,.int .i64 e2] 168 #[.bool false,.slice none 0 0,.int .i64 0] 168;have LR0:=Hd (HasBlk.of (n:=3) LR.out rfl rfl);clear LR;clear LB0 LG0_0 LG1_0 LR0
 go_enter func201,ntmps201
 go_wp2;refine bodyPost_ret (v:=.agg #[.bool n1,.slice A1 m1 c1,.int .i64 e1]) (by simp [results,results201,go_sem]) rfl ?_
 exact have b:=(((below_alloc w _).alloc (by simp<;>omega) _).alloc (by simp<;>omega) _);⟨A1,m1,c1,rfl,H1.out.below b,b⟩
theorem sum_two(sw:Bool)(n1:Bool)(A1:Option Addr)(m1 c1 S1:Nat)(e1:Int)(n2:Bool)(A2:Option Addr)(m2 c2 S2:Nat)(e2:Int)(k:Nat)(w:World)(h1:U32s w A1 m1 c1 (digs S1))(h2:U32s w A2 m2 c2 (digs S2))(hS1:0<S1)(hS2:0<S2)(hle:e1<=e2)(hsw:sw=true->e1<e2)(hk:e2=e1+k)(he1:-1000000<=e1/\e1<=1000000)(he2:-1000000<=e2/\e2<=1000000)(hb1:blen S1<=500000)(hb2:blen S2+k<=500000):
  Calls prog 201 #[cond sw (.agg #[.bool n2,.slice A2 m2 c2,.int .i64 e2]) (.agg #[.bool n1,.slice A1 m1 c1,.int .i64 e1]),cond sw (.agg #[.bool n1,.slice A1 m1 c1,.int .i64 e1]) (.agg #[.bool n2,.slice A2 m2 c2,.int .i64 e2])] w (NewDy w (dsum n1 S1 n2 (S2*2^k)).1 (dsum n1 S1 n2 (S2*2^k)).2 e1):=by
 have hq1:((m1:Int) == 0)=false:=by
  have:=digs_len_pos hS1 h1.len
  simp;omega
 have hq2:((m2:Int) == 0)=false:=by
  have:=digs_len_pos hS2 h2.len
  simp;omega
 have hek:e2 - e1=(k:Int):=by omega
 have hbq:=blen_shl S2 k hS2
 obtain⟨T,hT⟩:∃ T,S2*2^k=T:=⟨_,rfl⟩
 have HSH:=Hd fun W (hW:Below w.heap.size w W)=>nshl_any A2 m2 c2 k (digs S2) W (h2.below hW) (wlen_digs_le (K:=16384) (by omega)) (by rw [num_digs];omega);rw [num_digs,hT] at HSH;rw [hT] at hbq ⊢;have HP:=Hd h1;have HBP:=Hd hb1;have HBT:=Hd (show blen T<=500000 by omega);have HADD:=Hd fun W (B:Option Addr) (mB cB:Nat) (hW:Below w.heap.size w W) (hB:U32s W B mB cB (digs T))=>nadd_any A1 B m1 c1 mB cB (digs S1) (digs T) W (h1.below hW) hB (wlen_digs_le (K:=16383) (by omega)) (wlen_digs_le (K:=16383) (by omega));have HCMP:=Hd fun W (B:Option Addr) (mB cB:Nat) (hW:Below w.heap.size w W) (hB:U32s W B mB cB (digs T))=>ncmp_any A1 B m1 c1 mB cB (digs S1) (digs T) W (h1.below hW) hB;have HSB1:=Hd fun (hle:T<=S1) W (B:Option Addr) (mB cB:Nat) (hW:Below w.heap.size w W) (hB:U32s W B mB cB (digs T))=>nsub_any A1 B m1 c1 mB cB (digs S1) (digs T) W (h1.below hW) hB (wlen_digs_le (K:=16384) (by omega)) (wlen_digs_le (K:=16384) (by omega)) (by rw [num_digs,num_digs];exact hle);have HSB2:=Hd fun (hle:S1<=T) W (B:Option Addr) (mB cB:Nat) (hW:Below w.heap.size w W) (hB:U32s W B mB cB (digs T))=>nsub_any B A1 mB cB m1 c1 (digs T) (digs S1) W hB (h1.below hW) (wlen_digs_le (K:=16384) (by omega)) (wlen_digs_le (K:=16384) (by omega)) (by rw [num_digs,num_digs];exact hle);rw [num_digs,num_digs] at HADD HCMP HSB1 HSB2
 have hee:e1 - e2<=2000000/\-2000000<=e1 - e2:=by omega
 have hef:e2 - e1<=2000000/\-2000000<=e2 - e1:=by omega
 obtain⟨ng,hng⟩:∃ b,(dsum n1 S1 n2 T).1=b:=⟨_,rfl⟩
 obtain⟨Sg,hsg⟩:∃ b,(dsum n1 S1 n2 T).2=b:=⟨_,rfl⟩
 rw [hng,hsg];have HDS:=Hd (show dsum n1 S1 n2 T=(ng,Sg) from by rw [<- hng,<- hsg]);clear hng hsg;clear h1 h2 hS1 hS2 hT hbq hb1 hb2 hk
 cases sw
 all_goals
  dsimp only [cond]
  first
  | (replace hsw:=hsw rfl
     clear hle;obtain⟨LB0,LG0_0,LG1_0,LR⟩:=bx3 w #[.bool n2,.slice A2 m2 c2,.int .i64 e2] 168 #[.bool n1,.slice A1 m1 c1,.int .i64 e1] 168 #[.bool false,.slice none 0 0,.int .i64 0] 168;have LR0:=Hd (HasBlk.of (n:=3) LR.out rfl rfl);clear LR
     go_enter func201,ntmps201
     obtain⟨q0_0,q0_1,q0_2⟩:=LG0_0.out.c3;obtain⟨q1_0,q1_1,q1_2⟩:=LG1_0.out.c3;have hf00:=LG0_0.out.frozen 0;have hf01:=LG0_0.out.frozen 1;have hf02:=LG0_0.out.frozen 2;have hf10:=LG1_0.out.frozen 0;have hf11:=LG1_0.out.frozen 1;have hf12:=LG1_0.out.frozen 2
     go_upto_region 7 with fail
     clear q0_0 q0_1 q0_2 q1_0 q1_1 q1_2 hf00 hf01 hf02 hf10 hf11 hf12;clear LB0 LR0 LG0_0 LG1_0;obtain⟨LB0,LG0_0,LG1_0,LR⟩:=bx3 w #[.bool n1,.slice A1 m1 c1,.int .i64 e1] 168 #[.bool n2,.slice A2 m2 c2,.int .i64 e2] 168 #[.bool false,.slice none 0 0,.int .i64 0] 168;have LR0:=Hd (HasBlk.of (n:=3) LR.out rfl rfl);clear LR;obtain⟨q0_0,q0_1,q0_2⟩:=LG0_0.out.c3
     obtain⟨q1_0,q1_1,q1_2⟩:=LG1_0.out.c3)
  | (clear hsw
     obtain⟨LB0,LG0_0,LG1_0,LR⟩:=bx3 w #[.bool n1,.slice A1 m1 c1,.int .i64 e1] 168 #[.bool n2,.slice A2 m2 c2,.int .i64 e2] 168 #[.bool false,.slice none 0 0,.int .i64 0] 168;have LR0:=Hd (HasBlk.of (n:=3) LR.out rfl rfl);clear LR
     go_enter func201,ntmps201
     obtain⟨q0_0,q0_1,q0_2⟩:=LG0_0.out.c3
     obtain⟨q1_0,q1_1,q1_2⟩:=LG1_0.out.c3)
  go_wp2_with fail;refine (HSH.out _ LB0.out).mono ?_;rintro e w2 ⟨A3,m3,c3,rfl,hu3,hbb2⟩;have LB1:=stB LB0 hbb2 LB0.out.size;have LR1:=stR LR0 hbb2;have LG0_1:=stG LG0_0 hbb2;have LG1_1:=stG LG1_0 hbb2;clear LB0 LR0 LG0_0 LG1_0;clear hbb2 q0_0 q0_1 q0_2 q1_0 q1_1 q1_2;obtain⟨q1_0,q1_1,q1_2⟩:=LG1_1.out.c3;have hf1:=LG1_1.out.frozen 1
  go_upto_region 8 with fail
  clear q1_0 q1_1 q1_2 hf1;have hu3s:=hu3.carry LG1_1.out rfl 1 (.slice A3 m3 c3);have LB2:=Hd (LB1.out.setCell (p:=⟨(w.heap.size+1),1,none⟩) (show w.heap.size<=(w.heap.size+1) by omega) (.slice A3 m3 c3));have LR2:=Hd (show HasBlk (w2.setCell ⟨(w.heap.size+1),1,none⟩ (.slice A3 m3 c3)) (w.heap.size+2) 168 3 from LR1.out.other (by omega) 1 [.slice A3 m3 c3]);have LG0_2:=Hd (show Blk (w2.setCell ⟨(w.heap.size+1),1,none⟩ (.slice A3 m3 c3)) w.heap.size 168 #[.bool n1,.slice A1 m1 c1,.int .i64 e1] from LG0_1.out.other (by omega) 1 [.slice A3 m3 c3]);have LG1_2:=Hd (LG1_1.out.set 1 (.slice A3 m3 c3));clear LB1 LR1 LG0_1 LG1_1
  obtain⟨V3,hV3⟩:∃ X,(w2.setCell ⟨(w.heap.size+1),1,none⟩ (.slice A3 m3 c3))=X:=⟨_,rfl⟩
  rw [hV3] at hu3s LB2 LR2 LG0_2 LG1_2 ⊢;have HU3:=Hd hu3s;clear hV3 hu3 hu3s HSH
  by_cases hs:n1=n2
  ·subst hs;have HN:=Hd (show ng=n1/\Sg=S1+T from by have h:=HDS.out;unfold dsum at h;rw [if_pos rfl] at h;cases h;exact⟨rfl,rfl⟩);clear HDS;obtain⟨q0_0,q0_1,q0_2⟩:=LG0_2.out.c3;obtain⟨q1_0,q1_1,q1_2⟩:=LG1_2.out.c3;go_wp2_with fail;refine (HADD.out _ _ _ _ LB2.out HU3.out).mono ?_;rintro e w4 ⟨A4,m4,c4,rfl,hu4,hbb4⟩;have LB3:=stB LB2 hbb4 LB2.out.size;have LR3:=stR LR2 hbb4;have LG0_3:=stG LG0_2 hbb4;have LG1_3:=stG LG1_2 hbb4;clear LB2 LR2 LG0_2 LG1_2;clear hbb4 q0_0 q0_1 q0_2 q1_0 q1_1 q1_2;obtain⟨q0_0,q0_1,q0_2⟩:=LG0_3.out.c3;have hf1:=LG0_3.out.frozen 1;have hu4s:=hu4.carry LG0_3.out rfl 1 (.slice A4 m4 c4)
   go_upto_region 10 with fail
   clear q0_0 q0_1 q0_2 hf1;have LB4:=Hd (LB3.out.setCell (p:=⟨w.heap.size,1,none⟩) (show w.heap.size<=w.heap.size by omega) (.slice A4 m4 c4));have LR4:=Hd (show HasBlk (w4.setCell ⟨w.heap.size,1,none⟩ (.slice A4 m4 c4)) (w.heap.size+2) 168 3 from LR3.out.other (by omega) 1 [.slice A4 m4 c4]);have LG0_4:=Hd (LG0_3.out.set 1 (.slice A4 m4 c4));have LG1_4:=Hd (show Blk (w4.setCell ⟨w.heap.size,1,none⟩ (.slice A4 m4 c4)) (w.heap.size+1) 168 #[.bool n1,.slice A3 m3 c3,.int .i64 e2] from LG1_3.out.other (by omega) 1 [.slice A4 m4 c4]);clear LB3 LR3 LG0_3 LG1_3
   obtain⟨V4,hV4⟩:∃ X,(w4.setCell ⟨w.heap.size,1,none⟩ (.slice A4 m4 c4))=X:=⟨_,rfl⟩
   rw [hV4] at hu4s LB4 LR4 LG0_4 LG1_4 ⊢;clear hV4 hu4;obtain⟨q0_0,q0_1,q0_2⟩:=LG0_4.out.c3;obtain⟨ha0,hf0,ha1,hf1,ha2,hf2⟩:=LR4.out.sf3;obtain⟨hk0,hk1,hk2⟩:=LR4.out.sc3 (.bool n1) (.slice A4 m4 c4) (.int .i64 e1);have F:=Hd (below_sets (w0:=w) (r:=(w.heap.size+2)) (by omega) [.bool n1,.slice A4 m4 c4,.int .i64 e1] 0 _ LB4.out)
   simp [sets] at hk0 hk1 hk2
   have FU:=Hd (LR4.out.u32s hu4s [.bool n1,.slice A4 m4 c4,.int .i64 e1]);clear hu4s;go_wp2;refine bodyPost_ret (v:=.agg #[.bool n1,.slice A4 m4 c4,.int .i64 e1]) (by simp [results,results201,go_sem,hk0,hk1,hk2]) rfl ?_
   exact⟨A4,m4,c4,by rw [HN.out.1],by rw [HN.out.2];exact FU.out,F.out⟩
  ·have hs2:(n1 == n2)=false:=by simp [hs]
   obtain⟨q0_0,q0_1,q0_2⟩:=LG0_2.out.c3;obtain⟨q1_0,q1_1,q1_2⟩:=LG1_2.out.c3;go_wp2_with fail;refine (HCMP.out _ _ _ _ LB2.out HU3.out).mono ?_;rintro e w3 ⟨rfl,z,hz⟩
   have hbb3:Below V3.heap.size V3 w3:=by rw [hz];exact below_drewN (Below.refl _ _) z
   have LB3:=stB LB2 hbb3 LB2.out.size;have LR3:=stR LR2 hbb3;have LG0_3:=stG LG0_2 hbb3;have LG1_3:=stG LG1_2 hbb3;clear LB2 LR2 LG0_2 LG1_2;have HU3b:=Hd (HU3.out.below hbb3);clear hz hbb3 HU3 q0_0 q0_1 q0_2 q1_0 q1_1 q1_2
   by_cases hlt:S1<T
   ·have HN:=Hd (show ng=n2/\Sg=T - S1 from by have h:=HDS.out;unfold dsum at h;rw [if_neg hs,if_pos hlt] at h;cases h;exact⟨rfl,rfl⟩);rw [cmp3_lt hlt];clear HDS hs;obtain⟨q0_0,q0_1,q0_2⟩:=LG0_3.out.c3;obtain⟨q1_0,q1_1,q1_2⟩:=LG1_3.out.c3;have hf0:=LG0_3.out.frozen 0
    go_upto_region 13 with fail
    clear q0_0 q0_1 q0_2 q1_0 q1_1 q1_2 hf0;have hu5:=HU3b.out.carry LG0_3.out rfl 0 (.bool n2);have LB4:=Hd (LB3.out.setCell (p:=⟨w.heap.size,0,none⟩) (show w.heap.size<=w.heap.size by omega) (.bool n2));have LR4:=Hd (show HasBlk (w3.setCell ⟨w.heap.size,0,none⟩ (.bool n2)) (w.heap.size+2) 168 3 from LR3.out.other (by omega) 0 [.bool n2]);have LG0_4:=Hd (LG0_3.out.set 0 (.bool n2));have LG1_4:=Hd (show Blk (w3.setCell ⟨w.heap.size,0,none⟩ (.bool n2)) (w.heap.size+1) 168 #[.bool n2,.slice A3 m3 c3,.int .i64 e2] from LG1_3.out.other (by omega) 0 [.bool n2]);clear LB3 LR3 LG0_3 LG1_3
    obtain⟨V5,hV5⟩:∃ X,(w3.setCell ⟨w.heap.size,0,none⟩ (.bool n2))=X:=⟨_,rfl⟩
    rw [hV5] at hu5 LB4 LR4 LG0_4 LG1_4 ⊢;clear hV5;obtain⟨q0_0,q0_1,q0_2⟩:=LG0_4.out.c3;obtain⟨q1_0,q1_1,q1_2⟩:=LG1_4.out.c3;have hf01:=LG0_4.out.frozen 1;have hf11:=LG1_4.out.frozen 1
    go_upto_region 14 with fail
    clear q0_0 q0_1 q0_2 q1_0 q1_1 q1_2 hf01 hf11;have hu6:=hu5.carry LG0_4.out rfl 1 (.slice A3 m3 c3);have LB5:=Hd (LB4.out.setCell (p:=⟨w.heap.size,1,none⟩) (show w.heap.size<=w.heap.size by omega) (.slice A3 m3 c3));have LR5:=Hd (show HasBlk (V5.setCell ⟨w.heap.size,1,none⟩ (.slice A3 m3 c3)) (w.heap.size+2) 168 3 from LR4.out.other (by omega) 1 [.slice A3 m3 c3]);have LG0_5:=Hd (LG0_4.out.set 1 (.slice A3 m3 c3));have LG1_5:=Hd (show Blk (V5.setCell ⟨w.heap.size,1,none⟩ (.slice A3 m3 c3)) (w.heap.size+1) 168 #[.bool n2,.slice A3 m3 c3,.int .i64 e2] from LG1_4.out.other (by omega) 1 [.slice A3 m3 c3]);clear LB4 LR4 LG0_4 LG1_4
    obtain⟨V6,hV6⟩:∃ X,(V5.setCell ⟨w.heap.size,1,none⟩ (.slice A3 m3 c3))=X:=⟨_,rfl⟩
    rw [hV6] at hu6 LB5 LR5 LG0_5 LG1_5 ⊢;clear hV6;have hu7:=hu6.carry LG1_5.out rfl 1 (.slice A1 m1 c1);have LB6:=Hd (LB5.out.setCell (p:=⟨(w.heap.size+1),1,none⟩) (show w.heap.size<=(w.heap.size+1) by omega) (.slice A1 m1 c1));have LR6:=Hd (show HasBlk (V6.setCell ⟨(w.heap.size+1),1,none⟩ (.slice A1 m1 c1)) (w.heap.size+2) 168 3 from LR5.out.other (by omega) 1 [.slice A1 m1 c1]);have LG0_6:=Hd (show Blk (V6.setCell ⟨(w.heap.size+1),1,none⟩ (.slice A1 m1 c1)) w.heap.size 168 #[.bool n2,.slice A3 m3 c3,.int .i64 e1] from LG0_5.out.other (by omega) 1 [.slice A1 m1 c1]);have LG1_6:=Hd (LG1_5.out.set 1 (.slice A1 m1 c1));clear LB5 LR5 LG0_5 LG1_5
    obtain⟨V7,hV7⟩:∃ X,(V6.setCell ⟨(w.heap.size+1),1,none⟩ (.slice A1 m1 c1))=X:=⟨_,rfl⟩
    rw [hV7] at hu7 LB6 LR6 LG0_6 LG1_6 ⊢;clear hV7 hu5 hu6;have HU7:=Hd hu7;clear hu7;obtain⟨q0_0,q0_1,q0_2⟩:=LG0_6.out.c3;obtain⟨q1_0,q1_1,q1_2⟩:=LG1_6.out.c3;go_wp2_with fail;refine (HSB2.out (Nat.le_of_lt hlt) _ _ _ _ LB6.out HU7.out).mono ?_;rintro e w4 ⟨A4,m4,c4,rfl,hu4,hbb4⟩;have LB7:=stB LB6 hbb4 LB6.out.size;have LR7:=stR LR6 hbb4;have LG0_7:=stG LG0_6 hbb4;have LG1_7:=stG LG1_6 hbb4;clear LB6 LR6 LG0_6 LG1_6;clear hbb4 q0_0 q0_1 q0_2 q1_0 q1_1 q1_2;obtain⟨q0_0,q0_1,q0_2⟩:=LG0_7.out.c3;have hf1:=LG0_7.out.frozen 1;have hu4s:=hu4.carry LG0_7.out rfl 1 (.slice A4 m4 c4)
    go_upto_region 15 with fail
    clear q0_0 q0_1 q0_2 hf1;have LB8:=Hd (LB7.out.setCell (p:=⟨w.heap.size,1,none⟩) (show w.heap.size<=w.heap.size by omega) (.slice A4 m4 c4));have LR8:=Hd (show HasBlk (w4.setCell ⟨w.heap.size,1,none⟩ (.slice A4 m4 c4)) (w.heap.size+2) 168 3 from LR7.out.other (by omega) 1 [.slice A4 m4 c4]);have LG0_8:=Hd (LG0_7.out.set 1 (.slice A4 m4 c4));have LG1_8:=Hd (show Blk (w4.setCell ⟨w.heap.size,1,none⟩ (.slice A4 m4 c4)) (w.heap.size+1) 168 #[.bool n2,.slice A1 m1 c1,.int .i64 e2] from LG1_7.out.other (by omega) 1 [.slice A4 m4 c4]);clear LB7 LR7 LG0_7 LG1_7
    obtain⟨V4,hV4⟩:∃ X,(w4.setCell ⟨w.heap.size,1,none⟩ (.slice A4 m4 c4))=X:=⟨_,rfl⟩
    rw [hV4] at hu4s LB8 LR8 LG0_8 LG1_8 ⊢;clear hV4 hu4;obtain⟨q0_0,q0_1,q0_2⟩:=LG0_8.out.c3;obtain⟨ha0,hf0,ha1,hf1,ha2,hf2⟩:=LR8.out.sf3;obtain⟨hk0,hk1,hk2⟩:=LR8.out.sc3 (.bool n2) (.slice A4 m4 c4) (.int .i64 e1);have F:=Hd (below_sets (w0:=w) (r:=(w.heap.size+2)) (by omega) [.bool n2,.slice A4 m4 c4,.int .i64 e1] 0 _ LB8.out)
    simp [sets] at hk0 hk1 hk2
    have FU:=Hd (LR8.out.u32s hu4s [.bool n2,.slice A4 m4 c4,.int .i64 e1]);clear hu4s;go_wp2;refine bodyPost_ret (v:=.agg #[.bool n2,.slice A4 m4 c4,.int .i64 e1]) (by simp [results,results201,go_sem,hk0,hk1,hk2]) rfl ?_
    exact⟨A4,m4,c4,by rw [HN.out.1],by rw [HN.out.2];exact FU.out,F.out⟩
   ·have HN:=Hd (show ng=n1/\Sg=S1 - T from by have h:=HDS.out;unfold dsum at h;rw [if_neg hs,if_neg hlt] at h;cases h;exact⟨rfl,rfl⟩);clear HDS hs;have hc3:¬ cmp3 S1 T<0:=fun h=>hlt (cmp3_neg.1 h)
    obtain⟨r,hr⟩:∃ r,cmp3 S1 T=r:=⟨_,rfl⟩
    rw [hr] at hc3 ⊢;clear hr;obtain⟨q0_0,q0_1,q0_2⟩:=LG0_3.out.c3;obtain⟨q1_0,q1_1,q1_2⟩:=LG1_3.out.c3;go_wp2_with fail;refine (HSB1.out (Nat.le_of_not_lt hlt) _ _ _ _ LB3.out HU3b.out).mono ?_;rintro e w4 ⟨A4,m4,c4,rfl,hu4,hbb4⟩;have LB4:=stB LB3 hbb4 LB3.out.size;have LR4:=stR LR3 hbb4;have LG0_4:=stG LG0_3 hbb4;have LG1_4:=stG LG1_3 hbb4;clear LB3 LR3 LG0_3 LG1_3;clear hbb4 q0_0 q0_1 q0_2 q1_0 q1_1 q1_2;obtain⟨q0_0,q0_1,q0_2⟩:=LG0_4.out.c3;have hf1:=LG0_4.out.frozen 1;have hu4s:=hu4.carry LG0_4.out rfl 1 (.slice A4 m4 c4)
    go_upto_region 15 with fail
    clear q0_0 q0_1 q0_2 hf1;have LB5:=Hd (LB4.out.setCell (p:=⟨w.heap.size,1,none⟩) (show w.heap.size<=w.heap.size by omega) (.slice A4 m4 c4));have LR5:=Hd (show HasBlk (w4.setCell ⟨w.heap.size,1,none⟩ (.slice A4 m4 c4)) (w.heap.size+2) 168 3 from LR4.out.other (by omega) 1 [.slice A4 m4 c4]);have LG0_5:=Hd (LG0_4.out.set 1 (.slice A4 m4 c4));have LG1_5:=Hd (show Blk (w4.setCell ⟨w.heap.size,1,none⟩ (.slice A4 m4 c4)) (w.heap.size+1) 168 #[.bool n2,.slice A3 m3 c3,.int .i64 e2] from LG1_4.out.other (by omega) 1 [.slice A4 m4 c4]);clear LB4 LR4 LG0_4 LG1_4
    obtain⟨V4,hV4⟩:∃ X,(w4.setCell ⟨w.heap.size,1,none⟩ (.slice A4 m4 c4))=X:=⟨_,rfl⟩
    rw [hV4] at hu4s LB5 LR5 LG0_5 LG1_5 ⊢;clear hV4 hu4;obtain⟨q0_0,q0_1,q0_2⟩:=LG0_5.out.c3;obtain⟨ha0,hf0,ha1,hf1,ha2,hf2⟩:=LR5.out.sf3;obtain⟨hk0,hk1,hk2⟩:=LR5.out.sc3 (.bool n1) (.slice A4 m4 c4) (.int .i64 e1);have F:=Hd (below_sets (w0:=w) (r:=(w.heap.size+2)) (by omega) [.bool n1,.slice A4 m4 c4,.int .i64 e1] 0 _ LB5.out)
    simp [sets] at hk0 hk1 hk2
    have FU:=Hd (LR5.out.u32s hu4s [.bool n1,.slice A4 m4 c4,.int .i64 e1]);clear hu4s;go_wp2;refine bodyPost_ret (v:=.agg #[.bool n1,.slice A4 m4 c4,.int .i64 e1]) (by simp [results,results201,go_sem,hk0,hk1,hk2]) rfl ?_
    exact⟨A4,m4,c4,by rw [HN.out.1],by rw [HN.out.2];exact FU.out,F.out⟩
end
section
attribute [local go_sem] run_store_float run_frombits run_bitsof run_negf
def dsF(n1:Bool)(S1:Nat)(e1:Int)(n2:Bool)(S2:Nat)(e2:Int):Bool × Nat × Int:=
 if S1=0 then (n2,S2,e2) else if S2=0 then (n1,S1,e1)
 else if e2<e1 then ((dsum n2 S2 n1 (S1*2^(e1 - e2).toNat)).1,(dsum n2 S2 n1 (S1*2^(e1 - e2).toNat)).2,e2)
 else ((dsum n1 S1 n2 (S2*2^(e2 - e1).toNat)).1,(dsum n1 S1 n2 (S2*2^(e2 - e1).toNat)).2,e1)
theorem sum_any(n1:Bool)(A1:Option Addr)(m1 c1 S1:Nat)(e1:Int)(n2:Bool)(A2:Option Addr)(m2 c2 S2:Nat)(e2:Int)(w:World)(h1:U32s w A1 m1 c1 (digs S1))(h2:U32s w A2 m2 c2 (digs S2))
  (he1:-1000000<=e1/\e1<=1000000)(he2:-1000000<=e2/\e2<=1000000)(hb1:(blen S1:Int)+(e1 - e2).toNat<=500000)(hb2:(blen S2:Int)+(e2 - e1).toNat<=500000):
  Calls prog 201 #[.agg #[.bool n1,.slice A1 m1 c1,.int .i64 e1],.agg #[.bool n2,.slice A2 m2 c2,.int .i64 e2]] w (NewDy w (dsF n1 S1 e1 n2 S2 e2).1 (dsF n1 S1 e1 n2 S2 e2).2.1 (dsF n1 S1 e1 n2 S2 e2).2.2):=by
 unfold dsF
 by_cases h0:S1=0
 ·rw [if_pos h0];refine sum_left n1 A1 m1 c1 S1 e1 n2 A2 m2 c2 S2 e2 w h2 ?_;rw [<- h1.len,digs_length_eq_zero];exact h0
 ·rw [if_neg h0];have hp1:=digs_len_pos (S:=S1) (by omega) h1.len
  by_cases h0':S2=0
  ·rw [if_pos h0'];refine sum_right n1 A1 m1 c1 S1 e1 n2 A2 m2 c2 S2 e2 w h1 hp1 ?_;rw [<- h2.len,digs_length_eq_zero];exact h0'
  ·rw [if_neg h0']
   by_cases hlt:e2<e1
   ·rw [if_pos hlt]
    exact sum_two true n2 A2 m2 c2 S2 e2 n1 A1 m1 c1 S1 e1 (e1 - e2).toNat w h2 h1 (by omega) (by omega) (by omega) (fun _=>hlt) (by omega) he2 he1 (by omega) (by omega)
   ·rw [if_neg hlt]
    exact sum_two false n1 A1 m1 c1 S1 e1 n2 A2 m2 c2 S2 e2 (e2 - e1).toNat w h1 h2 (by omega) (by omega) (by omega) (fun h=>by cases h) (by omega) he1 he2 (by omega) (by omega)
theorem dsF_val(n1:Bool)(S1:Nat)(e1:Int)(n2:Bool)(S2:Nat)(e2:Int):
  rv (dsF n1 S1 e1 n2 S2 e2).1 (dsF n1 S1 e1 n2 S2 e2).2.1 1*2^(dsF n1 S1 e1 n2 S2 e2).2.2=rv n1 S1 1*2^e1+rv n2 S2 1*2^e2:=by
 unfold dsF
 by_cases h0:S1=0
 ·rw [if_pos h0,h0,rv_zero];grind
 ·rw [if_neg h0]
  by_cases h0':S2=0
  ·rw [if_pos h0',h0',rv_zero];grind
  ·rw [if_neg h0']
   by_cases hlt:e2<e1
   ·rw [if_pos hlt]
    dsimp only
    rw [dsum_val,<- rv_shift n1 S1 (e1 - e2).toNat e2 e1 (by omega)];grind
   ·rw [if_neg hlt]
    dsimp only
    rw [dsum_val,<- rv_shift n2 S2 (e2 - e1).toNat e1 e2 (by omega)];grind
theorem dsF_bound(n1:Bool)(S1:Nat)(e1:Int)(n2:Bool)(S2:Nat)(e2:Int)(P:Nat)(h1:blen S1+(e1 - e2).toNat<=P)(h2:blen S2+(e2 - e1).toNat<=P):
  blen (dsF n1 S1 e1 n2 S2 e2).2.1<=P+1/\((dsF n1 S1 e1 n2 S2 e2).2.2=e1\/(dsF n1 S1 e1 n2 S2 e2).2.2=e2):=by
 unfold dsF
 by_cases h0:S1=0
 ·rw [if_pos h0];exact⟨by dsimp only;omega,.inr rfl⟩
 ·rw [if_neg h0]
  by_cases h0':S2=0
  ·rw [if_pos h0'];exact⟨by dsimp only;omega,.inl rfl⟩
  ·rw [if_neg h0']
   by_cases hlt:e2<e1
   ·rw [if_pos hlt]
    exact⟨dsum_blen _ _ _ _ _ (by omega) (by rw [blen_shl _ _ (by omega)];omega),.inr rfl⟩
   ·rw [if_neg hlt]
    exact⟨dsum_blen _ _ _ _ _ (by omega) (by rw [blen_shl _ _ (by omega)];omega),.inl rfl⟩
theorem rv_exact(n:Bool)(S:Nat)(x:Int):rv n (S*2^x.toNat) (2^(-x).toNat)=rv n S 1*2^x:=by
 have h:=rv_scale n (p:=S) (q:=1) (by omega) x;rw [Nat.one_mul] at h;exact h
theorem to_any(d:Int)(neg:Bool)(A:Option Addr)(n c S:Nat)(x:Int)(w:World)(hu:U32s w A n c (digs S))(hd:d=-1\/d=1)(hb:blen S<=524288)(hx1:-1000000<=x)(hx2:x<=1099511627776):
  Rt 190 #[.agg #[.bool neg,.slice A n c,.int .i64 x],.int .i64 d] (.float .f64 (pat (rndI d (rv neg S 1*2^x)))) w:=by
 have HO:=Hd (show ∀ W,Below w.heap.size w W->Rt 230 #[.int .i64 d,.bool neg,.slice A n c,.int .i64 x,.bool false] (.float .f64 (pat (rndI d (rv neg S 1*2^x)))) W from fun W hW=>by
  rcases Nat.eq_zero_or_pos S with h0 | h0
  ·subst h0;rw [rv_zero,Rat.zero_mul,rndI_zero hd,pat_zero];refine cy (of_nought d neg false A n c (digs 0) x W (hu.below hW) (num_digs 0)) ?_
   exact⟨rfl,Below.refl _ _⟩
  ·rw [<- rv_exact]
   exact of_pos d neg false A n c S _ _ (digs S) x W (hu.below hW) (num_digs S) h0 (wlen_blen hb) hd (Dg.exact S x) (Nat.two_pow_pos _) (fun h=>by cases h) hx1 hx2)
 obtain⟨r,hr⟩:∃ r,pat (rndI d (rv neg S 1*2^x))=r:=⟨_,rfl⟩
 rw [hr] at HO ⊢;clear hu hd hr;obtain⟨LB0,LG0_0⟩:=bx1 w #[.bool neg,.slice A n c,.int .i64 x] 168
 go_enter func190,ntmps190
 obtain⟨q0_0,q0_1,q0_2⟩:=LG0_0.out.c3;go_wp2_with fail;refine cx (HO.out _ LB0.out) fun w1 hb1=>?_;have LB1:=stB LB0 hb1 LB0.out.size;have LG0_1:=stG LG0_0 hb1;clear LB0 LG0_0;clear hb1 HO q0_0 q0_1 q0_2;go_wp2
 go_ret
 exact⟨rfl,LB1.out⟩
end
end Go.Proofs.YthlmlmfebpjgdaaGreatDoor
