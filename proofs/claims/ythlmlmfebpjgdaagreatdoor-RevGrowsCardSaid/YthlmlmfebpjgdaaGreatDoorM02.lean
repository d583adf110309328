/-
Lemmas for the statement: Val Pat SmallT FromT IntT PatT IvT Read6 GoA GoB FlT OrdT BothT Lies TzT IosT GrwT RCmp Rnd RndB MadeT NegTrue RCmpT EndT ECmpT.
-/
import Derived.Test.YthlmlmfebpjgdaaGreatDoorM01
import Derived.Laws.Externs
import Derived.Deep.DeepCutAuto
import Derived.Deep.CutRange
import Derived.Lib.TrailingZeros
set_option linter.unusedSimpArgs false
set_option linter.unusedVariables false
set_option maxHeartbeats 12800000
namespace Go.Proofs.YthlmlmfebpjgdaaGreatDoor
section
open Ieee
def rungOf(b:Nat):Nat:=b % 2^63
def sgn(b:Nat):Bool:=b / 2^63 % 2 == 1
def idx(b:Nat):Int:=if sgn b then -(rungOf b:Int) else rungOf b
def val(i:Int):Int:=if i<0 then -(mag i.natAbs:Int) else mag i.natAbs
def real(b:Nat):Prop:=rungOf b<=M
def fin(b:Nat):Prop:=rungOf b<M
theorem fin.real{b:Nat}(h:fin b):real b:=Nat.le_of_lt h
theorem val_nat(r:Nat):val (r:Int)=mag r:=by
 unfold val;rw [if_neg (by omega),Int.natAbs_natCast]
theorem val_neg(i:Int):val (-i)=-val i:=by
 unfold val;rw [Int.natAbs_neg]
 rcases Int.lt_trichotomy i 0 with h | h | h
 ·rw [if_neg (by omega),if_pos h];omega
 ·subst h;rfl
 ·rw [if_pos (by omega),if_neg (by omega)]
theorem val_zero:val 0=0:=rfl
theorem val_lt_iff{i j:Int}:val i<val j↔i<j:=by
 unfold val;have h1:=@mag_lt_iff i.natAbs j.natAbs;have h2:=@mag_lt_iff j.natAbs i.natAbs;have h3:=@mag_eq_zero i.natAbs;have h4:=@mag_eq_zero j.natAbs
 split<;>split<;>omega
theorem val_le_iff{i j:Int}:val i<=val j↔i<=j:=by have:=@val_lt_iff j i;omega
theorem val_neg_iff{i:Int}:val i<0↔i<0:=by have:=@val_lt_iff i 0;rwa [val_zero] at this
theorem val_natAbs(i:Int):(val i).natAbs=mag i.natAbs:=by
 unfold val;split<;>omega
theorem idx_natAbs(b:Nat):(idx b).natAbs=rungOf b:=by unfold idx;split<;>omega
theorem val_idx(b:Nat):val (idx b)=if sgn b then -(mag (rungOf b):Int) else mag (rungOf b):=by
 unfold idx
 split
 ·rw [val_neg,val_nat]
 ·rw [val_nat]
theorem signed_eq(s:Bool)(m k:Nat):signed s m k=if s then -((m*2^k:Nat):Int) else ((m*2^k:Nat):Int):=by
 unfold signed;rw [Nat.shiftLeft_eq]
theorem read_fin{b:Nat}(h:fin b):∃ m k:Nat,double.read b=.number (sgn b) m (-1074+(k:Int))/\m*2^k=mag (rungOf b)/\(k=0\/2^52<=m)/\m<2^53:=by
 unfold fin rungOf M at h;unfold Format.read;rw [signWeight_eq,binade_eq,infRung_eq,leastPlace_eq]
 dsimp only
 unfold rungOf sgn
 by_cases h1:b % 2^63<2^52
 ·rw [if_pos h1]
  exact⟨_,0,rfl,by rw [mag_small h1,Nat.pow_zero,Nat.mul_one],.inl rfl,by omega⟩
 ·rw [if_neg h1,if_pos (show b % 2^63<M from h)];refine⟨_,b % 2^63 / 2^52 - 1,rfl,?_,.inr (by omega),by omega⟩;unfold mag;rw [if_neg h1]
theorem read_inf{b:Nat}(h:rungOf b=M):double.read b=.infinity (sgn b):=by
 unfold rungOf M at h;unfold Format.read;rw [signWeight_eq,binade_eq,infRung_eq,leastPlace_eq]
 dsimp only
 rw [if_neg (by omega),if_neg (by unfold M;omega),if_pos (show b % 2^63=M from h)]
 rfl
theorem read_nan{b:Nat}(h:M<rungOf b):double.read b=.nan (sgn b) (rungOf b - M):=by
 unfold rungOf M at h;unfold Format.read;rw [signWeight_eq,binade_eq,infRung_eq,leastPlace_eq]
 dsimp only
 rw [if_neg (by omega),if_neg (by unfold M;omega),if_neg (by unfold M;omega)]
 rfl
theorem read_val{b:Nat}{m k:Nat}(h:m*2^k=mag (rungOf b)):signed (sgn b) m k=val (idx b):=by
 rw [signed_eq,val_idx,h]
theorem signed_split(s:Bool)(m a c:Nat):signed s m (a+c)=signed s m a*2^c:=by
 rw [signed_eq,signed_eq,Nat.pow_add,<- Nat.mul_assoc]
 split
 ·rw [Int.natCast_mul,Int.neg_mul];simp
 ·rw [Int.natCast_mul];simp
theorem compare_scale(a b:Int)(k:Nat):compare (a*2^k) (b*2^k)=compare a b:=by
 have hp:(0:Int)<2^k:=by exact_mod_cast Nat.two_pow_pos k
 rcases Int.lt_trichotomy a b with h | h | h
 ·rw [Int.compare_eq_lt.2 h,Int.compare_eq_lt.2 (Int.mul_lt_mul_of_pos_right h hp)]
 ·subst h;rw [Int.compare_eq_eq.2 rfl,Int.compare_eq_eq.2 rfl]
 ·rw [Int.compare_eq_gt.2 h,Int.compare_eq_gt.2 (Int.mul_lt_mul_of_pos_right h hp)]
theorem compare_val(i j:Int):compare (val i) (val j)=compare i j:=by
 rcases Int.lt_trichotomy i j with h | h | h
 ·rw [Int.compare_eq_lt.2 h,Int.compare_eq_lt.2 (val_lt_iff.2 h)]
 ·subst h;rw [Int.compare_eq_eq.2 rfl,Int.compare_eq_eq.2 rfl]
 ·rw [Int.compare_eq_gt.2 h,Int.compare_eq_gt.2 (val_lt_iff.2 h)]
theorem order_real{x y:Nat}(hx:real x)(hy:real y):double.order x y=some (compare (idx x) (idx y)):=by
 unfold Format.order;have ax:=idx_natAbs x;have ay:=idx_natAbs y
 have sx:idx x=if sgn x then -(rungOf x:Int) else rungOf x:=rfl
 have sy:idx y=if sgn y then -(rungOf y:Int) else rungOf y:=rfl
 have hM:0<M:=by decide
 unfold real at hx hy
 rcases Nat.lt_or_ge (rungOf x) M with fx | fx<;>rcases Nat.lt_or_ge (rungOf y) M with fy | fy
 ·obtain⟨m,k,e,hm,_⟩:=read_fin fx;obtain⟨n,l,e',hn,_⟩:=read_fin fy;rw [e,e']
  simp only [Datum.order]
  congr 1
  rw [<- compare_val (idx x),<- read_val hm,<- read_val hn]
  rcases Nat.le_total k l with h | h
  ·rw [show min (-1074+(k:Int)) (-1074+(l:Int))=-1074+(k:Int) from by omega,show (-1074+(k:Int) - (-1074+(k:Int))).toNat=0 from by omega,show (-1074+(l:Int) - (-1074+(k:Int))).toNat=l - k from by omega];rw [<- compare_scale _ _ k,<- signed_split,<- signed_split,Nat.zero_add,Nat.sub_add_cancel h]
  ·rw [show min (-1074+(k:Int)) (-1074+(l:Int))=-1074+(l:Int) from by omega,show (-1074+(l:Int) - (-1074+(l:Int))).toNat=0 from by omega,show (-1074+(k:Int) - (-1074+(l:Int))).toNat=k - l from by omega];rw [<- compare_scale _ _ l,<- signed_split,<- signed_split,Nat.zero_add,Nat.sub_add_cancel h]
 ·obtain⟨m,k,e,hm,_⟩:=read_fin fx;rw [e,read_inf (by omega)]
  simp only [Datum.order]
  congr 1;symm
  cases h:sgn y
  ·simp [h] at sy ⊢;rw [Int.compare_eq_lt];omega
  ·simp [h] at sy ⊢;rw [Int.compare_eq_gt];omega
 ·obtain⟨m,k,e,hm,_⟩:=read_fin fy;rw [e,read_inf (by omega)]
  simp only [Datum.order]
  congr 1;symm
  cases h:sgn x
  ·simp [h] at sx ⊢;rw [Int.compare_eq_gt];omega
  ·simp [h] at sx ⊢;rw [Int.compare_eq_lt];omega
 ·rw [read_inf (by omega),read_inf (by omega)]
  simp only [Datum.order]
  congr 1;symm
  cases h:sgn x<;>cases h':sgn y<;>simp [h,h'] at sx sy ⊢
  ·omega
  ·rw [show compare 1 0=Ordering.gt from rfl,Int.compare_eq_gt];omega
  ·rw [show compare 0 1=Ordering.lt from rfl,Int.compare_eq_lt];omega
  ·omega
theorem order_nan_left{x:Nat}(y:Nat)(hx:M<rungOf x):double.order x y=none:=by
 unfold Format.order;rw [read_nan hx];rfl
theorem order_nan_right(x:Nat){y:Nat}(hy:M<rungOf y):double.order x y=none:=by
 unfold Format.order;rw [read_nan hy];cases double.read x<;>rfl
end
section
open Go.RowKit
def pat(i:Int):Nat:=if i<0 then 9223372036854775808+i.natAbs else i.natAbs
theorem M_val:M=9218868437227405312:=rfl
theorem pat_cases{b:Nat}(hb:b<18446744073709551616):(b<9223372036854775808/\rungOf b=b/\sgn b=false/\idx b=(b:Int))\/(9223372036854775808<=b/\rungOf b=b - 9223372036854775808/\sgn b=true/\idx b=9223372036854775808 - (b:Int)):=by
 have e:(2:Nat)^63=9223372036854775808:=rfl
 rcases Nat.lt_or_ge b 9223372036854775808 with h | h
 ·left
  have h1:rungOf b=b:=by unfold rungOf;rw [e];omega
  have h2:sgn b=false:=by unfold sgn;rw [e,show b / 9223372036854775808 % 2=0 from by omega];rfl
  refine⟨h,h1,h2,?_⟩;unfold idx;rw [h2,h1];rfl
 ·right
  have h1:rungOf b=b - 9223372036854775808:=by unfold rungOf;rw [e];omega
  have h2:sgn b=true:=by unfold sgn;rw [e,show b / 9223372036854775808 % 2=1 from by omega];rfl
  refine⟨h,h1,h2,?_⟩;unfold idx;rw [h2,h1,if_pos rfl];omega
theorem pat_lt{i:Int}(h0:-(M:Int)<=i)(h1:i<=M):pat i<18446744073709551616:=by
 rw [M_val] at *;unfold pat;split<;>omega
theorem pat_neg{i:Int}(h:i<0):pat i=9223372036854775808+i.natAbs:=if_pos h
theorem pat_nn{i:Int}(h:¬ i<0):pat i=i.natAbs:=if_neg h
theorem idx_pat{i:Int}(h0:-(M:Int)<=i)(h1:i<=M):idx (pat i)=i:=by
 have h:=pat_lt h0 h1;rw [M_val] at *;have:=pat_cases h
 by_cases hi:i<0
 ·rw [pat_neg hi] at *;omega
 ·rw [pat_nn hi] at *;omega
theorem rung_pat{i:Int}(h0:-(M:Int)<=i)(h1:i<=M):rungOf (pat i)=i.natAbs:=by
 rw [<- idx_natAbs,idx_pat h0 h1]
theorem pat_max:pat M=9218868437227405312:=by decide
theorem pat_min:pat (-(M:Int))=18442240474082181120:=by decide
theorem pat_zero:pat 0=0:=rfl
theorem idx_bounds{b:Nat}(h:rungOf b<=M):-(M:Int)<=idx b/\idx b<=M:=by
 have:=idx_natAbs b;omega
def pl(b:Nat):Nat:=if b=9223372036854775808 then 0 else if M<rungOf b then 9221120237041090561 else b
theorem pl_real{b:Nat}(hb:b<18446744073709551616)(h:rungOf b<=M):pl b=pat (idx b):=by
 have:=pat_cases hb;rw [M_val] at *;unfold pl;rw [M_val]
 split
 ·rename_i e
  have h0:idx b=0:=by omega
  rw [h0];rfl
 ·rw [if_neg (by omega)]
  by_cases hi:idx b<0
  ·rw [pat_neg hi];omega
  ·rw [pat_nn hi];omega
def snd(lo hi:Nat):Bool:=decide (rungOf lo<=M/\rungOf hi<=M/\idx lo<=idx hi/\idx lo<M/\-(M:Int)<idx hi)
def rd(lo hi:Nat):Int × Int:=if snd lo hi then (idx lo,idx hi) else ((M:Int),-(M:Int))
def Iv(i j:Int):Prop:=(-(M:Int)<=i/\i<=j/\j<=M/\i<M/\-(M:Int)<j)\/(i=M/\j=-(M:Int))
theorem Iv.lo{i j:Int}(h:Iv i j):-(M:Int)<=i/\i<=M:=by unfold Iv at h;rw [M_val] at *;omega
theorem Iv.hi{i j:Int}(h:Iv i j):-(M:Int)<=j/\j<=M:=by unfold Iv at h;rw [M_val] at *;omega
theorem Iv.none:Iv M (-(M:Int)):=.inr ⟨rfl,rfl⟩
theorem rd_iv(lo hi:Nat):Iv (rd lo hi).1 (rd lo hi).2:=by
 unfold rd
 split
 ·rename_i h;have h:=of_decide_eq_true h;obtain⟨h1,h2,h3,h4,h5⟩:=h;have:=idx_bounds h1;have:=idx_bounds h2
  exact .inl ⟨by omega,h3,by omega,h4,h5⟩
 ·exact Iv.none
theorem rd_pat{i j:Int}(h:Iv i j):rd (pat i) (pat j)=(i,j):=by
 have h1:=h.lo;have h2:=h.hi;unfold rd snd;rw [rung_pat h1.1 h1.2,rung_pat h2.1 h2.2,idx_pat h1.1 h1.2,idx_pat h2.1 h2.2];unfold Iv at h
 split
 ·rfl
 ·rename_i hh
  simp only [decide_eq_true_eq] at hh
  rcases h with h | h
  ·omega
  ·rw [h.1,h.2]
end
section
open Go.RowKit
end
section
open Go.RowKit
def fl(i:Int):Rat:=(val i:Rat)*2^(-1074:Int)
theorem rv_one(neg:Bool)(s k:Nat):rv neg s 1*2^((k:Int) - 1074)=((if neg then -((s*2^k:Nat):Int) else ((s*2^k:Nat):Int):Int):Rat)*2^(-1074:Int):=by
 rw [show ((k:Int) - 1074)=(k:Int)+(-1074) from by omega,zpow_add,zpow_nat];unfold rv;have h1:((1:Nat):Rat)=1:=rfl;have h2:∀ x:Rat,x / ((1:Nat):Rat)=x:=fun x=>div_eq (by rw [h1];decide) (by rw [h1,Rat.mul_one]);rw [h2]
 cases neg
 ·simp only [Bool.false_eq_true,if_false]
  rw [Rat.intCast_natCast,Rat.natCast_mul];grind
 ·simp only [if_true]
  rw [Rat.intCast_neg,Rat.intCast_natCast,Rat.natCast_mul];grind
theorem fl_parts{b e f:Nat}{neg:Bool}(hf:fin b)(he:b / 4503599627370496 % 2048=e)(hff:b % 4503599627370496=f)(hn:sgn b=neg):
  e<2047/\f<4503599627370496/\(0<e->fl (idx b)=rv neg (f+4503599627370496) 1*2^((e:Int) - 1 - 1074))/\(e=0->fl (idx b)=rv neg f 1*2^((e:Int) - 1074)):=by
 unfold fin rungOf M at hf
 have e1:b % 2^63 / 2^52=e:=by omega
 have e2:b % 2^63 % 2^52=f:=by omega
 refine⟨by omega,by omega,fun h=>?_,fun h=>?_⟩
 ·rw [show (e:Int) - 1 - 1074=((e - 1:Nat):Int) - 1074 from by omega,rv_one];unfold fl;have e0:(2:Nat)^52=4503599627370496:=rfl
  have e3:mag (b % 2^63)=(f+4503599627370496)*2^(e - 1):=by
   unfold mag;rw [if_neg (show ¬ b % 2^63<2^52 from by omega),e1,e2,e0,Nat.add_comm 4503599627370496 f]
  rw [val_idx,hn];unfold rungOf;rw [e3]
 ·subst h;rw [show ((0:Nat):Int) - 1074=((0:Nat):Int) - 1074 from rfl,rv_one];unfold fl;rw [val_idx,hn];unfold rungOf;rw [mag_small (by omega),show b % 2^63=f from by omega,Nat.pow_zero,Nat.mul_one]
end
section
open Go.RowKit
end
section
open Go.RowKit
theorem size_i{b:Nat}(hb:b<18446744073709551616):bits .andNot .u64 (b:Int) 9223372036854775808=((rungOf b:Nat):Int):=by
 have:=u64_andNot_nat b 9223372036854775808 hb (by omega);rw [show (18446744073709551615 - 9223372036854775808:Nat)=2^63 - 1 from rfl,Nat.and_two_pow_sub_one_eq_mod] at this
 exact this
end
section
open Go.RowKit
end
section
open Go.RowKit
end
section
open Go.RowKit
theorem run_frombits(b:Nat)(w:World):(callFunc 74 #[.int .u64 (b:Int)]).run Tryz.prog w=.ok (.value (.float .f64 b)) w:=by
 rw [run_callFunc_extern (e:=Extern.MathFloatBits.float64frombits) Tryz.func74 (by kernel_rfl) (by kernel_rfl) (by kernel_rfl) (by kernel_rfl)]
 rfl
theorem run_bitsof(b:Nat)(w:World):(callFunc 73 #[.float .f64 b]).run Tryz.prog w=.ok (.value (.int .u64 (b:Int))) w:=by
 rw [run_callFunc_extern (e:=Extern.MathFloatBits.float64bits) Tryz.func73 (by kernel_rfl) (by kernel_rfl) (by kernel_rfl) (by kernel_rfl)]
 rfl
end
section
open Go.RowKit
theorem inf_pos(w:World):Calls Tryz.prog 19 #[.int .i64 1] w fun e w'=>e=.returned (.float .f64 9218868437227405312)/\w=w':=by
 have hf:∀ W:World,(callFunc 74 #[.int .u64 9218868437227405312]).run Tryz.prog W=.ok (.value (.float .f64 9218868437227405312)) W:=fun W=>run_frombits 9218868437227405312 W
 go_enter Tryz.func19,Tryz.ntmps19
 go_wp2
 go_ret
 exact⟨rfl,rfl⟩
theorem inf_neg(w:World):Calls Tryz.prog 19 #[.int .i64 (-1)] w fun e w'=>e=.returned (.float .f64 18442240474082181120)/\w=w':=by
 have hf:∀ W:World,(callFunc 74 #[.int .u64 18442240474082181120]).run Tryz.prog W=.ok (.value (.float .f64 18442240474082181120)) W:=fun W=>run_frombits 18442240474082181120 W
 go_enter Tryz.func19,Tryz.ntmps19
 go_wp2
 go_ret
 exact⟨rfl,rfl⟩
theorem plainf(b:Nat)(w:World)(hb:b<18446744073709551616)(hr:rungOf b<=M):Calls Tryz.prog 171 #[.float .f64 b] w fun e w'=>e=.returned (.float .f64 (pat (idx b)))/\w=w':=by
 have ho:FloatKind.f64.format.order b 0=some (compare (idx b) (idx 0)):=order_real hr (by show rungOf 0<=M;decide);rw [show idx 0=0 from by decide] at ho;have hp:=pl_real hb hr
 by_cases h:idx b=0
 ·have hq:(FloatKind.f64.format.order b 0 == some Ordering.eq)=true:=by rw [ho,h];rfl
  rw [h,pat_zero];clear ho hp h hr
  go_enter Tryz.func171,Tryz.ntmps171
  go_wp2
  go_ret
  exact⟨rfl,rfl⟩
 ·have hq:(FloatKind.f64.format.order b 0 == some Ordering.eq)=false:=by
   rw [ho]
   rcases Int.lt_trichotomy (idx b) 0 with h1 | h1 | h1
   ·rw [show compare (idx b) 0=.lt from Int.compare_eq_lt.2 h1];rfl
   ·exact absurd h1 h
   ·rw [show compare (idx b) 0=.gt from Int.compare_eq_gt.2 h1];rfl
  have e:pat (idx b)=b:=by
   rw [<- hp];unfold pl;have:=pat_cases hb;rw [if_neg (by omega),if_neg (by omega)]
  rw [e];clear ho hp h hr e
  go_enter Tryz.func171,Tryz.ntmps171
  go_wp2
  go_ret
  exact⟨rfl,rfl⟩
theorem soundf(x y:Nat)(w:World)(hx:x<18446744073709551616)(hy:y<18446744073709551616):Calls Tryz.prog 170 (Zv x y) w fun e w'=>e=.returned (.bool (snd x y))/\w=w':=by
 have H1:=Hd inf_pos;have H2:=Hd inf_neg;have hM:M=9218868437227405312:=rfl
 have n1:idx 9218868437227405312=M:=by decide
 have n2:idx 18442240474082181120=-(M:Int):=by decide
 have r1:real 9218868437227405312:=by show rungOf _<=M;decide
 have r2:real 18442240474082181120:=by show rungOf _<=M;decide
 by_cases hx':rungOf x<=M
 ·by_cases hy':rungOf y<=M
  ·have ho:FloatKind.f64.format.order x y=some (compare (idx x) (idx y)):=order_real hx' hy';have h2:FloatKind.f64.format.order x 9218868437227405312=some (compare (idx x) (idx 9218868437227405312)):=order_real hx' r1;have h3:FloatKind.f64.format.order y 18442240474082181120=some (compare (idx y) (idx 18442240474082181120)):=order_real hy' r2;rw [n1] at h2;rw [n2] at h3;have bx:=idx_bounds hx';have bY:=idx_bounds hy'
   by_cases h:idx y<idx x
   ·rw [show compare (idx x) (idx y)=.gt from Int.compare_eq_gt.2 h] at ho;have hs:snd x y=false:=decide_eq_false (by omega);rw [hs];clear h2 h3 n1 n2 r1 r2 bx bY h hs hx' hy' hM
    go_enter Tryz.func170,Tryz.ntmps170
    go_wp2
    go_ret
    exact⟨rfl,rfl⟩
   ·have hle:compare (idx x) (idx y)=.lt\/compare (idx x) (idx y)=.eq:=by
     rcases Int.lt_trichotomy (idx x) (idx y) with h1 | h1 | h1
     ·exact .inl (Int.compare_eq_lt.2 h1)
     ·exact .inr (by rw [h1];exact Int.compare_eq_eq.2 rfl)
     ·exact absurd h1 h
    by_cases hm:idx x=M
    ·rw [show compare (idx x) (M:Int)=.eq from by rw [hm];exact Int.compare_eq_eq.2 rfl] at h2;have hs:snd x y=false:=decide_eq_false (by omega);rw [hs];clear h3 n1 n2 r1 r2 bx bY h hs hx' hy' hM hm
     rcases hle with e | e<;>rw [e] at ho<;>clear e
     all_goals
      go_enter Tryz.func170,Tryz.ntmps170
      go_wp2_with fail;refine (H1.out _).mono ?_;rintro e w1 ⟨rfl,rfl⟩;go_wp2
      go_ret
      exact⟨rfl,rfl⟩
    ·rw [show compare (idx x) (M:Int)=.lt from Int.compare_eq_lt.2 (by omega)] at h2
     by_cases hn:idx y=-(M:Int)
     ·rw [show compare (idx y) (-(M:Int))=.eq from by rw [hn];exact Int.compare_eq_eq.2 rfl] at h3;have hs:snd x y=false:=decide_eq_false (by omega);rw [hs];clear n1 n2 r1 r2 bx bY h hs hx' hy' hM hm hn
      rcases hle with e | e<;>rw [e] at ho<;>clear e
      all_goals
       go_enter Tryz.func170,Tryz.ntmps170
       go_wp2_with fail;refine (H1.out _).mono ?_;rintro e w1 ⟨rfl,rfl⟩;go_wp2_with fail;refine (H2.out _).mono ?_;rintro e w1 ⟨rfl,rfl⟩;go_wp2
       go_ret
       exact⟨rfl,rfl⟩
     ·rw [show compare (idx y) (-(M:Int))=.gt from Int.compare_eq_gt.2 (by omega)] at h3;have hs:snd x y=true:=decide_eq_true (by omega);rw [hs];clear n1 n2 r1 r2 bx bY h hs hx' hy' hM hm hn
      rcases hle with e | e<;>rw [e] at ho<;>clear e
      all_goals
       go_enter Tryz.func170,Tryz.ntmps170
       go_wp2_with fail;refine (H1.out _).mono ?_;rintro e w1 ⟨rfl,rfl⟩;go_wp2_with fail;refine (H2.out _).mono ?_;rintro e w1 ⟨rfl,rfl⟩;go_wp2
       go_ret
       exact⟨rfl,rfl⟩
  ·have ho:FloatKind.f64.format.order x y=none:=order_nan_right x (by omega);have hs:snd x y=false:=decide_eq_false (by omega);rw [hs];clear n1 n2 r1 r2 hs hx' hy' hM
   go_enter Tryz.func170,Tryz.ntmps170
   go_wp2
   go_ret
   exact⟨rfl,rfl⟩
 ·have ho:FloatKind.f64.format.order x y=none:=order_nan_left y (by omega);have hs:snd x y=false:=decide_eq_false (by omega);rw [hs];clear n1 n2 r1 r2 hs hx' hM
  go_enter Tryz.func170,Tryz.ntmps170
  go_wp2
  go_ret
  exact⟨rfl,rfl⟩
end
section
open Go.RowKit
theorem run_store_float(P:Program)(w:World)(a:Addr)(m:Mode)(k:FloatKind)(b:Nat):(store a (.float k b) m).run P w=stored P w a (.float k b) m:=run_store P w a _ m rfl
attribute [local go_sem] run_store_float
theorem emptyf(w:World):Rt 76 #[] (Zf 9218868437227405312 18442240474082181120) w:=by
 have H1:=Hd inf_pos;have H2:=Hd inf_neg;obtain⟨LB0,LR⟩:=bx1 w (Zv 0 0) 28;have LR0:=Hd (HasBlk.of (n:=2) LR.out rfl rfl);clear LR;have ba:=LB0.out;clear LB0 LR0 ba
 go_enter Tryz.func76,Tryz.ntmps76
 go_wp2_with fail;refine (H1.out _).mono ?_;rintro e w1 ⟨rfl,rfl⟩;go_wp2_with fail;refine (H2.out _).mono ?_;rintro e w1 ⟨rfl,rfl⟩;go_wp2;refine bodyPost_ret (v:=Zf 9218868437227405312 18442240474082181120) (by simp [results,Tryz.results76,go_sem]) rfl ?_
 exact have b:=(below_alloc w _);⟨rfl,b⟩
theorem readf(x y:Nat)(w:World)(hx:x<18446744073709551616)(hy:y<18446744073709551616):Rt 102 #[Zf x y] (Zf (pat (rd x y).1) (pat (rd x y).2)) w:=by
 have HS:=Hd fun W=>soundf x y W hx hy
 obtain⟨s,hs⟩:∃ s,snd x y=s:=⟨_,rfl⟩
 rw [hs] at HS;unfold rd;rw [hs]
 cases s
 ·simp only [Bool.false_eq_true,if_false]
  rw [pat_max,pat_min];clear hs;have HE:=Hd emptyf;obtain⟨LB0,LG0_0,LR⟩:=bx2 w (Zv x y) 28 (Zv 0 0) 28;have LR0:=Hd (HasBlk.of (n:=2) LR.out rfl rfl);clear LR
  go_enter Tryz.func102,Tryz.ntmps102
  go_wp2_with fail;refine (HS.out _).mono ?_;rintro e w1 ⟨rfl,rfl⟩;go_wp2_with fail;refine cx (HE.out _) fun w2 hb2=>?_;have LB1:=stB LB0 hb2 LB0.out.size;have LR1:=stR LR0 hb2;have LG0_1:=stG LG0_0 hb2;clear LB0 LR0 LG0_0;clear hb2;obtain⟨ha0,hf0,ha1,hf1⟩:=LR1.out.sf2;obtain⟨hk0,hk1⟩:=LR1.out.sc2 (.float .f64 9218868437227405312) (.float .f64 18442240474082181120);have F:=Hd (below_sets (w0:=w) (r:=(w.heap.size+1)) (by omega) [.float .f64 9218868437227405312,.float .f64 18442240474082181120] 0 _ LB1.out)
  simp [sets] at hk0 hk1
  go_wp2;refine bodyPost_ret (v:=Zf 9218868437227405312 18442240474082181120) (by simp [results,Tryz.results102,go_sem,hk0,hk1]) rfl ?_
  exact⟨rfl,F.out⟩
 ·simp only [if_true]
  have hd:=of_decide_eq_true hs;have P1:=Hd fun W=>(plainf x W hx hd.1).mono (R':=fun e w'=>e=.returned (.float .f64 (pat (idx x)))/\Below W.heap.size W w') (by rintro e w' ⟨h,rfl⟩;exact⟨h,Below.refl _ _⟩);have P2:=Hd fun W=>(plainf y W hy hd.2.1).mono (R':=fun e w'=>e=.returned (.float .f64 (pat (idx y)))/\Below W.heap.size W w') (by rintro e w' ⟨h,rfl⟩;exact⟨h,Below.refl _ _⟩)
  obtain⟨p,hp⟩:∃ p,pat (idx x)=p:=⟨_,rfl⟩
  obtain⟨q,hq⟩:∃ p,pat (idx y)=p:=⟨_,rfl⟩
  rw [hp] at P1 ⊢;rw [hq] at P2 ⊢;clear hs hd hp hq;obtain⟨LB0,LG0_0,LR⟩:=bx2 w (Zv x y) 28 (Zv 0 0) 28;have LR0:=Hd (HasBlk.of (n:=2) LR.out rfl rfl);clear LR
  go_enter Tryz.func102,Tryz.ntmps102
  go_wp2_with fail;refine (HS.out _).mono ?_;rintro e w1 ⟨rfl,rfl⟩;go_wp2_with fail;refine wp_region_held_drew (S:=fun W'=>Blk W' w.heap.size 28 (Zv x y)/\HasBlk W' (w.heap.size+1) 28 2/\Below w.heap.size w W') (by kernel_rfl) (by exact⟨LG0_0.out.drew,LR0.out.drew,LB0.out.drew⟩) (fun hHeld=>?_);refine tks 0 ?_;refine tkb 1 (fun _ h=>h.1.c2) ?_;refine tks 3 ?_;refine tkb 4 (fun _ h=>h.1.c2) ?_;refine rdy 2 fun KK hKK=>?_;go_simp;refine cx (P1.out _) fun w2 hb2=>?_;go_wp2_with fail;refine hKK.out _ _ (⟨hHeld.1.keep hb2,hHeld.2.1.keep hb2,hHeld.2.2.trans (hb2.mono hHeld.2.2.size)⟩) (fun _=>?_);clear hKK KK hHeld;rename_i hHeld;(try simp only [Act.put,lay]);refine rdy 5 fun KK hKK=>?_;go_simp;refine cx (P2.out _) fun w3 hb3=>?_;go_wp2_with fail;refine hKK.out _ _ (⟨hHeld.1.keep hb3,hHeld.2.1.keep hb3,hHeld.2.2.trans (hb3.mono hHeld.2.2.size)⟩) (fun _=>?_);clear hKK KK hHeld;rename_i hHeld;(try simp only [Act.put,lay]);refine tks 6 ?_;refine rdy 7 fun KK hKK=>?_;have ha0:=hHeld.2.1.someCell 0 (by decide);have hf0:=hHeld.2.1.frozen 0;have ha1:=hHeld.2.1.someCell 1 (by decide);have hf1:=hHeld.2.1.frozen 1;have HK:=Hd (hHeld.2.1.setCell [.float .f64 p,.float .f64 q] rfl);have F:=Hd (below_sets (w0:=w) (r:=(w.heap.size+1)) (by omega) [.float .f64 p,.float .f64 q] 0 _ hHeld.2.2);go_simp;refine hKK.out _ _ (⟨hHeld.1.other (by omega) 0 [.float .f64 p,.float .f64 q],hHeld.2.1.sets [.float .f64 p,.float .f64 q] rfl rfl,below_sets (by omega) [.float .f64 p,.float .f64 q] 0 _ hHeld.2.2⟩) (fun _=>?_)
  clear hKK KK hHeld;rename_i hHeld;(try simp only [Act.put,lay]);refine wpAnyH_done (by kernel_rfl) ?_ _;have hk0:=HK.out 0 (by decide);have hk1:=HK.out 1 (by decide)
  simp [sets] at hk0 hk1
  clear hHeld HK hb2 hb3;clear LB0 LR0 LG0_0;go_wp2;refine bodyPost_ret (v:=Zf p q) (by simp [results,Tryz.results102,go_sem,hk0,hk1]) rfl ?_
  exact⟨rfl,F.out⟩
end
section
open Go.RowKit
attribute [local go_sem] run_store_float
theorem order_pat{i j:Int}(h1:-(M:Int)<=i)(h2:i<=M)(h3:-(M:Int)<=j)(h4:j<=M):FloatKind.f64.format.order (pat i) (pat j)=some (compare i j):=by
 have h:=order_real (x:=pat i) (y:=pat j) (by show rungOf _<=M;rw [rung_pat h1 h2];omega) (by show rungOf _<=M;rw [rung_pat h3 h4];omega);rw [idx_pat h1 h2,idx_pat h3 h4] at h
 exact h
theorem run_negf(P:Program)(b:Nat)(w:World):(Op.unary .neg (.float .f64 b)).run P w=.ok (.float .f64 (Op.negFloat .f64 b)) w:=rfl
theorem negFloat_val{b:Nat}(hb:b<18446744073709551616):Op.negFloat .f64 b<18446744073709551616/\rungOf (Op.negFloat .f64 b)=rungOf b/\idx (Op.negFloat .f64 b)=-idx b:=by
 have e:Op.negFloat .f64 b=b ^^^ 2^63:=rfl;have h:=pat_cases hb
 have hx:b ^^^ 2^63=if b<9223372036854775808 then b+9223372036854775808 else b - 9223372036854775808:=by
  apply Nat.eq_of_testBit_eq
  intro k;rw [Nat.testBit_xor,Nat.testBit_two_pow]
  split
  ·rename_i hlt;have hj:=nat_join 63 (2^63) b (by decide) (by exact hlt);rw [show b+9223372036854775808=2^63+b from by omega,<- hj,Nat.testBit_or,Nat.testBit_two_pow]
   by_cases hk:63=k
   ·subst hk;have:b.testBit 63=false:=Nat.testBit_lt_two_pow (by exact hlt)
    simp [this]
   ·simp [hk]
  ·rename_i hge
   have hsub:b - 9223372036854775808<2^63:=by omega
   have hj:=nat_join 63 (2^63) (b - 9223372036854775808) (by decide) hsub
   have hb2:b=2^63 ||| (b - 9223372036854775808):=by rw [hj];omega
   have hbit:b.testBit k=(decide (63=k) || (b - 9223372036854775808).testBit k):=by
    conv=>lhs;rw [hb2]
    rw [Nat.testBit_or,Nat.testBit_two_pow]
   rw [hbit]
   by_cases hk:63=k
   ·subst hk;have:(b - 9223372036854775808).testBit 63=false:=Nat.testBit_lt_two_pow hsub
    simp [this]
   ·simp [hk]
 rw [e,hx]
 split
 ·have h2:=pat_cases (b:=b+9223372036854775808) (by omega)
  exact⟨by omega,by omega,by omega⟩
 ·have h2:=pat_cases (b:=b - 9223372036854775808) (by omega)
  exact⟨by omega,by omega,by omega⟩
end
section
open Go.RowKit
attribute [local go_sem] run_store_float
theorem run_eqf(p q:Nat)(W:World):(Op.equalIn 9999 26 (.float .f64 p) (.float .f64 q)).run Tryz.prog W=.ok (FloatKind.f64.format.order p q == some .eq) W:=by
 rw [show (9999:Nat)=9998+1 from rfl,Op.equalIn]
 simp only [Sem.run_bind,run_underlying Tryz.underlying26,Result.andThen_ok,if_true,Sem.run_pure]
 rfl
attribute [local go_sem] run_eqf
theorem readf_idx(i j:Int)(w:World)(h:Iv i j):Rt 102 #[Zf (pat i) (pat j)] (Zf (pat i) (pat j)) w:=by
 have h2:=readf (pat i) (pat j) w (pat_lt h.lo.1 h.lo.2) (pat_lt h.hi.1 h.hi.2);rw [rd_pat h] at h2
 exact h2
def Em(a:Bool)(p1 p2:Nat):Prop:=(a=true->FloatKind.f64.format.order p1 9218868437227405312=some .eq/\FloatKind.f64.format.order p2 18442240474082181120=some .eq)/\(a=false->FloatKind.f64.format.order p1 9218868437227405312=some .lt)
end
section
open Go.RowKit
def Lies(w W:World)(l:List (Nat × TypeId × Array Value))(r:List (Nat × TypeId × Nat)):Prop:=
 Below w.heap.size w W/\(∀ x ∈ l,Blk W x.1 x.2.1 x.2.2)/\∀ x ∈ r,HasBlk W x.1 x.2.1 x.2.2
section
variable {w W W':World} {l l':List (Nat × TypeId × Array Value)} {r:List (Nat × TypeId × Nat)} {g n:Nat} {t:TypeId} {cs:Array Value}
theorem Lies.b(h:Lies w W l r):Below w.heap.size w W:=h.1
theorem Lies.blk(h:Lies w W l r)(i:Nat)(hi:l[i]?=some (g,t,cs)):Blk W g t cs:=h.2.1 _ (List.mem_of_getElem? hi)
theorem Lies.has(h:Lies w W l r)(i:Nat)(hi:r[i]?=some (g,t,n)):HasBlk W g t n:=h.2.2 _ (List.mem_of_getElem? hi)
theorem Lies.keep(h:Lies w W l r)(hb:Below W.heap.size W W'):Lies w W' l r:=
 ⟨h.1.trans (hb.mono h.1.size),fun x hx=>(h.2.1 x hx).keep hb,fun x hx=>(h.2.2 x hx).keep hb⟩
theorem Lies.alloc(h:Lies w W l r)(o:Obj):Lies w (W.alloc o) l r:=
 ⟨h.1.alloc h.1.size o,fun x hx=>(h.2.1 x hx).alloc o,fun x hx=>(h.2.2 x hx).alloc o⟩
theorem Lies.drew(h:Lies w W l r):Lies w W.drew l r:=⟨h.1.drew,fun x hx=>(h.2.1 x hx).drew,fun x hx=>(h.2.2 x hx).drew⟩
theorem Lies.put(h:Lies w W l r)(hb:Blk W g t cs):Lies w W (l ++ [(g,t,cs)]) r:=
 ⟨h.1,fun x hx=>by
   rcases List.mem_append.1 hx with hx | hx
   ·exact h.2.1 x hx
   ·rw [List.mem_singleton.1 hx];exact hb,h.2.2⟩
theorem Lies.new(h:Lies w W l r)(t:TypeId)(cs:Array Value):Lies w (W.alloc (.cells cs t)) (l ++ [(W.heap.size,t,cs)]) r:=(h.alloc _).put (Blk.new W t cs)
theorem Lies.loose(h:Lies w W l r)(i:Nat)(hi:l[i]?=some (g,t,cs))(hc:cs.toList.all notWd=true):Lies w W (l.eraseIdx i) ((g,t,cs.size) :: r):=
 ⟨h.1,fun x hx=>h.2.1 x (List.mem_of_mem_eraseIdx hx),fun x hx=>by
   rcases List.mem_cons.1 hx with rfl | hx
   ·exact HasBlk.of (h.blk i hi) rfl hc
   ·exact h.2.2 x hx⟩
theorem Lies.write(h:Lies w W l ((g,t,n) :: r))(vs:List Value)(hl:vs.length=n)(hg:w.heap.size<=g)(h1:∀ x ∈ l,x.1≠g)(h2:∀ x ∈ r,x.1≠g):Lies w (sets W g 0 vs) (l ++ [(g,t,vs.toArray)]) r:=
 ⟨below_sets hg vs 0 _ h.1,fun x hx=>by
   rcases List.mem_append.1 hx with hx | hx
   ·exact (h.2.1 x hx).other (h1 x hx) 0 vs
   ·rw [List.mem_singleton.1 hx];exact (h.2.2 _ (List.mem_cons_self ..)).laid vs hl,fun x hx=>(h.2.2 x (List.mem_cons_of_mem _ hx)).other (h2 x hx) 0 vs⟩
theorem Lies.part(h:Lies w W l r)(k:Nat)(hk:l[k]?=some (g,t,cs))(i:Nat)(vs:List Value)(hg:w.heap.size<=g)(h1:∀ x ∈ l.eraseIdx k,x.1≠g)(h2:∀ x ∈ r,x.1≠g):Lies w (sets W g i vs) (l.eraseIdx k ++ [(g,t,laid cs i vs)]) r:=
 ⟨below_sets hg vs i _ h.1,fun x hx=>by
   rcases List.mem_append.1 hx with hx | hx
   ·exact (h.2.1 x (List.mem_of_mem_eraseIdx hx)).other (h1 x hx) i vs
   ·rw [List.mem_singleton.1 hx];exact (h.blk k hk).sets vs i _ _,fun x hx=>(h.2.2 x hx).other (h2 x hx) i vs⟩
theorem Lies.over(h:Lies w W l r)(k:Nat)(hk:r[k]?=some (g,t,n))(vs:List Value)(hl:vs.length=n)(hv:vs.all notWd=true)(hg:w.heap.size<=g)(h1:∀ x ∈ l,x.1≠g)(h2:∀ x ∈ r.eraseIdx k,x.1≠g):Lies w (sets W g 0 vs) l r:=
 ⟨below_sets hg vs 0 _ h.1,fun x hx=>(h.2.1 x hx).other (h1 x hx) 0 vs,fun x hx=>by
   obtain⟨i,hi⟩:=List.mem_iff_getElem?.1 hx
   by_cases e:i=k
   ·subst e;rw [hk] at hi;cases hi;exact (h.has i hk).sets vs hl hv
   ·exact (h.2.2 x hx).other (h2 x (by rw [List.mem_iff_getElem?];rcases Nat.lt_or_ge i k with hlt | hge
                                       ·exact⟨i,by rw [List.getElem?_eraseIdx_of_lt hlt];exact hi⟩
                                       ·exact⟨i - 1,by rw [List.getElem?_eraseIdx_of_ge (by omega),show i - 1+1=i from by omega];exact hi⟩)) 0 vs⟩
theorem Lies.far(h:Lies w W l r)(vs:List Value)(i:Nat)(hg:w.heap.size<=g)(h1:∀ x ∈ l,x.1≠g)(h2:∀ x ∈ r,x.1≠g):Lies w (sets W g i vs) l r:=
 ⟨below_sets hg vs i _ h.1,fun x hx=>(h.2.1 x hx).other (h1 x hx) i vs,fun x hx=>(h.2.2 x hx).other (h2 x hx) i vs⟩
theorem Lies.fresh(h:Lies w W l r)(t:TypeId)(cs:Array Value):∃ g,W.heap.size=g/\w.heap.size<=g/\(∀ x ∈ l,x.1<g)/\(∀ x ∈ r,x.1<g)/\Blk (W.alloc (.cells cs t)) g t cs:=
 ⟨_,rfl,h.1.size,fun x hx=>(h.2.1 x hx).lt,fun x hx=>(h.2.2 x hx).lt,Blk.new W t cs⟩
theorem Lies.tight(h:Lies w W l ((g,t,n) :: r))(hb:Blk W g t cs):Lies w W (l ++ [(g,t,cs)]) r:=
 ⟨h.1,fun x hx=>by
   rcases List.mem_append.1 hx with hx | hx
   ·exact h.2.1 x hx
   ·rw [List.mem_singleton.1 hx];exact hb,fun x hx=>h.2.2 x (List.mem_cons_of_mem _ hx)⟩
theorem Lies.perm{r':List (Nat × TypeId × Nat)}(h:Lies w W l r)(hl:∀ x ∈ l',x ∈ l)(hr:∀ x ∈ r',x ∈ r):Lies w W l' r':=⟨h.1,fun x hx=>h.2.1 x (hl x hx),fun x hx=>h.2.2 x (hr x hx)⟩
theorem Lies.lts(h:Lies w W l r):w.heap.size<=W.heap.size/\(∀ x ∈ l,x.1<W.heap.size)/\∀ x ∈ r,x.1<W.heap.size:=⟨h.1.size,fun x hx=>(h.2.1 x hx).lt,fun x hx=>(h.2.2 x hx).lt⟩
theorem Lies.newE(h:Lies w W l r)(e:W.alloc (.cells cs t)=W'):Lies w W' (l ++ [(W.heap.size,t,cs)]) r:=e ▸ h.new t cs
theorem below_allocE{o:Obj}(e:W.alloc o=W'):Below W.heap.size W W':=e ▸ below_alloc W o
theorem Blk.newE(e:W.alloc (.cells cs t)=W'):Blk W' W.heap.size t cs:=e ▸ Blk.new W t cs
theorem Blk.setsE{i:Nat}{vs:List Value}(h:Blk W g t cs)(e:Proofs.YthlmlmfebpjgdaaGreatDoor.sets W g i vs=W'):Blk W' g t (laid cs i vs):=e ▸ h.sets vs i W cs
theorem Blk.otherE{k i:Nat}{vs:List Value}(h:Blk W g t cs)(e:Proofs.YthlmlmfebpjgdaaGreatDoor.sets W k i vs=W')(hk:g≠k):Blk W' g t cs:=e ▸ h.other hk i vs
theorem RatV.setsE{K:Nat}{neg:Bool}{vn vd:Value}{x:Rat}{i:Nat}{vs:List Value}(h:RatV W K neg vn vd x)(hb:Blk W g t cs)(hc:NoWd cs)(e:Proofs.YthlmlmfebpjgdaaGreatDoor.sets W g i vs=W'):RatV W' K neg vn vd x:=e ▸ h.sets hb hc i vs
theorem U32s.setsE{A:Option Addr}{k c:Nat}{xs:List Nat}{i:Nat}{vs:List Value}(h:U32s W A k c xs)(hb:Blk W g t cs)(hc:NoWd cs)(e:Proofs.YthlmlmfebpjgdaaGreatDoor.sets W g i vs=W'):U32s W' A k c xs:=e ▸ h.sets hb hc i vs
theorem stL(h:Hid (Lies w W l r))(hb:Below W.heap.size W W'):Hid (Lies w W' l r):=Hd (h.out.keep hb)
end
theorem nowd{cs:Array Value}(h:cs.toList.all notWd=true):NoWd cs:=NoWd.of (by rw [<- Array.all_toList];exact h)
section
variable {P:Program} {ops:Array Oper} {Q:Exit->Act->World->Prop} {md:Region.Mode} {S:World->Prop} {fuel:Nat} {listed:Array Bool} {a:Act} {w:World}
theorem rd2(i j:Nat){o o':Oper}(h:∀ K':Act->World->Prop,Shut (∀ a w,S w->(S w->wpAnyH P md ops Q S fuel (listed.setIfInBounds i true) a w)->K' a w)->if Region.wanted o (yielded ops a.tmps)=true then Oper.wp P o a w K' Q else K' (a.put o.dst undef) w)
  (h':∀ K':Act->World->Prop,Shut (∀ a w,S w->(S w->wpAnyH P md ops Q S fuel (listed.setIfInBounds j true) a w)->K' a w)->if Region.wanted o' (yielded ops a.tmps)=true then Oper.wp P o' a w K' Q else K' (a.put o'.dst undef) w)
  (hr:Region.ready md ops listed=[i,j]:=by kernel_rfl)(ho:ops[i]?=some o:=by rfl)(ho':ops[j]?=some o':=by rfl):wpAnyH P md ops Q S (fuel+1) listed a w:=
 wpAnyH_ready hr (by simp) (AllReadyH.cons ho h (AllReadyH.cons ho' h' AllReadyH.nil))
theorem rd3(i j k:Nat){o o' o2:Oper}(h:∀ K':Act->World->Prop,Shut (∀ a w,S w->(S w->wpAnyH P md ops Q S fuel (listed.setIfInBounds i true) a w)->K' a w)->if Region.wanted o (yielded ops a.tmps)=true then Oper.wp P o a w K' Q else K' (a.put o.dst undef) w)
  (h':∀ K':Act->World->Prop,Shut (∀ a w,S w->(S w->wpAnyH P md ops Q S fuel (listed.setIfInBounds j true) a w)->K' a w)->if Region.wanted o' (yielded ops a.tmps)=true then Oper.wp P o' a w K' Q else K' (a.put o'.dst undef) w)
  (h2:∀ K':Act->World->Prop,Shut (∀ a w,S w->(S w->wpAnyH P md ops Q S fuel (listed.setIfInBounds k true) a w)->K' a w)->if Region.wanted o2 (yielded ops a.tmps)=true then Oper.wp P o2 a w K' Q else K' (a.put o2.dst undef) w)
  (hr:Region.ready md ops listed=[i,j,k]:=by kernel_rfl)(ho:ops[i]?=some o:=by rfl)(ho':ops[j]?=some o':=by rfl)(ho2:ops[k]?=some o2:=by rfl):wpAnyH P md ops Q S (fuel+1) listed a w:=
 wpAnyH_ready hr (by simp) (AllReadyH.cons ho h (AllReadyH.cons ho' h' (AllReadyH.cons ho2 h2 AllReadyH.nil)))
end
theorem regL{P:Program}{ops:Array Oper}{Q:Exit->Act->World->Prop}{id:Nat}{a:Act}{w W:World}{l:List (Nat × TypeId × Array Value)}{r:List (Nat × TypeId × Nat)}(h:Hid (Lies w W l r))
  (k:Lies w W.drew l r->wpAnyH P .any ops Q (fun W'=>Lies w W' l r) ops.size (Array.replicate ops.size false) a W.drew)(hm:P.follows .mixedOrders=true:=by kernel_rfl):(Code.region id ops true).wp P Q a W:=
 wp_region_held_drew (S:=fun W'=>Lies w W' l r) hm h.out.drew k
theorem li1(w:World)(c0:Array Value)(t0:TypeId):Hid (Lies w (w.alloc (.cells c0 t0)) [(w.heap.size,t0,c0)] []):=by
 obtain⟨hb,h0⟩:=bx1 w c0 t0
 exact Hd ⟨hb.out,by simp only [List.mem_cons,List.not_mem_nil,or_false,forall_eq_or_imp,forall_eq];exact h0.out,by simp⟩
theorem li2(w:World)(c0:Array Value)(t0:TypeId)(c1:Array Value)(t1:TypeId):Hid (Lies w ((w.alloc (.cells c0 t0)).alloc (.cells c1 t1)) [(w.heap.size,t0,c0),(w.heap.size+1,t1,c1)] []):=by
 obtain⟨hb,h0,h1⟩:=bx2 w c0 t0 c1 t1
 exact Hd ⟨hb.out,by simp only [List.mem_cons,List.not_mem_nil,or_false,forall_eq_or_imp,forall_eq];exact⟨h0.out,h1.out⟩,by simp⟩
theorem li3(w:World)(c0:Array Value)(t0:TypeId)(c1:Array Value)(t1:TypeId)(c2:Array Value)(t2:TypeId):Hid (Lies w (((w.alloc (.cells c0 t0)).alloc (.cells c1 t1)).alloc (.cells c2 t2)) [(w.heap.size,t0,c0),(w.heap.size+1,t1,c1),(w.heap.size+2,t2,c2)] []):=by
 obtain⟨hb,h0,h1,h2⟩:=bx3 w c0 t0 c1 t1 c2 t2
 exact Hd ⟨hb.out,by simp only [List.mem_cons,List.not_mem_nil,or_false,forall_eq_or_imp,forall_eq];exact⟨h0.out,h1.out,h2.out⟩,by simp⟩
theorem li4(w:World)(c0:Array Value)(t0:TypeId)(c1:Array Value)(t1:TypeId)(c2:Array Value)(t2:TypeId)(c3:Array Value)(t3:TypeId):Hid (Lies w ((((w.alloc (.cells c0 t0)).alloc (.cells c1 t1)).alloc (.cells c2 t2)).alloc (.cells c3 t3)) [(w.heap.size,t0,c0),(w.heap.size+1,t1,c1),(w.heap.size+2,t2,c2),(w.heap.size+3,t3,c3)] []):=by
 obtain⟨hb,h0,h1,h2,h3⟩:=bx4 w c0 t0 c1 t1 c2 t2 c3 t3
 exact Hd ⟨hb.out,by simp only [List.mem_cons,List.not_mem_nil,or_false,forall_eq_or_imp,forall_eq];exact⟨h0.out,h1.out,h2.out,h3.out⟩,by simp⟩
theorem li5(w:World)(c0:Array Value)(t0:TypeId)(c1:Array Value)(t1:TypeId)(c2:Array Value)(t2:TypeId)(c3:Array Value)(t3:TypeId)(c4:Array Value)(t4:TypeId):Hid (Lies w (((((w.alloc (.cells c0 t0)).alloc (.cells c1 t1)).alloc (.cells c2 t2)).alloc (.cells c3 t3)).alloc (.cells c4 t4)) [(w.heap.size,t0,c0),(w.heap.size+1,t1,c1),(w.heap.size+2,t2,c2),(w.heap.size+3,t3,c3),(w.heap.size+4,t4,c4)] []):=by
 obtain⟨hb,h0,h1,h2,h3,h4⟩:=bx5 w c0 t0 c1 t1 c2 t2 c3 t3 c4 t4
 exact Hd ⟨hb.out,by simp only [List.mem_cons,List.not_mem_nil,or_false,forall_eq_or_imp,forall_eq];exact⟨h0.out,h1.out,h2.out,h3.out,h4.out⟩,by simp⟩
theorem cs{C P Q:Prop}(c:C)(q:Q)(h:C->Q->P:=by intro hc hq;refine hc.mono ?_;rintro e wk ⟨rfl,hb⟩;go_wp2_with fail;refine hKK.out _ _ (hHeld.keep hb) (fun hH=>?_);(try simp only [Act.put,lay]);revert hH;revert hb;revert wk;exact hq):P:=h c q
section
variable {w W:World} {x y z:Nat × TypeId × Array Value} {g:Nat} {t:TypeId} {c:Array Value} {l:List (Nat × TypeId × Array Value)} {r:List (Nat × TypeId × Nat)}
theorem Lies.loose0(h:Lies w W ((g,t,c) :: l) r)(hc:c.toList.all notWd=true):Lies w W l ((g,t,c.size) :: r):=h.loose 0 rfl hc
theorem Lies.loose1(h:Lies w W (x :: (g,t,c) :: l) r)(hc:c.toList.all notWd=true):Lies w W (x :: l) ((g,t,c.size) :: r):=h.loose 1 rfl hc
theorem Lies.loose2(h:Lies w W (x :: y :: (g,t,c) :: l) r)(hc:c.toList.all notWd=true):Lies w W (x :: y :: l) ((g,t,c.size) :: r):=h.loose 2 rfl hc
theorem Lies.loose3(h:Lies w W (x :: y :: z :: (g,t,c) :: l) r)(hc:c.toList.all notWd=true):Lies w W (x :: y :: z :: l) ((g,t,c.size) :: r):=h.loose 3 rfl hc
theorem Lies.wr{n:Nat}(h:Lies w W l ((g,t,n) :: r))(vs:List Value)(hl:vs.length=n:=by rfl)(hg:w.heap.size<=g:=by omega)(h1:∀ x ∈ l,x.1≠g:=by simp<;>omega)(h2:∀ x ∈ r,x.1≠g:=by simp<;>omega):Lies w (sets W g 0 vs) (l ++ [(g,t,vs.toArray)]) r:=h.write vs hl hg h1 h2
end
end
section
open Go.RowKit
def Tab(w:World):Prop:=∀ j,j<32->w.cell? ⟨1,j,none⟩=some (.int .u8 (Lib.deBruijn32tab.getD j 0))
theorem Tab.below{w w':World}(h:Tab w)(hb:Below w.heap.size w w'):Tab w':=fun j hj=>by
 have h1:=h j hj;have h2:=h 0 (by omega)
 have hlt:1<w.heap.size:=by
  rcases Nat.lt_or_ge 1 w.heap.size with c | c
  ·exact c
  ·have e:w.heap[1]?=none:=Array.getElem?_eq_none c;unfold World.cell? at h1;rw [e] at h1
   simp at h1
 exact (hb.cell (p:=⟨1,j,none⟩) hlt).trans h1
theorem Tab.drew{w:World}(h:Tab w):Tab w.drew:=h.below (Below.refl _ _).drew
theorem and_u32_nat(a b:Nat)(ha:a<4294967296)(hb:b<4294967296):bits .and .u32 (a:Int) (b:Int)=((a &&& b:Nat):Int):=u32_and_nat a b ha hb
theorem tz_any(x:Nat)(w:World)(hx:x<4294967296)(h0:x≠0)(hT:Tab w):
  Calls Tryz.prog 277 #[.int .u32 (x:Int)] w fun e w'=>e=.returned (.int .i64 (Lib.ctz 32 x:Int))/\w=w':=by
 obtain⟨hlow,hk⟩:=Lib.lowest_bit 32 x h0 hx;obtain⟨hi,htab⟩:=Lib.deBruijn32_at _ hk;have hcell:=hT _ hi;rw [htab] at hcell
 obtain⟨k,hk2⟩:∃ k,Lib.ctz 32 x=k:=⟨_,rfl⟩
 obtain⟨idx,hidx⟩:∃ i,2 ^ Lib.ctz 32 x*125613361 % 4294967296 / 134217728=i:=⟨_,rfl⟩
 have key:bits BinOp.and IntKind.u32 (x:Int) (-(x:Int) % 4294967296)*125613361 % 4294967296 / 134217728=(idx:Int):=by
  have e1:-(x:Int) % 4294967296=((4294967296 - x:Nat):Int):=by omega
  rw [e1,and_u32_nat x _ hx (by omega),show (4294967296:Nat) - x=2^32 - x from rfl,hlow,<- hidx];generalize 2 ^ Lib.ctz 32 x=P
  omega
 rw [hidx] at hcell hi;rw [hk2] at hcell hk ⊢
 have hx0:((x:Int) == 0)=false:=by simp;omega
 clear hlow htab hT hk2 hidx h0
 go_enter Tryz.func277,Tryz.ntmps277
 go_wp2_with (simp only [key])
 go_ret
 exact⟨rfl,rfl⟩
theorem ctz_dvd(x:Nat)(h0:x≠0)(hx:x<4294967296):2 ^ Lib.ctz 32 x ∣ x/\Lib.ctz 32 x<32:=by
 refine⟨?_,(Lib.lowest_bit 32 x h0 hx).2⟩;unfold Lib.ctz;rw [if_neg h0];obtain⟨m,hm,-⟩:=Lib.ctzFrom_spec 32 x (by omega) hx
 exact⟨2*m+1,hm⟩
theorem nzeros_one(A:Option Addr)(n c x:Nat)(xs:List Nat)(w:World)(hu:U32s w A n c (x :: xs))(h0:x≠0)(hT:Tab w):
  Calls Tryz.prog 274 #[.slice A n c] w fun e w'=>e=.returned (.int .i64 (Lib.ctz 32 x:Int))/\w=w':=by
 have hx:x<4294967296:=hu.w32 x (by simp)
 have hn:n=xs.length+1:=by have:=hu.len;simp at this;omega
 obtain⟨ad,rfl,hlt,hc⟩:=hu.at_ (by omega);have c0:=hc 0 (by omega)
 simp only [List.getElem?_cons_zero,Option.getD_some] at c0
 rw [show ad.add 0=ad from by simp [Addr.add]] at c0
 have hnn:0<(n:Int):=by omega
 have hx0:((x:Int) == 0)=false:=by simp;omega
 have H:=Hd (tz_any x w hx h0 hT);have hk:=(Lib.lowest_bit 32 x h0 hx).2
 obtain⟨k,hk2⟩:∃ k,Lib.ctz 32 x=k:=⟨_,rfl⟩
 rw [hk2] at H hk ⊢;clear hc hu hT hk2 h0 hn hlt
 go_enter Tryz.func274,Tryz.ntmps274
 go_wp2_with fail;refine wp_loop_rounds 1 ?_;rw [rounds_succ];go_wp2_with fail;refine H.out.mono ?_;rintro e w' ⟨rfl,rfl⟩;go_wp2
 go_ret
 exact⟨rfl,rfl⟩
theorem nzeros_two(A:Option Addr)(n c y:Nat)(xs:List Nat)(w:World)(hu:U32s w A n c (0 :: y :: xs))(h0:y≠0)(hT:Tab w):
  Calls Tryz.prog 274 #[.slice A n c] w fun e w'=>e=.returned (.int .i64 ((32+Lib.ctz 32 y:Nat):Int))/\w=w':=by
 have hx:y<4294967296:=hu.w32 y (by simp)
 have hn:n=xs.length+2:=by have:=hu.len;simp at this;omega
 have hcap:=hu.cap;obtain⟨ad,rfl,hlt,hc⟩:=hu.at_ (by omega);have c0:=hc 0 (by omega);have c1:=hc 1 (by omega)
 simp only [List.getElem?_cons_zero,Option.getD_some] at c0
 simp only [List.getElem?_cons_succ,List.getElem?_cons_zero,Option.getD_some] at c1
 rw [show ad.add 0=ad from by simp [Addr.add]] at c0
 simp [Addr.add] at c1
 have hnn:0<(n:Int):=by omega
 have hn1:1<(n:Int):=by omega
 have hx0:((y:Int) == 0)=false:=by simp;omega
 have H:=Hd (tz_any y w hx h0 hT);have hk:=(Lib.lowest_bit 32 y h0 hx).2
 obtain⟨k,hk2⟩:∃ k,Lib.ctz 32 y=k:=⟨_,rfl⟩
 rw [hk2] at H hk ⊢;clear hc hu hT hk2 h0 hn hlt
 go_enter Tryz.func274,Tryz.ntmps274
 go_wp2_with fail;refine wp_loop_rounds 2 ?_;rw [rounds_succ];go_wp2_with fail;rw [rounds_succ];go_wp2_with fail;refine H.out.mono ?_;rintro e w' ⟨rfl,rfl⟩;go_wp2
 go_ret
 exact⟨rfl,rfl⟩
theorem nzeros_any(A:Option Addr)(n c S:Nat)(w:World)(hu:U32s w A n c (digs S))(hS:0<S)(h:S<18446744073709551616)(hT:Tab w):
  Calls Tryz.prog 274 #[.slice A n c] w fun e w'=>(∃ z:Nat,e=.returned (.int .i64 (z:Int))/\z<64/\2^z ∣ S)/\w=w':=by
 have hd:digs S=S % 4294967296 :: digs (S / 4294967296):=digs_pos (by omega)
 by_cases c0:S % 4294967296=0
 ·have hd2:digs (S / 4294967296)=S / 4294967296 % 4294967296 :: digs (S / 4294967296 / 4294967296):=digs_pos (by omega);rw [hd,hd2,c0] at hu
  have e:S / 4294967296 % 4294967296=S / 4294967296:=by omega
  rw [e] at hu;obtain⟨a,b⟩:=ctz_dvd (S / 4294967296) (by omega) (by omega)
  refine (nzeros_two A n c _ _ w hu (by omega) hT).mono fun e w' ⟨h1,h2⟩=>⟨⟨_,h1,by omega,?_⟩,h2⟩
  rw [Nat.pow_add];obtain⟨q,hq⟩:=a;refine⟨q,?_⟩;rw [Nat.mul_assoc,<- hq,show (2:Nat)^32=4294967296 by decide];omega
 ·rw [hd] at hu;obtain⟨a,b⟩:=ctz_dvd (S % 4294967296) c0 (by omega)
  refine (nzeros_one A n c _ _ w hu c0 hT).mono fun e w' ⟨h1,h2⟩=>⟨⟨_,h1,by omega,?_⟩,h2⟩
  have h3:2 ^ Lib.ctz 32 (S % 4294967296) ∣ 4294967296:=by
   rw [show (4294967296:Nat)=2^32 by decide];exact Nat.pow_dvd_pow 2 (by rw [show (2:Nat)^32=4294967296 by decide];omega)
  have h4:=Nat.dvd_add (Nat.dvd_trans h3 (Nat.dvd_mul_right 4294967296 (S / 4294967296))) a
  rwa [Nat.div_add_mod] at h4
end
section
open Go.RowKit
attribute [local go_sem] run_store_float run_frombits run_bitsof
theorem law_in(x y:Nat)(w:World):Rt 15 #[.agg #[.int .u64 (x:Int),.int .u64 (y:Int)]] (Zf x y) w:=by
 obtain⟨LB0,LG0_0,LR⟩:=bx2 w #[.int .u64 (x:Int),.int .u64 (y:Int)] 24 (Zv 0 0) 28;have LR0:=Hd (HasBlk.of (n:=2) LR.out rfl rfl);clear LR
 go_enter Tryz.func15,Tryz.ntmps15
 go_wp2_with fail;clear LB0 LG0_0 LR0
 go_region
 all_goals go_wp2
 all_goals (refine bodyPost_ret (v:=Zf x y) (by simp [results,Tryz.results15,go_sem]) rfl ?_;exact⟨rfl,((below_alloc w _).alloc (by simp) _).drew⟩)
end
section
open Go.RowKit
attribute [local go_sem] run_store_float run_eqf
set_option maxRecDepth 100000 in
theorem grows_law(b1 b2 c1 c2 x1 x2 s1 s2 t1 t2 u1 u2 d1 d2 e1 e2 y1 y2:Nat)(w:World)(hT:Tab w)(hA:∀ W,Rt 21 #[] (.bool true) W)(hu1:∀ W,Rt 63 #[Zf b1 b2,Zf s1 s2] (Zf d1 d2) W)(hu2:∀ W,Rt 63 #[Zf c1 c2,Zf t1 t2] (Zf e1 e2) W)(hu3:∀ W,Rt 63 #[Zf x1 x2,Zf u1 u2] (Zf y1 y2) W)
  (hk:∀ k:Nat,k<=22->∃ p q p' q':Nat,(∀ W,Tab W->Rt 70 #[.int .i64 (k:Int),Zf b1 b2,Zf c1 c2,Zf x1 x2] (Zf p q) W)/\(∀ W,Tab W->Rt 70 #[.int .i64 (k:Int),Zf d1 d2,Zf e1 e2,Zf y1 y2] (.agg #[.float .f64 p',.float .f64 q']) W)/\(∀ W,Rt 66 #[Zf p q,.agg #[.float .f64 p',.float .f64 q']] (.bool true) W)):
  Rt 12 #[.agg #[.int .u64 (b1:Int),.int .u64 (b2:Int),.int .u64 (c1:Int),.int .u64 (c2:Int),.int .u64 (x1:Int),.int .u64 (x2:Int)],.agg #[.int .u64 (s1:Int),.int .u64 (s2:Int),.int .u64 (t1:Int),.int .u64 (t2:Int),.int .u64 (u1:Int),.int .u64 (u2:Int)]] (.bool true) w:=by
 have I1:=Hd fun W=>law_in b1 b2 W;have I2:=Hd fun W=>law_in c1 c2 W;have I3:=Hd fun W=>law_in x1 x2 W;have I4:=Hd fun W=>law_in s1 s2 W;have I5:=Hd fun W=>law_in t1 t2 W;have I6:=Hd fun W=>law_in u1 u2 W;have HT:=Hd hT;have HA:=Hd hA;have HK:=Hd hk;have HU1:=Hd hu1;have HU2:=Hd hu2;have HU3:=Hd hu3;clear hT hA hk hu1 hu2 hu3;have LL:=li2 w #[.int .u64 (b1:Int),.int .u64 (b2:Int),.int .u64 (c1:Int),.int .u64 (c2:Int),.int .u64 (x1:Int),.int .u64 (x2:Int)] 56 #[.int .u64 (s1:Int),.int .u64 (s2:Int),.int .u64 (t1:Int),.int .u64 (t2:Int),.int .u64 (u1:Int),.int .u64 (u2:Int)] 56
 go_enter Tryz.func12,Tryz.ntmps12
 go_wp2_with fail;refine cx (HA.out _) fun wk hb=>?_;replace LL:=stL LL hb;clear hb;obtain⟨q1_0,q1_1,q1_2,q1_3,q1_4,q1_5⟩:=(LL.out.blk 0 rfl).c6;go_wp2_with fail;refine cx (I1.out _) fun wk hb=>?_;replace LL:=stL LL hb;clear hb q1_0 q1_1 q1_2 q1_3 q1_4 q1_5
 go_upto_region 4 with fail
 have hl_j5:=LL.out.lts;generalize hwn:World.alloc wk _=wn;replace LL:=Hd (LL.out.newE hwn)
 simp only [List.cons_append,List.nil_append] at LL
 simp only [List.mem_cons,List.not_mem_nil,or_false,forall_eq_or_imp,forall_eq,false_imp_iff,implies_true,and_true] at hl_j5
 clear hwn;generalize wk.heap.size=j5 at LL hl_j5 ⊢;obtain⟨q2_0,q2_1,q2_2,q2_3,q2_4,q2_5⟩:=(LL.out.blk 0 rfl).c6;go_wp2_with fail;refine cx (I2.out _) fun wk hb=>?_;replace LL:=stL LL hb;clear hb q2_0 q2_1 q2_2 q2_3 q2_4 q2_5
 go_upto_region 5 with fail
 have hl_j6:=LL.out.lts;generalize hwn:World.alloc wk _=wn;replace LL:=Hd (LL.out.newE hwn)
 simp only [List.cons_append,List.nil_append] at LL
 simp only [List.mem_cons,List.not_mem_nil,or_false,forall_eq_or_imp,forall_eq,false_imp_iff,implies_true,and_true] at hl_j6
 clear hwn;generalize wk.heap.size=j6 at LL hl_j6 ⊢;obtain⟨q3_0,q3_1,q3_2,q3_3,q3_4,q3_5⟩:=(LL.out.blk 0 rfl).c6;go_wp2_with fail;refine cx (I3.out _) fun wk hb=>?_;replace LL:=stL LL hb;clear hb q3_0 q3_1 q3_2 q3_3 q3_4 q3_5
 go_upto_region 6 with fail
 have hl_j7:=LL.out.lts;generalize hwn:World.alloc wk _=wn;replace LL:=Hd (LL.out.newE hwn)
 simp only [List.cons_append,List.nil_append] at LL
 simp only [List.mem_cons,List.not_mem_nil,or_false,forall_eq_or_imp,forall_eq,false_imp_iff,implies_true,and_true] at hl_j7
 clear hwn;generalize wk.heap.size=j7 at LL hl_j7 ⊢;clear HA I1 I2 I3
 go_cut [8] (fun s8 wx=>∃ j8:Nat,s8=.pointer (some ⟨j8,0,none⟩)/\Lies w wx [(w.heap.size,56,#[.int .u64 (b1:Int),.int .u64 (b2:Int),.int .u64 (c1:Int),.int .u64 (c2:Int),.int .u64 (x1:Int),.int .u64 (x2:Int)]),((w.heap.size+1),56,#[.int .u64 (s1:Int),.int .u64 (s2:Int),.int .u64 (t1:Int),.int .u64 (t2:Int),.int .u64 (u1:Int),.int .u64 (u2:Int)]),(j5,28,(Zv b1 b2)),(j6,28,(Zv c1 c2)),(j7,28,(Zv x1 x2)),(j8,28,(Zv d1 d2))] [])
 case first=>
  refine regL LL (fun hHeld=>?_);clear LL;generalize World.drew _=wk at hHeld  ⊢;refine tkb 0 (fun _ h=>(h.blk 2 rfl).c2) ?_;refine tks 1 ?_;refine tkb 2 (fun _ h=>(h.blk 1 rfl).c6) ?_
  repeat' first
   | (have hx:=hC3;clear hx;go_simp;refine (I4.out _).mono ?_;rintro e wk ⟨rfl,hb1⟩;go_wp2_with fail;refine hC3.out _ _ (hHeld.keep hb1) (fun _=>?_);clear hC3 KK hHeld;rename_i hHeld;(try simp only [Act.put,lay]);(try replace B_j8:=B_j8.keep hb1);clear hb1;have mk3:=True.intro)
   | (have hx:=hC4;clear hx;go_simp;refine (HU1.out _).mono ?_;rintro e wk ⟨rfl,hb2⟩;go_wp2_with fail;refine hC4.out _ _ (hHeld.keep hb2) (fun _=>?_);clear hC4 KK hHeld;rename_i hHeld;(try simp only [Act.put,lay]);(try replace B_j8:=B_j8.keep hb2);clear hb2;have mk4:=True.intro)
   | (have hx:=hA5;clear hx;go_simp;have hl_j8:=hHeld.lts;refine hA5.out _ _ (hHeld.alloc _) (fun _=>?_);clear hA5 KK hHeld;rename_i hHeld;(try simp only [Act.put,lay]);generalize hwn:World.alloc wk _=wn at hHeld ⊢;have B_j8:=Blk.newE hwn;simp only [List.mem_cons,List.not_mem_nil,or_false,forall_eq_or_imp,forall_eq,false_imp_iff,implies_true,and_true] at hl_j8;clear hwn;generalize hg:wk.heap.size=j8 at B_j8 hl_j8 ⊢;clear hg;obtain⟨wk,rfl⟩:∃ X,X=wn:=⟨_,rfl⟩;have mk5:=True.intro)
   | (have hx:=hS6;clear hx;have qz0:=B_j8.ce 0 rfl;have fz0:=B_j8.frozen 0;have qz1:=B_j8.ce 1 rfl;have fz1:=B_j8.frozen 1;go_simp;have hsx:=hHeld.far [.float .f64 d1,.float .f64 d2] 0 (g:=j8) (by omega) (by simp<;>omega) (by simp<;>omega);generalize hwn:sets wk j8 0 _=wn at hsx;refine hS6.out _ _ (by have e:=hwn;simp only [sets,Nat.reduceAdd] at e;rw [e];exact hsx) (fun _=>?_);clear hS6 KK hHeld hsx;rename_i hHeld;(try simp only [Act.put,lay]);replace B_j8:=B_j8.setsE hwn;simp only [laid,lay,Nat.reduceAdd] at B_j8;simp only [sets,Nat.reduceAdd] at hwn;rw [hwn] at hHeld ⊢;clear hwn qz0 fz0 qz1 fz1;obtain⟨wk,rfl⟩:∃ X,X=wn:=⟨_,rfl⟩;have mk6:=True.intro)
   | (have hx:=mk3;have hx:=mk4;have hx:=mk5;have hx:=mk6;refine wpAnyH_done (by kernel_rfl) ?_ _;clear hx mk3 mk4 mk5 mk6;go_wp2_with fail;go_meet;exact⟨j8,rfl,hHeld.put B_j8⟩)
   | (have hx:=mk3;have hx:=mk4;have hx:=mk5;refine rdy 6 (fun KK hS6=>?_))
   | (have hx:=mk3;have hx:=mk5;refine rdy 4 (fun KK hC4=>?_))
   | (have hx:=mk3;have hx:=mk4;refine rdy 5 (fun KK hA5=>?_))
   | (have hx:=mk5;refine rdy 3 (fun KK hC3=>?_))
   | (have hx:=mk3;refine rd2 4 5 (fun KK hC4=>?_) (fun KK hA5=>?_))
   | (refine rd2 3 5 (fun KK hC3=>?_) (fun KK hA5=>?_))
 case rest=>
 obtain⟨j8,rfl,hcl⟩:=hcut;rename World=>wx;clear LL I4 HU1;have LL:=Hd hcl;clear hcl
 go_upto_region 7 with fail
 go_cut [9] (fun s9 wx=>∃ j9:Nat,s9=.pointer (some ⟨j9,0,none⟩)/\Lies w wx [(w.heap.size,56,#[.int .u64 (b1:Int),.int .u64 (b2:Int),.int .u64 (c1:Int),.int .u64 (c2:Int),.int .u64 (x1:Int),.int .u64 (x2:Int)]),((w.heap.size+1),56,#[.int .u64 (s1:Int),.int .u64 (s2:Int),.int .u64 (t1:Int),.int .u64 (t2:Int),.int .u64 (u1:Int),.int .u64 (u2:Int)]),(j5,28,(Zv b1 b2)),(j6,28,(Zv c1 c2)),(j7,28,(Zv x1 x2)),(j8,28,(Zv d1 d2)),(j9,28,(Zv e1 e2))] [])
 case first=>
  refine regL LL (fun hHeld=>?_);clear LL;generalize World.drew _=wk at hHeld  ⊢;refine tkb 0 (fun _ h=>(h.blk 3 rfl).c2) ?_;refine tks 1 ?_;refine tkb 2 (fun _ h=>(h.blk 1 rfl).c6) ?_
  repeat' first
   | (have hx:=hC3;clear hx;go_simp;refine (I5.out _).mono ?_;rintro e wk ⟨rfl,hb1⟩;go_wp2_with fail;refine hC3.out _ _ (hHeld.keep hb1) (fun _=>?_);clear hC3 KK hHeld;rename_i hHeld;(try simp only [Act.put,lay]);(try replace B_j9:=B_j9.keep hb1);clear hb1;have mk3:=True.intro)
   | (have hx:=hC4;clear hx;go_simp;refine (HU2.out _).mono ?_;rintro e wk ⟨rfl,hb2⟩;go_wp2_with fail;refine hC4.out _ _ (hHeld.keep hb2) (fun _=>?_);clear hC4 KK hHeld;rename_i hHeld;(try simp only [Act.put,lay]);(try replace B_j9:=B_j9.keep hb2);clear hb2;have mk4:=True.intro)
   | (have hx:=hA5;clear hx;go_simp;have hl_j9:=hHeld.lts;refine hA5.out _ _ (hHeld.alloc _) (fun _=>?_);clear hA5 KK hHeld;rename_i hHeld;(try simp only [Act.put,lay]);generalize hwn:World.alloc wk _=wn at hHeld ⊢;have B_j9:=Blk.newE hwn;simp only [List.mem_cons,List.not_mem_nil,or_false,forall_eq_or_imp,forall_eq,false_imp_iff,implies_true,and_true] at hl_j9;clear hwn;generalize hg:wk.heap.size=j9 at B_j9 hl_j9 ⊢;clear hg;obtain⟨wk,rfl⟩:∃ X,X=wn:=⟨_,rfl⟩;have mk5:=True.intro)
   | (have hx:=hS6;clear hx;have qz0:=B_j9.ce 0 rfl;have fz0:=B_j9.frozen 0;have qz1:=B_j9.ce 1 rfl;have fz1:=B_j9.frozen 1;go_simp;have hsx:=hHeld.far [.float .f64 e1,.float .f64 e2] 0 (g:=j9) (by omega) (by simp<;>omega) (by simp<;>omega);generalize hwn:sets wk j9 0 _=wn at hsx;refine hS6.out _ _ (by have e:=hwn;simp only [sets,Nat.reduceAdd] at e;rw [e];exact hsx) (fun _=>?_);clear hS6 KK hHeld hsx;rename_i hHeld;(try simp only [Act.put,lay]);replace B_j9:=B_j9.setsE hwn;simp only [laid,lay,Nat.reduceAdd] at B_j9;simp only [sets,Nat.reduceAdd] at hwn;rw [hwn] at hHeld ⊢;clear hwn qz0 fz0 qz1 fz1;obtain⟨wk,rfl⟩:∃ X,X=wn:=⟨_,rfl⟩;have mk6:=True.intro)
   | (have hx:=mk3;have hx:=mk4;have hx:=mk5;have hx:=mk6;refine wpAnyH_done (by kernel_rfl) ?_ _;clear hx mk3 mk4 mk5 mk6;go_wp2_with fail;go_meet;exact⟨j9,rfl,hHeld.put B_j9⟩)
   | (have hx:=mk3;have hx:=mk4;have hx:=mk5;refine rdy 6 (fun KK hS6=>?_))
   | (have hx:=mk3;have hx:=mk5;refine rdy 4 (fun KK hC4=>?_))
   | (have hx:=mk3;have hx:=mk4;refine rdy 5 (fun KK hA5=>?_))
   | (have hx:=mk5;refine rdy 3 (fun KK hC3=>?_))
   | (have hx:=mk3;refine rd2 4 5 (fun KK hC4=>?_) (fun KK hA5=>?_))
   | (refine rd2 3 5 (fun KK hC3=>?_) (fun KK hA5=>?_))
 case rest=>
 obtain⟨j9,rfl,hcl⟩:=hcut;rename World=>wx;clear LL I5 HU2;have LL:=Hd hcl;clear hcl
 go_upto_region 8 with fail
 go_cut [10] (fun s10 wx=>∃ j10:Nat,s10=.pointer (some ⟨j10,0,none⟩)/\Lies w wx [(w.heap.size,56,#[.int .u64 (b1:Int),.int .u64 (b2:Int),.int .u64 (c1:Int),.int .u64 (c2:Int),.int .u64 (x1:Int),.int .u64 (x2:Int)]),((w.heap.size+1),56,#[.int .u64 (s1:Int),.int .u64 (s2:Int),.int .u64 (t1:Int),.int .u64 (t2:Int),.int .u64 (u1:Int),.int .u64 (u2:Int)]),(j5,28,(Zv b1 b2)),(j6,28,(Zv c1 c2)),(j7,28,(Zv x1 x2)),(j8,28,(Zv d1 d2)),(j9,28,(Zv e1 e2)),(j10,28,(Zv y1 y2))] [])
 case first=>
  refine regL LL (fun hHeld=>?_);clear LL;generalize World.drew _=wk at hHeld  ⊢;refine tkb 0 (fun _ h=>(h.blk 4 rfl).c2) ?_;refine tks 1 ?_;refine tkb 2 (fun _ h=>(h.blk 1 rfl).c6) ?_
  repeat' first
   | (have hx:=hC3;clear hx;go_simp;refine (I6.out _).mono ?_;rintro e wk ⟨rfl,hb1⟩;go_wp2_with fail;refine hC3.out _ _ (hHeld.keep hb1) (fun _=>?_);clear hC3 KK hHeld;rename_i hHeld;(try simp only [Act.put,lay]);(try replace B_j10:=B_j10.keep hb1);clear hb1;have mk3:=True.intro)
   | (have hx:=hC4;clear hx;go_simp;refine (HU3.out _).mono ?_;rintro e wk ⟨rfl,hb2⟩;go_wp2_with fail;refine hC4.out _ _ (hHeld.keep hb2) (fun _=>?_);clear hC4 KK hHeld;rename_i hHeld;(try simp only [Act.put,lay]);(try replace B_j10:=B_j10.keep hb2);clear hb2;have mk4:=True.intro)
   | (have hx:=hA5;clear hx;go_simp;have hl_j10:=hHeld.lts;refine hA5.out _ _ (hHeld.alloc _) (fun _=>?_);clear hA5 KK hHeld;rename_i hHeld;(try simp only [Act.put,lay]);generalize hwn:World.alloc wk _=wn at hHeld ⊢;have B_j10:=Blk.newE hwn;simp only [List.mem_cons,List.not_mem_nil,or_false,forall_eq_or_imp,forall_eq,false_imp_iff,implies_true,and_true] at hl_j10;clear hwn;generalize hg:wk.heap.size=j10 at B_j10 hl_j10 ⊢;clear hg;obtain⟨wk,rfl⟩:∃ X,X=wn:=⟨_,rfl⟩;have mk5:=True.intro)
   | (have hx:=hS6;clear hx;have qz0:=B_j10.ce 0 rfl;have fz0:=B_j10.frozen 0;have qz1:=B_j10.ce 1 rfl;have fz1:=B_j10.frozen 1;go_simp;have hsx:=hHeld.far [.float .f64 y1,.float .f64 y2] 0 (g:=j10) (by omega) (by simp<;>omega) (by simp<;>omega);generalize hwn:sets wk j10 0 _=wn at hsx;refine hS6.out _ _ (by have e:=hwn;simp only [sets,Nat.reduceAdd] at e;rw [e];exact hsx) (fun _=>?_);clear hS6 KK hHeld hsx;rename_i hHeld;(try simp only [Act.put,lay]);replace B_j10:=B_j10.setsE hwn;simp only [laid,lay,Nat.reduceAdd] at B_j10;simp only [sets,Nat.reduceAdd] at hwn;rw [hwn] at hHeld ⊢;clear hwn qz0 fz0 qz1 fz1;obtain⟨wk,rfl⟩:∃ X,X=wn:=⟨_,rfl⟩;have mk6:=True.intro)
   | (have hx:=mk3;have hx:=mk4;have hx:=mk5;have hx:=mk6;refine wpAnyH_done (by kernel_rfl) ?_ _;clear hx mk3 mk4 mk5 mk6;go_wp2_with fail;go_meet;exact⟨j10,rfl,hHeld.put B_j10⟩)
   | (have hx:=mk3;have hx:=mk4;have hx:=mk5;refine rdy 6 (fun KK hS6=>?_))
   | (have hx:=mk3;have hx:=mk5;refine rdy 4 (fun KK hC4=>?_))
   | (have hx:=mk3;have hx:=mk4;refine rdy 5 (fun KK hA5=>?_))
   | (have hx:=mk5;refine rdy 3 (fun KK hC3=>?_))
   | (have hx:=mk3;refine rd2 4 5 (fun KK hC4=>?_) (fun KK hA5=>?_))
   | (refine rd2 3 5 (fun KK hC3=>?_) (fun KK hA5=>?_))
 case rest=>
 obtain⟨j10,rfl,hcl⟩:=hcut;rename World=>wx;clear LL I6 HU3;have LL:=Hd hcl;clear hcl;go_wp2
 go_loopw [11] (fun a wr=>∃ k:Nat,a=.int .i64 (k:Int)/\k<=23/\Lies w wr [(w.heap.size,56,#[.int .u64 (b1:Int),.int .u64 (b2:Int),.int .u64 (c1:Int),.int .u64 (c2:Int),.int .u64 (x1:Int),.int .u64 (x2:Int)]),((w.heap.size+1),56,#[.int .u64 (s1:Int),.int .u64 (s2:Int),.int .u64 (t1:Int),.int .u64 (t2:Int),.int .u64 (u1:Int),.int .u64 (u2:Int)]),(j5,28,(Zv b1 b2)),(j6,28,(Zv c1 c2)),(j7,28,(Zv x1 x2)),(j8,28,(Zv d1 d2)),(j9,28,(Zv e1 e2)),(j10,28,(Zv y1 y2))] []) (fun a _=>(23 - intOf a).toNat)
 case atStart=>exact⟨0,rfl,by omega,LL.out⟩
 case round=>
  obtain⟨k,rfl,hk23,hcl⟩:=hrel;rename World=>wr;clear LL;have LL:=Hd hcl;clear hcl;have HHT:=HT;have HT:=Hd (HHT.out.below LL.out.b);clear HHT
  by_cases hlt:(k:Int)<=22
  ·skip;obtain⟨p,q,p',q',t1,t2,hs⟩:=HK.out k (by omega);have T1:=Hd t1;have T2:=Hd t2;have HS:=Hd hs;clear t1 t2 hs
   have kw:IntKind.i64.wrap ((k:Int)+1)=((k+1:Nat):Int):=by rw [IntKind.wrap_i64];omega
   go_upto_region 12 with fail
   refine regL LL (fun hHeld=>?_);clear LL;replace HT:=Hd (HT.out.below (Below.refl _ _).drew);generalize World.drew _=wk at hHeld HT ⊢;refine tks 0 ?_;refine tkb 1 (fun _ h=>(h.blk 2 rfl).c2) ?_;refine tkb 2 (fun _ h=>(h.blk 3 rfl).c2) ?_;refine tkb 3 (fun _ h=>(h.blk 4 rfl).c2) ?_;refine tks 5 ?_;refine tkb 6 (fun _ h=>(h.blk 5 rfl).c2) ?_;refine tkb 7 (fun _ h=>(h.blk 6 rfl).c2) ?_;refine tkb 8 (fun _ h=>(h.blk 7 rfl).c2) ?_;refine rdy 4 fun KK hKK=>?_;go_simp;refine cs (T1.out _ HT.out) ?_;clear hKK KK hHeld;intro wk hb1 hHeld;(try replace HT:=Hd (HT.out.below hb1));clear hb1;refine rdy 9 fun KK hKK=>?_;go_simp;refine cs (T2.out _ HT.out) ?_;clear hKK KK hHeld;intro wk hb2 hHeld;(try replace HT:=Hd (HT.out.below hb2));clear hb2;refine rdy 10 fun KK hKK=>?_;go_simp;refine cs (HS.out _) ?_;clear hKK KK hHeld;intro wk hb3 hHeld;(try replace HT:=Hd (HT.out.below hb3));clear hb3;refine tks 11 ?_;refine wpAnyH_done (by kernel_rfl) ?_ _;have LL:=Hd hHeld;clear hHeld;go_wp2
   exact⟨⟨k+1,by first | rfl | rw [kw],by omega,LL.out⟩,by simp [intOf];omega⟩
  ·skip;go_wp2
   go_ret
   exact⟨rfl,LL.out.b⟩
end
section
open Go.RowKit
def rc(x y:Rat):Int:=if x<y then -1 else if y<x then 1 else 0
theorem div_lt{a b c d:Rat}(hc:0<c)(hd:0<d):a / c<b / d↔a*d<b*c:=by
 have h1:0<c*d:=Rat.mul_pos hc hd
 have e1:a / c*(c*d)=a*d:=by
  rw [<- Rat.mul_assoc,Rat.div_mul_cancel (by grind)]
 have e2:b / d*(c*d)=b*c:=by
  rw [Rat.mul_comm c d,<- Rat.mul_assoc,Rat.div_mul_cancel (by grind)]
 rw [<- e1,<- e2]
 exact (Rat.mul_lt_mul_right h1).symm
theorem rv_lt_false{p q p' q':Nat}(hq:0<q)(hq':0<q'):rv false p q<rv false p' q'↔p*q'<p'*q:=by
 unfold rv
 simp only [Bool.false_eq_true,if_false]
 rw [div_lt (cast_pos hq) (cast_pos hq'),<- Rat.natCast_mul,<- Rat.natCast_mul,Rat.natCast_lt_natCast]
end
section
open Go.RowKit
def Sc(n m:Nat)(f:Int):Prop:=(0<=f->m*2^f.toNat<=n/\n<m*2^(f.toNat+1))/\(f<0->m<=n*2^(-f).toNat/\n*2^(-f).toNat<2*m)
theorem blen_bounds{n:Nat}(h:0<n):∃ L,blen n=L+1/\2^L<=n/\n<2^(L+1):=by
 have h1:=pow_blen_le h;have h2:=lt_pow_blen n
 have h3:blen n≠0:=by rw [Ne,blen_eq_zero];omega
 refine⟨blen n - 1,by omega,?_,?_⟩
 ·exact h1
 ·rwa [show blen n - 1+1=blen n from by omega]
theorem scale_keep{n m:Nat}{f:Int}(hn:0<n)(hm:0<m)(hf:f=(blen n:Int) - blen m)(h1:0<=f->m*2^f.toNat<=n)(h2:f<0->m<=n*2^(-f).toNat):Sc n m f:=by
 obtain⟨L,e1,a1,a2⟩:=blen_bounds hn;obtain⟨R,e2,b1,b2⟩:=blen_bounds hm;refine⟨fun h=>⟨h1 h,?_⟩,fun h=>⟨h2 h,?_⟩⟩
 ·obtain⟨k,rfl⟩:∃ k:Nat,f=k:=⟨f.toNat,by omega⟩
  rw [Int.toNat_natCast]
  have:L=R+k:=by omega
  subst this
  calc n<2^(R+k+1):=a2
   _=2^R*2^(k+1):=by rw [<- Nat.pow_add];congr 1
   _<=m*2^(k+1):=Nat.mul_le_mul_right _ b1
 ·obtain⟨k,hk⟩:∃ k:Nat,-f=k:=⟨(-f).toNat,by omega⟩
  rw [hk,Int.toNat_natCast]
  have:R=L+k:=by omega
  subst this
  calc n*2^k<2^(L+1)*2^k:=Nat.mul_lt_mul_of_pos_right a2 (Nat.two_pow_pos k)
   _=2*2^(L+k):=by rw [<- Nat.pow_add,show L+1+k=(L+k)+1 from by omega,Nat.pow_succ,Nat.mul_comm]
   _<=2*m:=Nat.mul_le_mul_left _ b1
theorem scale_down{n m:Nat}{f:Int}(hn:0<n)(hm:0<m)(hf:f=(blen n:Int) - blen m)(h1:0<=f->n<m*2^f.toNat)(h2:f<0->n*2^(-f).toNat<m):Sc n m (f - 1):=by
 obtain⟨L,e1,a1,a2⟩:=blen_bounds hn;obtain⟨R,e2,b1,b2⟩:=blen_bounds hm
 rcases Int.lt_trichotomy f 0 with h | h | h
 ·refine⟨fun h'=>by omega,fun _=>?_⟩;have h2:=h2 h
  obtain⟨k,hk⟩:∃ k:Nat,-f=k:=⟨(-f).toNat,by omega⟩
  rw [hk,Int.toNat_natCast] at h2;rw [show -(f - 1)=((k+1:Nat):Int) from by omega,Int.toNat_natCast]
  have:R=L+k:=by omega
  subst this;refine⟨?_,by rw [Nat.pow_succ,<- Nat.mul_assoc];omega⟩;refine Nat.le_of_lt ?_
  calc m<2^(L+k+1):=b2
   _=2^L*2^(k+1):=by rw [<- Nat.pow_add];congr 1
   _<=n*2^(k+1):=Nat.mul_le_mul_right _ a1
 ·subst h;refine⟨fun h'=>by omega,fun _=>?_⟩;have h1:=h1 (by omega)
  simp at h1 ⊢
  have:R=L:=by omega
  subst this;rw [Nat.pow_succ] at b2
  omega
 ·refine⟨fun _=>?_,fun h'=>by omega⟩;have h1:=h1 (by omega)
  obtain⟨k,hk⟩:∃ k:Nat,f=((k+1:Nat):Int):=⟨(f - 1).toNat,by omega⟩
  rw [hk,Int.toNat_natCast] at h1;rw [show f - 1=(k:Int) from by omega,Int.toNat_natCast];refine⟨?_,h1⟩
  have:L=R+(k+1):=by omega
  subst this;refine Nat.le_of_lt ?_
  calc m*2^k<2^(R+1)*2^k:=Nat.mul_lt_mul_of_pos_right b2 (Nat.two_pow_pos k)
   _=2^(R+(k+1)):=by rw [<- Nat.pow_add];congr 1;omega
   _<=n:=a1
def lastBit(f:Int):Int:=if f - 52 < -1074 then -1074 else f - 52
def upN(n:Nat)(e:Int):Nat:=n*2^(-e).toNat
def upM(m:Nat)(e:Int):Nat:=m*2^e.toNat
theorem w_lt{n m:Nat}{f:Int}(hm:0<m)(h:Sc n m f):upN n (lastBit f) / upM m (lastBit f)<2^53:=by
 have hM:0<upM m (lastBit f):=Nat.mul_pos hm (Nat.two_pow_pos _);rw [Nat.div_lt_iff_lt_mul hM]
 have he:f - 52<=lastBit f:=by unfold lastBit;split<;>omega
 obtain⟨e,hee⟩:∃ e,lastBit f=e:=⟨_,rfl⟩
 rw [hee] at he ⊢;unfold upN upM
 rcases Int.lt_or_le f 0 with hf | hf
 ·have h2:=(h.2 hf).2
  obtain⟨k,hk⟩:∃ k:Nat,-f=k:=⟨(-f).toNat,by omega⟩
  rw [hk,Int.toNat_natCast] at h2
  rcases Int.lt_or_le e 0 with h0 | h0
  ·rw [show e.toNat=0 from by omega,Nat.pow_zero,Nat.mul_one]
   calc n*2^(-e).toNat<=n*2^(k+52):=Nat.mul_le_mul_left _ (Nat.pow_le_pow_right (by omega) (by omega))
    _=n*2^k*2^52:=by rw [Nat.pow_add,Nat.mul_assoc]
    _<2*m*2^52:=Nat.mul_lt_mul_of_pos_right h2 (Nat.two_pow_pos 52)
    _=2^53*m:=by omega
  ·rw [show (-e).toNat=0 from by omega,Nat.pow_zero,Nat.mul_one];have h3:n<=n*2^k:=Nat.le_mul_of_pos_right _ (Nat.two_pow_pos k);have h4:m<=m*2^e.toNat:=Nat.le_mul_of_pos_right _ (Nat.two_pow_pos _);have:2*m<=2^53*(m*2^e.toNat):=Nat.mul_le_mul (by omega) h4
   omega
 ·have h2:=(h.1 hf).2
  obtain⟨k,rfl⟩:∃ k:Nat,f=k:=⟨f.toNat,by omega⟩
  rw [Int.toNat_natCast] at h2
  rcases Int.lt_or_le e 0 with h0 | h0
  ·rw [show e.toNat=0 from by omega,Nat.pow_zero,Nat.mul_one]
   calc n*2^(-e).toNat<m*2^(k+1)*2^(-e).toNat:=Nat.mul_lt_mul_of_pos_right h2 (Nat.two_pow_pos _)
    _=m*2^(k+1+(-e).toNat):=by rw [Nat.mul_assoc,<- Nat.pow_add]
    _<=m*2^53:=Nat.mul_le_mul_left _ (Nat.pow_le_pow_right (by omega) (by omega))
    _=2^53*m:=Nat.mul_comm _ _
  ·rw [show (-e).toNat=0 from by omega,Nat.pow_zero,Nat.mul_one]
   calc n<m*2^(k+1):=h2
    _<=m*2^(53+e.toNat):=Nat.mul_le_mul_left _ (Nat.pow_le_pow_right (by omega) (by omega))
    _=2^53*(m*2^e.toNat):=by rw [Nat.pow_add];ac_rfl
theorem w_ge{n m:Nat}{f:Int}(hm:0<m)(h:Sc n m f)(hb:-1074<lastBit f):2^52<=upN n (lastBit f) / upM m (lastBit f):=by
 have hM:0<upM m (lastBit f):=Nat.mul_pos hm (Nat.two_pow_pos _);rw [Nat.le_div_iff_mul_le hM]
 have he:lastBit f=f - 52:=by unfold lastBit at *;split at*<;> omega
 rw [he];unfold upN upM
 rcases Int.lt_or_le f 0 with hf | hf
 ·have h2:=(h.2 hf).1
  obtain⟨k,hk⟩:∃ k:Nat,-f=k:=⟨(-f).toNat,by omega⟩
  rw [hk,Int.toNat_natCast] at h2;rw [show (f - 52).toNat=0 from by omega,Nat.pow_zero,Nat.mul_one,show -(f - 52)=((k+52:Nat):Int) from by omega,Int.toNat_natCast,Nat.pow_add]
  calc 2^52*m<=2^52*(n*2^k):=Nat.mul_le_mul_left _ h2
   _=n*(2^k*2^52):=by ac_rfl
 ·have h2:=(h.1 hf).1
  obtain⟨k,rfl⟩:∃ k:Nat,f=k:=⟨f.toNat,by omega⟩
  rw [Int.toNat_natCast] at h2
  rcases Int.lt_or_le (k:Int) 52 with h0 | h0
  ·rw [show ((k:Int) - 52).toNat=0 from by omega,Nat.pow_zero,Nat.mul_one]
   have:52=k+(-((k:Int) - 52)).toNat:=by omega
   calc 2^52*m=2^(k+(-((k:Int) - 52)).toNat)*m:=by rw [<- this]
    _=m*2^k*2^(-((k:Int) - 52)).toNat:=by rw [Nat.pow_add];ac_rfl
    _<=n*2^(-((k:Int) - 52)).toNat:=Nat.mul_le_mul_right _ h2
  ·rw [show (-((k:Int) - 52)).toNat=0 from by omega,Nat.pow_zero,Nat.mul_one]
   have:k=52+((k:Int) - 52).toNat:=by omega
   calc 2^52*(m*2^((k:Int) - 52).toNat)=m*2^(52+((k:Int) - 52).toNat):=by rw [Nat.pow_add];ac_rfl
    _=m*2^k:=by rw [<- this]
    _<=n:=h2
theorem units{n m U:Nat}{e:Int}(hm:0<m)(he:-(U:Int)<=e):
  (upN n e / upM m e)*2^(e+U).toNat*m<=n*2^U/\n*2^U<(upN n e / upM m e+1)*2^(e+U).toNat*m /\
   (upN n e % upM m e=0->n*2^U=(upN n e / upM m e)*2^(e+U).toNat*m)/\(upN n e % upM m e≠0->(upN n e / upM m e)*2^(e+U).toNat*m<n*2^U):=by
 have hM:0<upM m e:=Nat.mul_pos hm (Nat.two_pow_pos _);have h1:=Nat.div_add_mod (upN n e) (upM m e);have h2:=Nat.mod_lt (upN n e) hM
 obtain⟨c,hc,hN,hP⟩:∃ c,0<c/\n*2^U=upN n e*c/\2^(e+U).toNat*m=upM m e*c:=by
  rcases Int.lt_or_le e 0 with h0 | h0
  ·refine⟨2^(e+U).toNat,Nat.two_pow_pos _,?_,?_⟩
   ·unfold upN;rw [Nat.mul_assoc,<- Nat.pow_add]
    congr 2;omega
   ·unfold upM;rw [show e.toNat=0 from by omega,Nat.pow_zero,Nat.mul_one,Nat.mul_comm]
  ·refine⟨2^U,Nat.two_pow_pos _,?_,?_⟩
   ·unfold upN;rw [show (-e).toNat=0 from by omega,Nat.pow_zero,Nat.mul_one]
   ·unfold upM;rw [show (e+U).toNat=e.toNat+U from by omega,Nat.pow_add];ac_rfl
 obtain⟨D,hD⟩:∃ D,upM m e=D:=⟨_,rfl⟩
 obtain⟨q,hq⟩:∃ q,upN n e / D=q:=⟨_,rfl⟩
 obtain⟨r,hr⟩:∃ r,upN n e % D=r:=⟨_,rfl⟩
 rw [hD] at h1 h2 hP ⊢;rw [hq,hr] at h1;rw [hr] at h2;rw [hq,hr,hN,Nat.mul_assoc,Nat.mul_assoc,hP,<- h1]
 have e1:q*(D*c)=D*q*c:=by ac_rfl
 have e2:(q+1)*(D*c)=(D*q+D)*c:=by rw [Nat.add_mul,Nat.one_mul,e1,Nat.add_mul]
 rw [e1,e2];refine⟨Nat.mul_le_mul_right _ (by omega),Nat.mul_lt_mul_of_pos_right (by omega) hc,fun h=>by rw [h,Nat.add_zero],fun h=>Nat.mul_lt_mul_of_pos_right (by omega) hc⟩
end
section
open Go.RowKit
def cutT(n m:Nat)(e:Int):Nat:=(e+1074).toNat*2^52+upN n e / upM m e
def capT(n m:Nat)(e:Int):Nat:=(e+1074).toNat*2^52+(upN n e / upM m e+if upN n e % upM m e=0 then 0 else 1)
theorem lastBit_bounds{f:Int}(hf:f<=1023):-1074<=lastBit f/\lastBit f<=971:=by unfold lastBit;split<;>omega
theorem mag_cut{n m:Nat}{f:Int}(hm:0<m)(h:Sc n m f)(c:Nat)(hc:c<=1):
  mag ((lastBit f+1074).toNat*2^52+(upN n (lastBit f) / upM m (lastBit f)+c))=(upN n (lastBit f) / upM m (lastBit f)+c)*2^(lastBit f+1074).toNat:=by
 have h1:=w_lt hm h;refine mag_form _ _ ?_ (by omega)
 by_cases hb:-1074<lastBit f
 ·have:=w_ge hm h hb;right;omega
 ·left;omega
theorem cut_lt{n m:Nat}{f:Int}(hm:0<m)(h:Sc n m f)(hf:f<=1023):cutT n m (lastBit f)<M:=by
 have h1:=w_lt hm h;have h2:=lastBit_bounds hf;unfold cutT;rw [M_val];omega
theorem cap_le{n m:Nat}{f:Int}(hm:0<m)(h:Sc n m f)(hf:f<=1023):capT n m (lastBit f)<=M:=by
 have h1:=w_lt hm h;have h2:=lastBit_bounds hf
 unfold capT;rw [M_val];split<;>omega
theorem cut_law{n m U:Nat}{f:Int}(hU:U=1074)(hm:0<m)(h:Sc n m f)(hf:f<=1023)(r:Nat):r<=cutT n m (lastBit f)↔mag r*m<=n*2^U:=by
 have hb:=lastBit_bounds hf;obtain⟨u1,u2,-,-⟩:=units (n:=n) (U:=U) hm (show -(U:Int)<=lastBit f by omega);have m0:=mag_cut hm h 0 (by omega);have m1:=mag_cut hm h 1 (by omega);rw [Nat.add_zero] at m0;rw [show (lastBit f+(U:Int)).toNat=(lastBit f+1074).toNat from by omega] at u1 u2;rw [<- m0] at u1;rw [<- m1] at u2
 have e:(lastBit f+1074).toNat*2^52+(upN n (lastBit f) / upM m (lastBit f)+1)=cutT n m (lastBit f)+1:=by unfold cutT;omega
 rw [e] at u2
 constructor
 ·intro hr;have h1:mag r<=mag (cutT n m (lastBit f)):=mag_le_iff.2 hr
  exact Nat.le_trans (Nat.mul_le_mul_right m h1) u1
 ·intro hr
  by_cases hc:r<=cutT n m (lastBit f)
  ·exact hc
  ·have h1:mag (cutT n m (lastBit f)+1)<=mag r:=mag_le_iff.2 (by omega);have h2:=Nat.mul_le_mul_right m h1
   exact absurd (Nat.lt_of_lt_of_le u2 h2) (by omega)
theorem cap_law{n m U:Nat}{f:Int}(hU:U=1074)(hm:0<m)(h:Sc n m f)(hf:f<=1023)(r:Nat):capT n m (lastBit f)<=r↔n*2^U<=mag r*m:=by
 have hb:=lastBit_bounds hf;obtain⟨u1,u2,u3,u4⟩:=units (n:=n) (U:=U) hm (show -(U:Int)<=lastBit f by omega);have m0:=mag_cut hm h 0 (by omega);have m1:=mag_cut hm h 1 (by omega);rw [Nat.add_zero] at m0;rw [show (lastBit f+(U:Int)).toNat=(lastBit f+1074).toNat from by omega] at u1 u2 u3 u4;rw [<- m0] at u1 u3 u4;rw [<- m1] at u2
 have e:(lastBit f+1074).toNat*2^52+(upN n (lastBit f) / upM m (lastBit f)+1)=cutT n m (lastBit f)+1:=by unfold cutT;omega
 have e0:(lastBit f+1074).toNat*2^52+(upN n (lastBit f) / upM m (lastBit f))=cutT n m (lastBit f):=rfl;rw [e] at u2;rw [e0] at u1 u3 u4
 by_cases hz:upN n (lastBit f) % upM m (lastBit f)=0
 ·have hc:capT n m (lastBit f)=cutT n m (lastBit f):=by unfold capT cutT;rw [if_pos hz,Nat.add_zero]
  rw [hc,u3 hz]
  constructor
  ·intro hr;exact Nat.mul_le_mul_right m (mag_le_iff.2 hr)
  ·intro hr
   exact mag_le_iff.1 (Nat.le_of_mul_le_mul_right hr hm)
 ·have hc:capT n m (lastBit f)=cutT n m (lastBit f)+1:=by unfold capT cutT;rw [if_neg hz];omega
  rw [hc];have u4:=u4 hz
  constructor
  ·intro hr
   exact Nat.le_trans (Nat.le_of_lt u2) (Nat.mul_le_mul_right m (mag_le_iff.2 hr))
  ·intro hr;have h2:=Nat.lt_of_mul_lt_mul_right (Nat.lt_of_lt_of_le u4 hr);have:=mag_lt_iff.1 h2
   omega
theorem over_law{n m U:Nat}{f:Int}(hU:U=1074)(hm:0<m)(h:Sc n m f)(hf:1023<f)(r:Nat)(hr:r<M):mag r*m<n*2^U:=by
 have h1:=(h.1 (by omega)).1;have h2:mag r<mag M:=mag_lt_iff.2 hr
 have h3:mag M=2^52*2^2046:=by
  have:=mag_form 2046 (2^52) (.inr (Nat.le_refl _)) (by decide);rw [<- this];rfl
 rw [h3] at h2
 obtain⟨k,rfl⟩:∃ k:Nat,f=((1024+k:Nat):Int):=⟨(f - 1024).toNat,by omega⟩
 rw [Int.toNat_natCast] at h1
 obtain⟨V,hV⟩:∃ V,V=2046:=⟨_,rfl⟩
 rw [<- hV] at h2
 calc mag r*m<2^52*2^V*m:=Nat.mul_lt_mul_of_pos_right h2 hm
  _=m*2^(52+V):=by rw [Nat.pow_add];ac_rfl
  _<=m*2^(1024+k+U):=Nat.mul_le_mul_left _ (Nat.pow_le_pow_right (by omega) (by omega))
  _=m*2^(1024+k)*2^U:=by rw [Nat.pow_add 2 (1024+k) U,Nat.mul_assoc]
  _<=n*2^U:=Nat.mul_le_mul_right _ h1
theorem rv_le_false{p q p' q':Nat}(hq:0<q)(hq':0<q'):rv false p q<=rv false p' q'↔p*q'<=p'*q:=by
 have:=rv_lt_false (p:=p') (p':=p) hq' hq
 constructor
 ·intro h
  by_cases hc:p*q'<=p'*q
  ·exact hc
  ·exact absurd (this.2 (by omega)) (by grind)
 ·intro h
  by_cases hc:rv false p q<=rv false p' q'
  ·exact hc
  ·have:=this.1 (by grind);omega
theorem fl_nat(r:Nat){U:Nat}(hU:U=1074):fl (r:Int)=rv false (mag r) (2^U):=by
 unfold rv fl;rw [if_neg (by decide),val_nat];refine eq_div (cast_ne (Nat.two_pow_pos U)) ?_;rw [<- zpow_nat,show (-1074:Int)=-(U:Int) from by omega,Rat.mul_assoc,<- zpow_add,show -(U:Int)+(U:Int)=0 from by omega,Rat.zpow_zero,Rat.mul_one]
 rfl
theorem fl_neg(i:Int):fl (-i)=- fl i:=by
 unfold fl;rw [val_neg,Rat.intCast_neg];grind
theorem fl_lt_iff{i j:Int}:fl i<fl j↔i<j:=by
 unfold fl;rw [Rat.mul_lt_mul_right (zpow_pos _),Rat.intCast_lt_intCast,val_lt_iff]
theorem fl_le_iff{i j:Int}:fl i<=fl j↔i<=j:=by
 have:=@fl_lt_iff j i
 constructor
 ·intro h
  by_cases hc:i<=j
  ·exact hc
  ·exact absurd (this.2 (by omega)) (by grind)
 ·intro h
  by_cases hc:fl i<=fl j
  ·exact hc
  ·have:=this.1 (by grind);omega
theorem fl_zero:fl 0=0:=by unfold fl;rw [val_zero];grind
def Rnd(d:Int)(x:Rat)(i:Int):Prop:=
 (d=-1/\-(M:Int)<=i/\i<M/\∀ j:Int,-(M:Int)<j->j<M->(j<=i↔fl j<=x)) \/
 (d=1/\-(M:Int)<i/\i<=M/\∀ j:Int,-(M:Int)<j->j<M->(i<=j↔x<=fl j))
theorem Rnd.neg{d:Int}{x:Rat}{i:Int}(h:Rnd d x i):Rnd (-d) (-x) (-i):=by
 rcases h with ⟨rfl,h1,h2,h3⟩ | ⟨rfl,h1,h2,h3⟩
 ·refine .inr ⟨rfl,by omega,by omega,fun j hj hj'=>?_⟩;have:=h3 (-j) (by omega) (by omega);rw [fl_neg] at this
  constructor
  ·intro h;have:=this.1 (by omega);grind
  ·intro h;have:=this.2 (by grind);omega
 ·refine .inl ⟨rfl,by omega,by omega,fun j hj hj'=>?_⟩;have:=h3 (-j) (by omega) (by omega);rw [fl_neg] at this
  constructor
  ·intro h;have:=this.1 (by omega);grind
  ·intro h;have:=this.2 (by grind);omega
theorem Rnd.exact{d a i:Int}(h:Rnd d (fl a) i)(h0:-(M:Int)<a)(h1:a<M):i=a:=by
 rcases h with ⟨rfl,a1,a2,a3⟩ | ⟨rfl,a1,a2,a3⟩
 ·have h2:=(a3 a h0 h1).2 Rat.le_refl
  by_cases hc:i=a
  ·exact hc
  ·have:=(a3 i (by omega) a2).1 (by omega);rw [fl_le_iff] at this;omega
 ·have h2:=(a3 a h0 h1).2 Rat.le_refl
  by_cases hc:i=a
  ·exact hc
  ·have:=(a3 i a1 (by omega)).1 (by omega);rw [fl_le_iff] at this;omega
theorem rnd_zero{d:Int}(hd:d=-1\/d=1):Rnd d 0 0:=by
 rw [<- fl_zero]
 rcases hd with rfl | rfl
 ·exact .inl ⟨rfl,by rw [M_val];omega,by rw [M_val];omega,fun j _ _=>fl_le_iff.symm⟩
 ·exact .inr ⟨rfl,by rw [M_val];omega,by rw [M_val];omega,fun j _ _=>fl_le_iff.symm⟩
theorem rnd_down{n m t U:Nat}(hU:U=1074)(hn:0<n)(hm:0<m)(ht:t<M)(h:∀ r:Nat,r<M->(r<=t↔mag r*m<=n*2^U)):Rnd (-1) (rv false n m) t:=by
 refine .inl ⟨rfl,by omega,by omega,fun j hj hj'=>?_⟩
 rcases Int.lt_or_le j 0 with h0 | h0
 ·have h1:fl j<fl 0:=fl_lt_iff.2 h0;rw [fl_zero] at h1;have h2:=rv_pos hn hm
  constructor
  ·intro _;grind
  ·intro _;omega
 ·obtain⟨r,rfl⟩:∃ r:Nat,j=r:=⟨j.toNat,by omega⟩
  rw [fl_nat r hU,rv_le_false (Nat.two_pow_pos U) hm,<- h r (by omega)]
  omega
theorem rnd_up{n m t U:Nat}(hU:U=1074)(hn:0<n)(hm:0<m)(ht:t<=M)(h:∀ r:Nat,r<M->(t<=r↔n*2^U<=mag r*m)):Rnd 1 (rv false n m) t:=by
 have hp:0<n*2^U:=Nat.mul_pos hn (Nat.two_pow_pos U)
 have h0:0<t:=by
  have h1:=h 0 (by rw [M_val];omega);rw [mag_zero,Nat.zero_mul] at h1
  omega
 refine .inr ⟨rfl,by omega,by omega,fun j hj hj'=>?_⟩
 rcases Int.lt_or_le j 0 with h0 | h0
 ·have h1:fl j<fl 0:=fl_lt_iff.2 h0;rw [fl_zero] at h1;have h2:=rv_pos hn hm
  constructor
  ·intro _;omega
  ·intro _;grind
 ·obtain⟨r,rfl⟩:∃ r:Nat,j=r:=⟨j.toNat,by omega⟩
  rw [fl_nat r hU,rv_le_false hm (Nat.two_pow_pos U),<- h r (by omega)]
  omega
def sg(neg:Bool)(t:Nat):Int:=if neg then -(t:Int) else (t:Int)
def ansT(p q:Nat)(f:Int)(away:Bool):Nat:=if 1023<f then (if away then M else M - 1) else (if away then capT p q (lastBit f) else cutT p q (lastBit f))
theorem rnd_ans{p q:Nat}{f d:Int}{neg:Bool}(hp:0<p)(hq:0<q)(h:Sc p q f)(hd:d=-1\/d=1):Rnd d (rv neg p q) (sg neg (ansT p q f (decide (d=1) != neg))):=by
 obtain⟨U,hU⟩:∃ U,U=1074:=⟨_,rfl⟩
 have up:Rnd 1 (rv false p q) (ansT p q f true):=by
  unfold ansT
  by_cases hf:1023<f
  ·rw [if_pos hf,if_pos rfl];refine rnd_up hU hp hq (Nat.le_refl _) fun r hr=>?_;have:=over_law hU hq h hf r hr
   omega
  ·rw [if_neg hf,if_pos rfl]
   exact rnd_up hU hp hq (cap_le hq h (by omega)) fun r _=>cap_law hU hq h (by omega) r
 have down:Rnd (-1) (rv false p q) (ansT p q f false):=by
  unfold ansT
  by_cases hf:1023<f
  ·rw [if_pos hf,if_neg (by decide)];refine rnd_down hU hp hq (by rw [M_val];omega) fun r hr=>?_;have:=over_law hU hq h hf r hr
   omega
  ·rw [if_neg hf,if_neg (by decide)]
   exact rnd_down hU hp hq (cut_lt hq h (by omega)) fun r _=>cut_law hU hq h (by omega) r
 rcases hd with rfl | rfl<;>cases neg
 ·exact down
 ·have:=up.neg;rw [<- rv_true] at this
  exact this
 ·exact up
 ·have:=down.neg;rw [<- rv_true] at this
  exact this
end
section
open Go.RowKit
end
section
open Go.RowKit
end
section
open Go.RowKit
end
section
open Go.RowKit
def es(i:Int):Int:=if i=M then 1 else if i=-(M:Int) then -1 else 0
def ex(i:Int):Rat:=if es i=0 then fl i else 0
theorem es_max:es M=1:=rfl
theorem es_min:es (-(M:Int))=-1:=by decide
theorem ex_max:ex M=0:=rfl
theorem ex_min:ex (-(M:Int))=0:=by unfold ex;rw [es_min];rfl
theorem es_mid{i:Int}(h:-(M:Int)<i)(h':i<M):es i=0:=by unfold es;rw [if_neg (by omega),if_neg (by omega)]
theorem ex_mid{i:Int}(h:-(M:Int)<i)(h':i<M):ex i=fl i:=by unfold ex;rw [es_mid h h'];rfl
end
section
open Go.RowKit
def ec(s:Int)(x:Rat)(t:Int)(y:Rat):Int:=if s=t then (if s=0 then rc x y else 0) else if s<t then -1 else 1
theorem ec_lt{s t:Int}(x y:Rat)(h:s<t):ec s x t y=-1:=by unfold ec;rw [if_neg (by omega),if_pos h]
theorem ec_gt{s t:Int}(x y:Rat)(h:t<s):ec s x t y=1:=by unfold ec;rw [if_neg (by omega),if_neg (by omega)]
theorem ec_inf{s t:Int}(x y:Rat)(h:s=t)(h0:s≠0):ec s x t y=0:=by unfold ec;rw [if_pos h,if_neg h0]
theorem ec_zero(x y:Rat):ec 0 x 0 y=rc x y:=by unfold ec;rw [if_pos rfl,if_pos rfl]
end
end Go.Proofs.YthlmlmfebpjgdaaGreatDoor
