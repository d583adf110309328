/-
Walks: package vergeref2, Minus.
How two ratios compare: plain.
Walks: package vergeref2, RCmp.
Floats of 64 bits as rungs: the magnitude of a rung, its order, and how the model's 'nearest', 'order', 'add' read in these words. Plain Lean: no program in sight.
The model's floats of 64 bits (Ieee.double) in rungs: 'nearest', 'read', 'order'.
A word of 64 bits as an index (its rung, with the sign), and an index as a whole number of units of 2^-1074; how the model's comparisons, sums and products of words read in these words.
Patterns of binary64: plain ones, keys, what is read of two ends. No program.
Walks: package vergeref2, Small, Word.
Walks: package vergeref2, FromBits.
Walks: package vergeref2, Int of a natural.
Walks: packages vergeref3 and vergeref6, patterns.
-/
import Derived.Test.YthlmlmfebpjgdaaGreatDoorM03
import Derived.Test.YthlmlmfebpjgdaaGreatDoorM02
import Derived.Laws.FloatBits
set_option linter.unusedSimpArgs false
set_option linter.unusedVariables false
set_option maxHeartbeats 12800000
namespace Go.Proofs.YthlmlmfebpjgdaaGreatDoor
open Go.RowKit
theorem nminus_any(A B:Option Addr)(n c m d:Nat)(xs ys:List Nat)(w:World)(hx:U32s w A n c xs)(hy:U32s w B m d ys)(hs1:n≤34359738360)(hle:num ys≤num xs):
  Calls Tryz.prog 99 #[.slice A n c,.slice B m d] w (NewU32 w (digs (num xs - num ys))):=by
 have HX:=Hd hx;have HY:=Hd hy;have HLE:=Hd hle;clear hx hy hle
 go_enter Tryz.func99,Tryz.ntmps99
 go_wp2
 go_loopw [5,6,7] (fun v cv iv wr=>∃ (i k:Nat) (ls:List Nat),iv=.int .i64 i∧cv=.int .u64 k∧i≤n∧MinusInv xs ys ls i k∧Own wr w.heap.size v ls∧Below w.heap.size w wr) (fun _ _ iv _=>n - (intOf iv).toNat)
 case atStart=>exact⟨0,0,[],rfl,rfl,Nat.zero_le _,MinusInv.start _ _,Own.nil _ _,Below.refl _ _⟩
 case round=>
  obtain⟨i,k,ls,rfl,rfl,hi,hinv,hown,hb⟩:=hrel;have hk1:=hinv.carry;have hlen:=hinv.len;have HI:=Hd hinv;have HO:=Hd hown;clear hinv hown;have hbs:=hb.size;have HL:=Hd hlen;clear hlen
  by_cases ha:i<n
  ·obtain⟨ad,e,hc⟩:=(HX.out.below hb).cell (j:=i) ha
   cases e
   have hx1:=HX.out.lt i;have hst:=fun d c'=>HI.out.step (d:=d) (c':=c')
   obtain⟨x,hxx⟩:∃ r,xs[i]?.getD 0=r:=⟨_,rfl⟩
   rw [hxx] at hc hx1
   simp only [hxx] at hst
   clear hxx
   by_cases hbb:i<m
   ·obtain⟨ad',e,hc'⟩:=(HY.out.below hb).cell (j:=i) hbb
    cases e
    have hy1:=HY.out.lt i
    obtain⟨y,hyy⟩:∃ r,ys[i]?.getD 0=r:=⟨_,rfl⟩
    rw [hyy] at hc' hy1
    simp only [hyy] at hst
    clear hyy
    by_cases hxy:x<k+y
    ·obtain⟨D,hD⟩:∃ D:Nat,D+(k+y)=x+4294967296:=⟨x+4294967296 - (k+y),by omega⟩
     have hlt:(x:Int)<(k:Int)+(y:Int):=by omega
     have e1:(x:Int)+4294967296 - ((k:Int)+(y:Int))=(D:Int):=by omega
     have hD1:D<4294967296:=by omega
     have HS:=Hd (hst D 1 hD1 (by omega) (by omega));clear hst hD hxy
     go_wp2_with (at_builtin;refine wpList_append_u32 _ rfl _ _ rfl w.heap.size _ ls rfl (HO.out.alloc _) ⟨_,0,none⟩ 1 D rfl ?c1al ?c2al ?c3al ?_)
     try case c1al=>simp
     case c2al=>rw [HL.out];omega
     case c3al=>first | omega | (simp;omega)
     intro v' w' hown' hgrow;have HO':=Hd hown';have hb':Below w.heap.size w w':=(hb.alloc hbs _).grown hgrow (by simp;omega) (fun g hg=>(HO.out.lt g hg).1);clear hown' hb hgrow hc hc' hbs hlt e1;go_wp2
     go_roundw
     case rel=>exact⟨i+1,1,_,by go_num,by go_num,by omega,HS.out,HO'.out,hb'⟩
     case measure=>simp [intOf];omega
    ·obtain⟨D,hD⟩:∃ D:Nat,D+(k+y)=x:=⟨x - (k+y),by omega⟩
     have hlt:¬ (x:Int)<(k:Int)+(y:Int):=by omega
     have e1:(x:Int) - ((k:Int)+(y:Int))=(D:Int):=by omega
     have hD1:D<4294967296:=by omega
     have HS:=Hd (hst D 0 hD1 (by omega) (by omega));clear hst hD hxy
     go_wp2_with (at_builtin;refine wpList_append_u32 _ rfl _ _ rfl w.heap.size _ ls rfl (HO.out.alloc _) ⟨_,0,none⟩ 1 D rfl ?c1ag ?c2ag ?c3ag ?_)
     try case c1ag=>simp
     case c2ag=>rw [HL.out];omega
     case c3ag=>first | omega | (simp;omega)
     intro v' w' hown' hgrow;have HO':=Hd hown';have hb':Below w.heap.size w w':=(hb.alloc hbs _).grown hgrow (by simp;omega) (fun g hg=>(HO.out.lt g hg).1);clear hown' hb hgrow hc hc' hbs hlt e1;go_wp2
     go_roundw
     case rel=>exact⟨i+1,0,_,by go_num,by go_num,by omega,HS.out,HO'.out,hb'⟩
     case measure=>simp [intOf];omega
   ·have hz:ys[i]?.getD 0=0:=by rw [List.getElem?_eq_none (by rw [HY.out.len];omega)];rfl
    simp only [hz] at hst
    clear hz
    by_cases hxy:x<k
    ·obtain⟨D,hD⟩:∃ D:Nat,D+(k)=x+4294967296:=⟨x+4294967296 - (k),by omega⟩
     have hlt:(x:Int)<(k:Int):=by omega
     have e1:(x:Int)+4294967296 - ((k:Int))=(D:Int):=by omega
     have hD1:D<4294967296:=by omega
     have HS:=Hd (hst D 1 hD1 (by omega) (by omega));clear hst hD hxy
     go_wp2_with (at_builtin;refine wpList_append_u32 _ rfl _ _ rfl w.heap.size _ ls rfl (HO.out.alloc _) ⟨_,0,none⟩ 1 D rfl ?c1bl ?c2bl ?c3bl ?_)
     try case c1bl=>simp
     case c2bl=>rw [HL.out];omega
     case c3bl=>first | omega | (simp;omega)
     intro v' w' hown' hgrow;have HO':=Hd hown';have hb':Below w.heap.size w w':=(hb.alloc hbs _).grown hgrow (by simp;omega) (fun g hg=>(HO.out.lt g hg).1);clear hown' hb hgrow hc hbs hlt e1;go_wp2
     go_roundw
     case rel=>exact⟨i+1,1,_,by go_num,by go_num,by omega,HS.out,HO'.out,hb'⟩
     case measure=>simp [intOf];omega
    ·obtain⟨D,hD⟩:∃ D:Nat,D+(k)=x:=⟨x - (k),by omega⟩
     have hlt:¬ (x:Int)<(k:Int):=by omega
     have e1:(x:Int) - ((k:Int))=(D:Int):=by omega
     have hD1:D<4294967296:=by omega
     have HS:=Hd (hst D 0 hD1 (by omega) (by omega));clear hst hD hxy
     go_wp2_with (at_builtin;refine wpList_append_u32 _ rfl _ _ rfl w.heap.size _ ls rfl (HO.out.alloc _) ⟨_,0,none⟩ 1 D rfl ?c1bg ?c2bg ?c3bg ?_)
     try case c1bg=>simp
     case c2bg=>rw [HL.out];omega
     case c3bg=>first | omega | (simp;omega)
     intro v' w' hown' hgrow;have HO':=Hd hown';have hb':Below w.heap.size w w':=(hb.alloc hbs _).grown hgrow (by simp;omega) (fun g hg=>(HO.out.lt g hg).1);clear hown' hb hgrow hc hbs hlt e1;go_wp2
     go_roundw
     case rel=>exact⟨i+1,0,_,by go_num,by go_num,by omega,HS.out,HO'.out,hb'⟩
     case measure=>simp [intOf];omega
  ·have hW:=HI.out.1;have hD:=HI.out.done (by rw [HX.out.len];omega) HX.out.w32 HY.out.w32 HLE.out;obtain⟨A',c',rfl⟩:=HO.out.form;have hu:=HO.out.u32s rfl hW (by rw [HL.out];omega);have hnorm:=norm_any _ _ _ _ _ hu (by rw [HL.out];omega);rw [trim_eq_digs hW,hD] at hnorm;have HN:=Hd hnorm;have HB:=Hd hb;clear hnorm hu hW hD hb hbs HI HO;go_wp2_with fail;refine HN.out.mono ?_;rintro e w'' ⟨A2,n2,c2,rfl,hu2,hb2⟩;have H2:=Hd (show NewU32 w (digs (num xs - num ys)) (.returned (.slice A2 n2 c2)) w'' from NewU32.trans ⟨A2,n2,c2,rfl,hu2,hb2⟩ HB.out);clear hu2 hb2 HB;go_wp2
   go_ret
   exact H2.out
def rc(x y:Rat):Int:=if x<y then -1 else if y<x then 1 else 0
theorem div_lt{a b c d:Rat}(hc:0<c)(hd:0<d):a / c<b / d↔a*d<b*c:=by
 have h1:0<c*d:=Rat.mul_pos hc hd
 have e1:a / c*(c*d)=a*d:=by
  rw [← Rat.mul_assoc,Rat.div_mul_cancel (by grind)]
 have e2:b / d*(c*d)=b*c:=by
  rw [Rat.mul_comm c d,← Rat.mul_assoc,Rat.div_mul_cancel (by grind)]
 rw [← e1,← e2]
 exact (Rat.mul_lt_mul_right h1).symm
theorem rv_lt_false{p q p' q':Nat}(hq:0<q)(hq':0<q'):rv false p q<rv false p' q'↔p*q'<p'*q:=by
 unfold rv
 simp only [Bool.false_eq_true,if_false]
 rw [div_lt (cast_pos hq) (cast_pos hq'),← Rat.natCast_mul,← Rat.natCast_mul,Rat.natCast_lt_natCast]
theorem rc_below{x y:Rat}(h:rsg x<rsg y):rc x y=-1:=by
 unfold rsg at h;unfold rc
 by_cases h1:x=0
 ·rw [if_pos h1] at h
  by_cases h2:y=0
  ·rw [if_pos h2] at h;omega
  ·rw [if_neg h2] at h
   by_cases h3:y<0
   ·rw [if_pos h3] at h;omega
   ·rw [if_pos (by grind)]
 ·rw [if_neg h1] at h
  by_cases h4:x<0
  ·rw [if_pos h4] at h
   by_cases h2:y=0
   ·rw [if_pos (by grind)]
   ·rw [if_neg h2] at h
    by_cases h3:y<0
    ·rw [if_pos h3] at h;omega
    ·rw [if_pos (by grind)]
  ·rw [if_neg h4] at h
   by_cases h2:y=0
   ·rw [if_pos h2] at h;omega
   ·rw [if_neg h2] at h
    by_cases h3:y<0
    ·rw [if_pos h3] at h;omega
    ·rw [if_neg h3] at h;omega
theorem rc_swap(x y:Rat):rc x y=-rc y x:=by
 unfold rc
 by_cases h1:x<y
 ·rw [if_pos h1,if_neg (by grind),if_pos h1]
 ·by_cases h2:y<x
  ·rw [if_neg h1,if_pos h2,if_pos h2];rfl
  ·rw [if_neg h1,if_neg h2,if_neg h2,if_neg h1];rfl
theorem rc_above{x y:Rat}(h:rsg y<rsg x):rc x y=1:=by rw [rc_swap,rc_below h];rfl
theorem heldc{w W W':World}{a0 a1 a2 b1 b2:Addr}{v0 v1 v2 u1 u2:Value}(h:W.cell? a0=some v0∧W.cell? a1=some v1∧W.cell? a2=some v2∧W.cell? b1=some u1∧W.cell? b2=some u2∧Below w.heap.size w W)(hb:Below W.heap.size W W'):
  W'.cell? a0=some v0∧W'.cell? a1=some v1∧W'.cell? a2=some v2∧W'.cell? b1=some u1∧W'.cell? b2=some u2∧Below w.heap.size w W':=by
 obtain⟨h0,h1,h2,h3,h4,h5⟩:=h
 exact⟨cell_below h0 hb,cell_below h1 hb,cell_below h2 hb,cell_below h3 hb,cell_below h4 hb,h5.trans (hb.mono h5.size)⟩
end Go.Proofs.YthlmlmfebpjgdaaGreatDoor
namespace Go.Proofs.YthlmlmfebpjgdaaGreatDoor
open Ieee
def mag(r:Nat):Nat:=if r<2^52 then r else (2^52+r % 2^52)*2^(r / 2^52 - 1)
theorem mag_small{r:Nat}(h:r<2^52):mag r=r:=by unfold mag;rw [if_pos h]
theorem mag_form(k q:Nat)(h:k=0∨2^52≤q)(hq:q≤2^53):mag (k*2^52+q)=q*2^k:=by
 unfold mag
 rcases Nat.lt_or_ge q (2^52) with h1 | h1
 ·rcases h with rfl | h
  ·rw [if_pos (by omega),Nat.zero_mul,Nat.zero_add,Nat.pow_zero,Nat.mul_one]
  ·omega
 ·rw [if_neg (by omega)]
  rcases Nat.lt_or_ge q (2^53) with h2 | h2
  ·have e1:(k*2^52+q) % 2^52=q - 2^52:=by omega
   have e2:(k*2^52+q) / 2^52 - 1=k:=by omega
   rw [e1,e2,Nat.add_sub_of_le h1]
  ·obtain rfl:q=2^53:=by omega
   have e1:(k*2^52+2^53) % 2^52=0:=by omega
   have e2:(k*2^52+2^53) / 2^52 - 1=k+1:=by omega
   rw [e1,e2,Nat.add_zero,← Nat.pow_add,← Nat.pow_add,Nat.add_comm 52,Nat.add_comm 53,Nat.add_assoc k 1 52]
theorem rung_form(r:Nat):∃ k q,r=k*2^52+q∧(k=0∨2^52≤q)∧q<2^53:=by
 rcases Nat.lt_or_ge r (2^52) with h | h
 ·exact⟨0,r,by omega,.inl rfl,by omega⟩
 ·refine⟨r / 2^52 - 1,2^52+r % 2^52,by omega,.inr (by omega),by omega⟩
theorem mag_succ(r:Nat):mag r<mag (r+1):=by
 obtain⟨k,q,rfl,h,hq⟩:=rung_form r;rw [mag_form k q h (by omega),Nat.add_assoc,mag_form k (q+1) (by omega) (by omega)]
 exact Nat.mul_lt_mul_of_pos_right (by omega) (Nat.two_pow_pos _)
theorem mag_lt{r s:Nat}(h:r<s):mag r<mag s:=by
 induction s with
 | zero=>omega
 | succ s ih=>
  rcases Nat.lt_or_ge r s with h1 | h1
  ·exact Nat.lt_trans (ih h1) (mag_succ s)
  ·obtain rfl:r=s:=by omega
   exact mag_succ r
theorem mag_lt_iff{r s:Nat}:mag r<mag s↔r<s:=by
 constructor
 ·intro h
  rcases Nat.lt_or_ge r s with h1 | h1
  ·exact h1
  ·rcases Nat.lt_or_ge s r with h2 | h2
   ·have:=mag_lt h2;omega
   ·obtain rfl:r=s:=by omega
    omega
 ·exact mag_lt
theorem mag_le_iff{r s:Nat}:mag r≤mag s↔r≤s:=by
 have:=@mag_lt_iff s r
 omega
theorem mag_inj{r s:Nat}(h:mag r=mag s):r=s:=by
 have h1:=@mag_le_iff r s;have h2:=@mag_le_iff s r
 omega
theorem mag_zero:mag 0=0:=rfl
theorem mag_eq_zero{r:Nat}:mag r=0↔r=0:=by
 constructor
 ·intro h;exact mag_inj (h.trans mag_zero.symm)
 ·rintro rfl;rfl
def over(n:Nat):Nat:=n.log2 - 52
def floorRung(n:Nat):Nat:=over n*2^52+n / 2^over n
theorem over_spec(n:Nat):(over n=0∨2^52≤n / 2^over n)∧n / 2^over n<2^53:=by
 unfold over
 by_cases h0:n=0
 ·subst h0;simp
 have h1:=Nat.log2_self_le h0;have h2:n<2^(n.log2+1):=Nat.lt_log2_self
 constructor
 ·by_cases h:n.log2≤52
  ·left;omega
  ·right
   rw [Nat.le_div_iff_mul_le (Nat.two_pow_pos _),← Nat.pow_add]
   exact Nat.le_trans (Nat.pow_le_pow_right (by omega) (by omega)) h1
 ·rw [Nat.div_lt_iff_lt_mul (Nat.two_pow_pos _),← Nat.pow_add]
  exact Nat.lt_of_lt_of_le h2 (Nat.pow_le_pow_right (by omega) (by omega))
theorem mag_floorRung(n:Nat):mag (floorRung n)=n / 2^over n*2^over n:=by
 unfold floorRung;have h:=over_spec n
 exact mag_form _ _ h.1 (by omega)
theorem mag_floorRung_le(n:Nat):mag (floorRung n)≤n:=by
 rw [mag_floorRung];exact Nat.div_mul_le_self _ _
theorem lt_mag_floorRung_succ(n:Nat):n<mag (floorRung n+1):=by
 unfold floorRung;have h:=over_spec n;rw [Nat.add_assoc,mag_form _ _ (by omega) (by omega)];have h1:=Nat.lt_div_mul_add (a:=n) (Nat.two_pow_pos (over n));rw [Nat.add_mul]
 omega
theorem le_floorRung{r n:Nat}:r≤floorRung n↔mag r≤n:=by
 constructor
 ·intro h;exact Nat.le_trans (mag_le_iff.2 h) (mag_floorRung_le n)
 ·intro h;have:=Nat.lt_of_le_of_lt h (lt_mag_floorRung_succ n);have:=mag_lt_iff.1 this
  omega
def bump(n k:Nat):Bool:=decide (2^k<2*(n % 2^k)) || (2^k == 2*(n % 2^k) && n / 2^k % 2 == 1)
def nearRung(n d:Nat):Nat:=floorRung (n / 2^d)+(bump n (d+over (n / 2^d))).toNat
theorem bump_rest{n k:Nat}(h:bump n k=true):n / 2^k*2^k<n:=by
 have h0:0<n % 2^k:=by
  unfold bump at h;have:=Nat.two_pow_pos k
  simp at h
  omega
 have h1:=Nat.div_add_mod n (2^k);rw [Nat.mul_comm] at h1
 omega
theorem div_div_pow(n d k:Nat):n / 2^d / 2^k=n / 2^(d+k):=by
 rw [Nat.div_div_eq_div_mul,Nat.pow_add]
theorem le_nearRung{r n d:Nat}(h:mag r*2^d≤n):r≤nearRung n d:=by
 have:mag r≤n / 2^d:=(Nat.le_div_iff_mul_le (Nat.two_pow_pos _)).2 h;have:=le_floorRung.2 this;unfold nearRung;omega
theorem nearRung_le{r n d:Nat}(h:n≤mag r*2^d):nearRung n d≤r:=by
 unfold nearRung
 cases hb:bump n (d+over (n / 2^d))
 ·simp
  refine mag_le_iff.1 (Nat.le_trans (mag_floorRung_le _) ?_)
  exact Nat.le_trans (Nat.div_le_div_right h) (by rw [Nat.mul_div_cancel _ (Nat.two_pow_pos _)];exact Nat.le_refl _)
 ·have h1:=bump_rest hb;rw [← div_div_pow,Nat.add_comm d,Nat.pow_add,← Nat.mul_assoc,← mag_floorRung] at h1;have h2:=Nat.lt_of_mul_lt_mul_right (Nat.lt_of_lt_of_le h1 h);have:=mag_lt_iff.1 h2
  simp;omega
theorem nearRung_mag(r d:Nat):nearRung (mag r*2^d) d=r:=
 Nat.le_antisymm (nearRung_le (Nat.le_refl _)) (le_nearRung (Nat.le_refl _))
def M:Nat:=2047*2^52
theorem infRung_eq:double.infRung=M:=by decide
theorem leastPlace_eq:double.leastPlace=-1074:=by decide
theorem binade_eq:double.binade=2^52:=by decide
theorem signWeight_eq:double.signWeight=2^63:=by decide
theorem log2_div_pow(n d:Nat):(n / 2^d).log2=n.log2 - d:=by
 by_cases h:n / 2^d=0
 ·rw [h]
  have h1:n<2^d:=by
   rcases Nat.div_eq_zero_iff.1 h with h | h
   ·have:=Nat.two_pow_pos d;omega
   ·exact h
  by_cases h0:n=0
  ·subst h0;simp
  ·have:=(Nat.log2_lt h0).2 h1
   simp;omega
 ·have hn:n≠0:=by rintro rfl;simp at h
  have h1:=Nat.log2_self_le hn;have h2:n<2^(n.log2+1):=Nat.lt_log2_self
  have hd:d≤n.log2:=by
   rcases Nat.lt_or_ge n.log2 d with h3 | h3
   ·exact absurd (Nat.div_eq_of_lt (Nat.lt_of_lt_of_le h2 (Nat.pow_le_pow_right (by omega) (by omega)))) h
   ·exact h3
  rw [Nat.log2_eq_iff h]
  constructor
  ·rw [Nat.le_div_iff_mul_le (Nat.two_pow_pos _),← Nat.pow_add,Nat.sub_add_cancel hd];exact h1
  ·rw [Nat.div_lt_iff_lt_mul (Nat.two_pow_pos _),← Nat.pow_add]
   exact Nat.lt_of_lt_of_le h2 (Nat.pow_le_pow_right (by omega) (by omega))
theorem cut_even(neg:Bool)(n k:Nat):Toward.even.cut neg n k=n / 2^k+(bump n k).toNat:=by
 unfold Toward.cut bump
 simp only [Nat.shiftLeft_eq,Nat.one_mul]
 rcases Nat.lt_or_ge (n.log2+2) k with h | h
 ·rw [Nat.min_eq_right (by omega)];have h2:n<2^(n.log2+1):=Nat.lt_log2_self;have h3:2^(n.log2+2)≤2^k:=Nat.pow_le_pow_right (by omega) (by omega)
  have h4:2^(n.log2+2)=2*2^(n.log2+1):=by rw [Nat.pow_succ];omega
  rw [Nat.div_eq_of_lt (by omega),Nat.div_eq_of_lt (show n<2^k by omega),Nat.mod_eq_of_lt (by omega),Nat.mod_eq_of_lt (show n<2^k by omega)];have a1:decide (2^(n.log2+2)<2*n)=false:=decide_eq_false (by omega);have a2:decide (2^k<2*n)=false:=decide_eq_false (by omega);rw [a1,a2];simp
 ·rw [Nat.min_eq_left h]
theorem bump_zero(k:Nat):bump 0 k=false:=by
 unfold bump;have:=Nat.two_pow_pos k
 simp
theorem nearest_low(neg:Bool)(n d:Nat):double.nearest neg n (-1074 - (d:Int))=double.word neg (min (nearRung n d) M):=by
 unfold Format.nearest
 by_cases h0:n=0
 ·subst h0;rw [if_pos rfl];unfold nearRung;rw [bump_zero,Nat.zero_div]
  rfl
 rw [if_neg h0]
 have ho:over (n / 2^d)=n.log2 - d - 52:=by unfold over;rw [log2_div_pow]
 have hl:max (-1074 - (d:Int)+(n.log2:Int) - (double.fractionBits:Int)) double.leastPlace=-1074+(over (n / 2^d):Int):=by
  rw [ho,leastPlace_eq]
  show max (-1074 - (d:Int)+(n.log2:Int) - 52) (-1074)=_
  omega
 dsimp only
 rw [hl,leastPlace_eq,binade_eq,infRung_eq]
 have e1:(-1074 - (d:Int) - (-1074+(over (n / 2^d):Int))).toNat=0:=by omega
 have e2:(-1074+(over (n / 2^d):Int) - (-1074 - (d:Int))).toNat=d+over (n / 2^d):=by omega
 have e3:(-1074+(over (n / 2^d):Int) - -1074).toNat=over (n / 2^d):=by omega
 rw [e1,e2,e3,Nat.shiftLeft_zero,cut_even];unfold nearRung floorRung;rw [div_div_pow,Nat.add_assoc]
theorem nearest_units(neg:Bool)(n:Nat):double.nearest neg n (-1074)=double.word neg (min (nearRung n 0) M):=by
 have:=nearest_low neg n 0
 simpa using this
theorem nearest_shift(neg:Bool)(n k:Nat)(place:Int):double.nearest neg n (place+(k:Int))=double.nearest neg (n*2^k) place:=by
 by_cases h0:n=0
 ·subst h0;simp [Format.nearest]
 have hk:n*2^k≠0:=Nat.mul_ne_zero h0 (by have:=Nat.two_pow_pos k;omega)
 have hlog:(n*2^k).log2=n.log2+k:=by
  rw [Nat.log2_eq_iff hk];have h1:=Nat.log2_self_le h0;have h2:n<2^(n.log2+1):=Nat.lt_log2_self
  constructor
  ·rw [Nat.pow_add];exact Nat.mul_le_mul_right _ h1
  ·rw [show n.log2+k+1=n.log2+1+k from by omega,Nat.pow_add 2 (n.log2+1)];exact Nat.mul_lt_mul_of_pos_right h2 (Nat.two_pow_pos k)
 unfold Format.nearest;rw [if_neg h0,if_neg hk,hlog]
 dsimp only
 rw [show (place+((n.log2+k:Nat):Int) - (double.fractionBits:Int))=place+(k:Int)+(n.log2:Int) - (double.fractionBits:Int) from by omega];generalize max (place+(k:Int)+(n.log2:Int) - (double.fractionBits:Int)) double.leastPlace=last
 congr 3
 rw [cut_even,cut_even,Nat.shiftLeft_eq,Nat.shiftLeft_eq]
 rcases Int.le_total last place with h | h
 ·-- both are whole
  rw [show (place+(k:Int) - last).toNat=k+(place - last).toNat from by omega,show (last - (place+(k:Int))).toNat=0 from by omega,show (last - place).toNat=0 from by omega,Nat.pow_add,Nat.mul_assoc]
 ·obtain⟨d,hd⟩:∃ d:Nat,last=place+d:=⟨(last - place).toNat,by omega⟩
  subst hd
  rcases Nat.le_total d k with hdk | hdk
  ·obtain⟨a,rfl⟩:∃ a,k=a+d:=⟨k - d,by omega⟩
   rw [show (place+((a+d:Nat):Int) - (place+(d:Int))).toNat=a from by omega,show (place+(d:Int) - (place+((a+d:Nat):Int))).toNat=0 from by omega,show (place - (place+(d:Int))).toNat=0 from by omega,show (place+(d:Int) - place).toNat=d from by omega];rw [Nat.pow_add 2 a d,← Nat.mul_assoc];generalize n*2^a=m;have:=Nat.two_pow_pos d
   have b1:bump m 0=false:=by unfold bump;simp [Nat.mod_one]
   have b2:bump (m*2^d*2^0) d=false:=by
    unfold bump;rw [Nat.pow_zero,Nat.mul_one,Nat.mul_mod_left]
    simp
   rw [b1,b2]
   simp only [Nat.pow_zero,Nat.div_one,Nat.mul_one]
   rw [Nat.mul_div_cancel _ this]
  ·obtain⟨a,rfl⟩:∃ a,d=k+a:=⟨d - k,by omega⟩
   rw [show (place+(k:Int) - (place+((k+a:Nat):Int))).toNat=0 from by omega,show (place+((k+a:Nat):Int) - (place+(k:Int))).toNat=a from by omega,show (place - (place+((k+a:Nat):Int))).toNat=0 from by omega,show (place+((k+a:Nat):Int) - place).toNat=k+a from by omega];rw [Nat.pow_zero,Nat.mul_one,Nat.mul_one];have hp:=Nat.two_pow_pos k
   have e1:n*2^k / 2^(k+a)=n / 2^a:=by rw [Nat.pow_add,Nat.mul_comm n,Nat.mul_div_mul_left _ _ hp]
   have e2:n*2^k % 2^(k+a)=2^k*(n % 2^a):=by rw [Nat.pow_add,Nat.mul_comm n,Nat.mul_mod_mul_left]
   rw [e1]
   congr 2
   unfold bump;rw [e1,e2,Nat.pow_add];generalize 2^a=x;generalize n % x=y;generalize 2^k=p at hp
   have c1:decide (p*x<2*(p*y))=decide (x<2*y):=by
    rw [show 2*(p*y)=p*(2*y) from by rw [Nat.mul_left_comm]]
    simp [Nat.mul_lt_mul_left hp]
   have c2:(p*x == 2*(p*y))=(x == 2*y):=by
    rw [show 2*(p*y)=p*(2*y) from by rw [Nat.mul_left_comm]];rw [Bool.eq_iff_iff];simp [Nat.mul_right_inj (by omega:p≠0)]
   rw [c1,c2]
theorem nearest_high(neg:Bool)(n k:Nat):double.nearest neg n (-1074+(k:Int))=double.word neg (min (nearRung (n*2^k) 0) M):=by
 rw [nearest_shift,nearest_units]
def rungOf(b:Nat):Nat:=b % 2^63
def sgn(b:Nat):Bool:=b / 2^63 % 2 == 1
def idx(b:Nat):Int:=if sgn b then -(rungOf b:Int) else rungOf b
def val(i:Int):Int:=if i<0 then -(mag i.natAbs:Int) else mag i.natAbs
def real(b:Nat):Prop:=rungOf b≤M
def fin(b:Nat):Prop:=rungOf b<M
theorem fin.real{b:Nat}(h:fin b):real b:=Nat.le_of_lt h
theorem val_nat(r:Nat):val (r:Int)=mag r:=by
 unfold val;rw [if_neg (by omega),Int.natAbs_natCast]
theorem val_neg(i:Int):val (-i)=-val i:=by
 unfold val;rw [Int.natAbs_neg]
 rcases Int.lt_trichotomy i 0 with h | h | h
 ·rw [if_neg (by omega),if_pos h];omega
 ·subst h;rfl
 ·rw [if_pos (by omega),if_neg (by omega)]
theorem val_zero:val 0=0:=rfl
theorem val_lt_iff{i j:Int}:val i<val j↔i<j:=by
 unfold val;have h1:=@mag_lt_iff i.natAbs j.natAbs;have h2:=@mag_lt_iff j.natAbs i.natAbs;have h3:=@mag_eq_zero i.natAbs;have h4:=@mag_eq_zero j.natAbs
 split<;>split<;>omega
theorem val_le_iff{i j:Int}:val i≤val j↔i≤j:=by have:=@val_lt_iff j i;omega
theorem val_neg_iff{i:Int}:val i<0↔i<0:=by have:=@val_lt_iff i 0;rwa [val_zero] at this
theorem val_natAbs(i:Int):(val i).natAbs=mag i.natAbs:=by
 unfold val;split<;>omega
theorem idx_natAbs(b:Nat):(idx b).natAbs=rungOf b:=by unfold idx;split<;>omega
theorem val_idx(b:Nat):val (idx b)=if sgn b then -(mag (rungOf b):Int) else mag (rungOf b):=by
 unfold idx
 split
 ·rw [val_neg,val_nat]
 ·rw [val_nat]
theorem signed_eq(s:Bool)(m k:Nat):signed s m k=if s then -((m*2^k:Nat):Int) else ((m*2^k:Nat):Int):=by
 unfold signed;rw [Nat.shiftLeft_eq]
theorem read_fin{b:Nat}(h:fin b):∃ m k:Nat,double.read b=.number (sgn b) m (-1074+(k:Int))∧m*2^k=mag (rungOf b)∧(k=0∨2^52≤m)∧m<2^53:=by
 unfold fin rungOf M at h;unfold Format.read;rw [signWeight_eq,binade_eq,infRung_eq,leastPlace_eq]
 dsimp only
 unfold rungOf sgn
 by_cases h1:b % 2^63<2^52
 ·rw [if_pos h1]
  exact⟨_,0,rfl,by rw [mag_small h1,Nat.pow_zero,Nat.mul_one],.inl rfl,by omega⟩
 ·rw [if_neg h1,if_pos (show b % 2^63<M from h)];refine⟨_,b % 2^63 / 2^52 - 1,rfl,?_,.inr (by omega),by omega⟩;unfold mag;rw [if_neg h1]
theorem read_inf{b:Nat}(h:rungOf b=M):double.read b=.infinity (sgn b):=by
 unfold rungOf M at h;unfold Format.read;rw [signWeight_eq,binade_eq,infRung_eq,leastPlace_eq]
 dsimp only
 rw [if_neg (by omega),if_neg (by unfold M;omega),if_pos (show b % 2^63=M from h)]
 rfl
theorem read_nan{b:Nat}(h:M<rungOf b):double.read b=.nan (sgn b) (rungOf b - M):=by
 unfold rungOf M at h;unfold Format.read;rw [signWeight_eq,binade_eq,infRung_eq,leastPlace_eq]
 dsimp only
 rw [if_neg (by omega),if_neg (by unfold M;omega),if_neg (by unfold M;omega)]
 rfl
theorem read_val{b:Nat}{m k:Nat}(h:m*2^k=mag (rungOf b)):signed (sgn b) m k=val (idx b):=by
 rw [signed_eq,val_idx,h]
theorem signed_split(s:Bool)(m a c:Nat):signed s m (a+c)=signed s m a*2^c:=by
 rw [signed_eq,signed_eq,Nat.pow_add,← Nat.mul_assoc]
 split
 ·rw [Int.natCast_mul,Int.neg_mul];simp
 ·rw [Int.natCast_mul];simp
theorem compare_scale(a b:Int)(k:Nat):compare (a*2^k) (b*2^k)=compare a b:=by
 have hp:(0:Int)<2^k:=by exact_mod_cast Nat.two_pow_pos k
 rcases Int.lt_trichotomy a b with h | h | h
 ·rw [Int.compare_eq_lt.2 h,Int.compare_eq_lt.2 (Int.mul_lt_mul_of_pos_right h hp)]
 ·subst h;rw [Int.compare_eq_eq.2 rfl,Int.compare_eq_eq.2 rfl]
 ·rw [Int.compare_eq_gt.2 h,Int.compare_eq_gt.2 (Int.mul_lt_mul_of_pos_right h hp)]
theorem compare_val(i j:Int):compare (val i) (val j)=compare i j:=by
 rcases Int.lt_trichotomy i j with h | h | h
 ·rw [Int.compare_eq_lt.2 h,Int.compare_eq_lt.2 (val_lt_iff.2 h)]
 ·subst h;rw [Int.compare_eq_eq.2 rfl,Int.compare_eq_eq.2 rfl]
 ·rw [Int.compare_eq_gt.2 h,Int.compare_eq_gt.2 (val_lt_iff.2 h)]
theorem order_real{x y:Nat}(hx:real x)(hy:real y):double.order x y=some (compare (idx x) (idx y)):=by
 unfold Format.order;have ax:=idx_natAbs x;have ay:=idx_natAbs y
 have sx:idx x=if sgn x then -(rungOf x:Int) else rungOf x:=rfl
 have sy:idx y=if sgn y then -(rungOf y:Int) else rungOf y:=rfl
 have hM:0<M:=by decide
 unfold real at hx hy
 rcases Nat.lt_or_ge (rungOf x) M with fx | fx<;>rcases Nat.lt_or_ge (rungOf y) M with fy | fy
 ·obtain⟨m,k,e,hm,_⟩:=read_fin fx;obtain⟨n,l,e',hn,_⟩:=read_fin fy;rw [e,e']
  simp only [Datum.order]
  congr 1
  rw [← compare_val (idx x),← read_val hm,← read_val hn]
  rcases Nat.le_total k l with h | h
  ·rw [show min (-1074+(k:Int)) (-1074+(l:Int))=-1074+(k:Int) from by omega,show (-1074+(k:Int) - (-1074+(k:Int))).toNat=0 from by omega,show (-1074+(l:Int) - (-1074+(k:Int))).toNat=l - k from by omega];rw [← compare_scale _ _ k,← signed_split,← signed_split,Nat.zero_add,Nat.sub_add_cancel h]
  ·rw [show min (-1074+(k:Int)) (-1074+(l:Int))=-1074+(l:Int) from by omega,show (-1074+(l:Int) - (-1074+(l:Int))).toNat=0 from by omega,show (-1074+(k:Int) - (-1074+(l:Int))).toNat=k - l from by omega];rw [← compare_scale _ _ l,← signed_split,← signed_split,Nat.zero_add,Nat.sub_add_cancel h]
 ·obtain⟨m,k,e,hm,_⟩:=read_fin fx;rw [e,read_inf (by omega)]
  simp only [Datum.order]
  congr 1;symm
  cases h:sgn y
  ·simp [h] at sy ⊢;rw [Int.compare_eq_lt];omega
  ·simp [h] at sy ⊢;rw [Int.compare_eq_gt];omega
 ·obtain⟨m,k,e,hm,_⟩:=read_fin fy;rw [e,read_inf (by omega)]
  simp only [Datum.order]
  congr 1;symm
  cases h:sgn x
  ·simp [h] at sx ⊢;rw [Int.compare_eq_gt];omega
  ·simp [h] at sx ⊢;rw [Int.compare_eq_lt];omega
 ·rw [read_inf (by omega),read_inf (by omega)]
  simp only [Datum.order]
  congr 1;symm
  cases h:sgn x<;>cases h':sgn y<;>simp [h,h'] at sx sy ⊢
  ·omega
  ·rw [show compare 1 0=Ordering.gt from rfl,Int.compare_eq_gt];omega
  ·rw [show compare 0 1=Ordering.lt from rfl,Int.compare_eq_lt];omega
  ·omega
theorem order_nan_left{x:Nat}(y:Nat)(hx:M<rungOf x):double.order x y=none:=by
 unfold Format.order;rw [read_nan hx];rfl
theorem order_nan_right(x:Nat){y:Nat}(hy:M<rungOf y):double.order x y=none:=by
 unfold Format.order;rw [read_nan hy];cases double.read x<;>rfl
end Go.Proofs.YthlmlmfebpjgdaaGreatDoor
namespace Go.Proofs.YthlmlmfebpjgdaaGreatDoor
open Go.RowKit
def pat(i:Int):Nat:=if i<0 then 9223372036854775808+i.natAbs else i.natAbs
theorem M_val:M=9218868437227405312:=rfl
theorem pat_cases{b:Nat}(hb:b<18446744073709551616):(b<9223372036854775808∧rungOf b=b∧sgn b=false∧idx b=(b:Int))∨(9223372036854775808≤b∧rungOf b=b - 9223372036854775808∧sgn b=true∧idx b=9223372036854775808 - (b:Int)):=by
 have e:(2:Nat)^63=9223372036854775808:=rfl
 rcases Nat.lt_or_ge b 9223372036854775808 with h | h
 ·left
  have h1:rungOf b=b:=by unfold rungOf;rw [e];omega
  have h2:sgn b=false:=by unfold sgn;rw [e,show b / 9223372036854775808 % 2=0 from by omega];rfl
  refine⟨h,h1,h2,?_⟩;unfold idx;rw [h2,h1];rfl
 ·right
  have h1:rungOf b=b - 9223372036854775808:=by unfold rungOf;rw [e];omega
  have h2:sgn b=true:=by unfold sgn;rw [e,show b / 9223372036854775808 % 2=1 from by omega];rfl
  refine⟨h,h1,h2,?_⟩;unfold idx;rw [h2,h1,if_pos rfl];omega
theorem pat_lt{i:Int}(h0:-(M:Int)≤i)(h1:i≤M):pat i<18446744073709551616:=by
 rw [M_val] at *;unfold pat;split<;>omega
theorem pat_neg{i:Int}(h:i<0):pat i=9223372036854775808+i.natAbs:=if_pos h
theorem pat_nn{i:Int}(h:¬ i<0):pat i=i.natAbs:=if_neg h
theorem idx_pat{i:Int}(h0:-(M:Int)≤i)(h1:i≤M):idx (pat i)=i:=by
 have h:=pat_lt h0 h1;rw [M_val] at *;have:=pat_cases h
 by_cases hi:i<0
 ·rw [pat_neg hi] at *;omega
 ·rw [pat_nn hi] at *;omega
theorem rung_pat{i:Int}(h0:-(M:Int)≤i)(h1:i≤M):rungOf (pat i)=i.natAbs:=by
 rw [← idx_natAbs,idx_pat h0 h1]
theorem pat_inj{i j:Int}(h0:-(M:Int)≤i)(h1:i≤M)(h2:-(M:Int)≤j)(h3:j≤M)(h:pat i=pat j):i=j:=by
 rw [← idx_pat h0 h1,← idx_pat h2 h3,h]
theorem pat_max:pat M=9218868437227405312:=by decide
theorem pat_min:pat (-(M:Int))=18442240474082181120:=by decide
theorem pat_zero:pat 0=0:=rfl
theorem idx_bounds{b:Nat}(h:rungOf b≤M):-(M:Int)≤idx b∧idx b≤M:=by
 have:=idx_natAbs b;omega
def pl(b:Nat):Nat:=if b=9223372036854775808 then 0 else if M<rungOf b then 9221120237041090561 else b
theorem pl_real{b:Nat}(hb:b<18446744073709551616)(h:rungOf b≤M):pl b=pat (idx b):=by
 have:=pat_cases hb;rw [M_val] at *;unfold pl;rw [M_val]
 split
 ·rename_i e
  have h0:idx b=0:=by omega
  rw [h0];rfl
 ·rw [if_neg (by omega)]
  by_cases hi:idx b<0
  ·rw [pat_neg hi];omega
  ·rw [pat_nn hi];omega
def keyOf(b:Nat):Nat:=if 9223372036854775808≤pl b then 18446744073709551615 - pl b else pl b+9223372036854775808
theorem keyOf_real{b:Nat}(hb:b<18446744073709551616)(h:rungOf b≤M):(keyOf b:Int)=9223372036854775808+idx b - (if idx b<0 then 1 else 0):=by
 have hi:=idx_bounds h;unfold keyOf;rw [pl_real hb h];rw [M_val] at *
 by_cases hi:idx b<0
 ·rw [pat_neg hi,if_pos hi];split<;>omega
 ·rw [pat_nn hi,if_neg hi];split<;>omega
theorem key_lt{x y:Nat}(hx:x<18446744073709551616)(hy:y<18446744073709551616)(h:rungOf x≤M)(h':rungOf y≤M):keyOf x<keyOf y↔idx x<idx y:=by
 have:=keyOf_real hx h;have:=keyOf_real hy h'
 split at*<;> split at*<;> omega
theorem pl_lt(b:Nat)(hb:b<18446744073709551616):pl b<18446744073709551616:=by unfold pl;split<;>(try split)<;>omega
def snd(lo hi:Nat):Bool:=decide (rungOf lo≤M∧rungOf hi≤M∧idx lo≤idx hi∧idx lo<M∧-(M:Int)<idx hi)
def rd(lo hi:Nat):Int × Int:=if snd lo hi then (idx lo,idx hi) else ((M:Int),-(M:Int))
def Iv(i j:Int):Prop:=(-(M:Int)≤i∧i≤j∧j≤M∧i<M∧-(M:Int)<j)∨(i=M∧j=-(M:Int))
theorem Iv.lo{i j:Int}(h:Iv i j):-(M:Int)≤i∧i≤M:=by unfold Iv at h;rw [M_val] at *;omega
theorem Iv.hi{i j:Int}(h:Iv i j):-(M:Int)≤j∧j≤M:=by unfold Iv at h;rw [M_val] at *;omega
theorem Iv.none:Iv M (-(M:Int)):=.inr ⟨rfl,rfl⟩
theorem rd_iv(lo hi:Nat):Iv (rd lo hi).1 (rd lo hi).2:=by
 unfold rd
 split
 ·rename_i h;have h:=of_decide_eq_true h;obtain⟨h1,h2,h3,h4,h5⟩:=h;have:=idx_bounds h1;have:=idx_bounds h2
  exact .inl ⟨by omega,h3,by omega,h4,h5⟩
 ·exact Iv.none
theorem rd_pat{i j:Int}(h:Iv i j):rd (pat i) (pat j)=(i,j):=by
 have h1:=h.lo;have h2:=h.hi;unfold rd snd;rw [rung_pat h1.1 h1.2,rung_pat h2.1 h2.2,idx_pat h1.1 h1.2,idx_pat h2.1 h2.2];unfold Iv at h
 split
 ·rfl
 ·rename_i hh
  simp only [decide_eq_true_eq] at hh
  rcases h with h | h
  ·omega
  ·rw [h.1,h.2]
theorem small_any(v:Nat)(w:World)(hv:v<18446744073709551616):
  Calls Tryz.prog 115 #[.int .u64 (v:Int)] w (NewU32 w (digs v)):=by
 have e1:=mask32_u64 hv
 go_enter Tryz.func115,Tryz.ntmps115
 go_wp2_with fail;rw [show (v:Int) % 4294967296=((v % 4294967296:Nat):Int) from by omega,show (v:Int) / 4294967296=((v / 4294967296:Nat):Int) from by omega];have h2:=U32s.lit2 w 117 (a:=v % 4294967296) (b:=v / 4294967296) (by omega) (by omega);refine (norm_any _ 2 2 _ _ h2 (by omega)).mono ?_;rintro e w' ⟨A,n,c,rfl,hu,hb⟩
 have e2:trim [v % 4294967296,v / 4294967296]=digs v:=by
  rw [trim_eq_digs h2.w32];congr 1;simp [num];omega
 have H:=Hd (show NewU32 w (digs v) (.returned (.slice A n c)) w' from NewU32.trans ⟨A,n,c,rfl,by rw [← e2];exact hu,hb⟩ (below_alloc _ _));clear hu hb e2 e1 h2;go_wp2
 go_ret
 exact H.out
def fl(i:Int):Rat:=(val i:Rat)*2^(-1074:Int)
theorem rv_one(neg:Bool)(s k:Nat):rv neg s 1*2^((k:Int) - 1074)=((if neg then -((s*2^k:Nat):Int) else ((s*2^k:Nat):Int):Int):Rat)*2^(-1074:Int):=by
 rw [show ((k:Int) - 1074)=(k:Int)+(-1074) from by omega,zpow_add,zpow_nat];unfold rv;have h1:((1:Nat):Rat)=1:=rfl;have h2:∀ x:Rat,x / ((1:Nat):Rat)=x:=fun x=>div_eq (by rw [h1];decide) (by rw [h1,Rat.mul_one]);rw [h2]
 cases neg
 ·simp only [Bool.false_eq_true,if_false]
  rw [Rat.intCast_natCast,Rat.natCast_mul];grind
 ·simp only [if_true]
  rw [Rat.intCast_neg,Rat.intCast_natCast,Rat.natCast_mul];grind
theorem fl_parts{b e f:Nat}{neg:Bool}(hf:fin b)(he:b / 4503599627370496 % 2048=e)(hff:b % 4503599627370496=f)(hn:sgn b=neg):
  e<2047∧f<4503599627370496∧(0<e→fl (idx b)=rv neg (f+4503599627370496) 1*2^((e:Int) - 1 - 1074))∧(e=0→fl (idx b)=rv neg f 1*2^((e:Int) - 1074)):=by
 unfold fin rungOf M at hf
 have e1:b % 2^63 / 2^52=e:=by omega
 have e2:b % 2^63 % 2^52=f:=by omega
 refine⟨by omega,by omega,fun h=>?_,fun h=>?_⟩
 ·rw [show (e:Int) - 1 - 1074=((e - 1:Nat):Int) - 1074 from by omega,rv_one];unfold fl;have e0:(2:Nat)^52=4503599627370496:=rfl
  have e3:mag (b % 2^63)=(f+4503599627370496)*2^(e - 1):=by
   unfold mag;rw [if_neg (show ¬ b % 2^63<2^52 from by omega),e1,e2,e0,Nat.add_comm 4503599627370496 f]
  rw [val_idx,hn];unfold rungOf;rw [e3]
 ·subst h;rw [show ((0:Nat):Int) - 1074=((0:Nat):Int) - 1074 from rfl,rv_one];unfold fl;rw [val_idx,hn];unfold rungOf;rw [mag_small (by omega),show b % 2^63=f from by omega,Nat.pow_zero,Nat.mul_one]
theorem NewRat.lay{w W w1:World}{K g:Nat}{t:TypeId}{cs:Array Value}{neg:Bool}{vn vd:Value}{x:Rat}(h:RatV w1 K neg vn vd x)(hb:Below w.heap.size w W)(hb1:Below W.heap.size W w1)(hk:Blk W g t cs)(hc:NoWd cs)(hg:w.heap.size≤g):
  NewRat w K x (.returned (.agg #[.bool neg,vn,vd])) (((w1.setCell ⟨g,0,none⟩ (.bool neg)).setCell ⟨g,1,none⟩ vn).setCell ⟨g,2,none⟩ vd):=
 h.ret (hb.trans (hb1.mono hb.size)) (hk.keep hb1) hc hg
theorem pow_34{f K:Nat}(hK:K=34)(hf:f<2^53){x:Int}(hx:x≤971):f*2^x.toNat<2^(32*K):=by
 obtain⟨k,hk⟩:∃ k,x.toNat=k:=⟨_,rfl⟩
 rw [hk];have h1:f*2^k<2^53*2^k:=Nat.mul_lt_mul_of_pos_right hf (Nat.two_pow_pos k);rw [← Nat.pow_add] at h1
 exact Nat.lt_of_lt_of_le h1 (Nat.pow_le_pow_right (by omega) (by omega))
theorem pow_34'{x:Int}{K:Nat}(hK:K=34)(hx:-1074≤x):1*2^(-x).toNat<2^(32*K):=by
 rw [Nat.one_mul]
 exact Nat.pow_lt_pow_right (by omega) (by omega)
theorem frombits_K(K b:Nat)(w:World)(hK:K=34)(hb:b<18446744073709551616)(hf:fin b):
  Calls Tryz.prog 210 #[.int .u64 (b:Int)] w (NewRat w K (fl (idx b))):=by
 obtain⟨e,he⟩:∃ e,b / 4503599627370496 % 2048=e:=⟨_,rfl⟩
 obtain⟨f,hff⟩:∃ f,b % 4503599627370496=f:=⟨_,rfl⟩
 obtain⟨neg,hn⟩:∃ neg,sgn b=neg:=⟨_,rfl⟩
 obtain⟨he1,hf1,v1,v2⟩:=fl_parts hf he hff hn;have m1:=mask11_u64 (x:=b / 4503599627370496) (by omega);rw [he,show ((b / 4503599627370496:Nat):Int)=(b:Int) / 4503599627370496 from by omega] at m1;have m2:=mask52_u64 (x:=b) hb;rw [hff] at m2
 have m3:((b:Int) / 9223372036854775808 == 1)=neg:=by
  rw [← hn];unfold sgn
  have:b / 2^63 % 2=b / 9223372036854775808:=by omega
  rw [this]
  rcases Nat.eq_zero_or_pos (b / 9223372036854775808) with h | h
  ·rw [h,show (b:Int) / 9223372036854775808=0 from by omega];rfl
  ·rw [show b / 9223372036854775808=1 from by omega,show (b:Int) / 9223372036854775808=1 from by omega];rfl
 obtain⟨x,hx⟩:∃ x,fl (idx b)=x:=⟨_,rfl⟩
 rw [hx] at v1 v2 ⊢;have HK34:=Hd hK;have V1:=Hd v1;have V2:=Hd v2;have M1:=Hd m1;have M2:=Hd m2;have M3:=Hd m3;have ba:=below_alloc w (.cells #[.bool false,.slice none 0 0,.slice none 0 0] 42);have BA:=Hd ba;have BLK:=Hd (Blk.new w 42 #[.bool false,.slice none 0 0,.slice none 0 0]);clear v1 v2 hx hn hff he hf ba m1 m2 m3 hK
 rcases Nat.eq_zero_or_pos e with h0 | h0
 ·have hs:=small_any (f) (w.alloc (.cells #[.bool false,.slice none 0 0,.slice none 0 0] 42)) (by omega);have HS:=Hd hs;clear hs;have m1:=M1.out;have m2:=M2.out;have m3:=M3.out
  have hei:(e:Int)≤0:=by omega
  have H0:=Hd h0;clear h0
  go_enter Tryz.func210,Tryz.ntmps210
  go_wp2_with fail;refine HS.out.mono ?_;rintro e1 w1 ⟨A,n,c,rfl,hu1,hb1⟩;have hn2:n≤2:=hu1.len_le (k:=2) (Nat.lt_of_lt_of_le (show f<2^53 from by omega) (by decide));have hW:Below w.heap.size w (w1.alloc (.cells #[wd 1] 117)):=(BA.out.trans (hb1.mono BA.out.size)).alloc (by have:=BA.out.size;have:=hb1.size;omega) _;have hKK:=(BLK.out.keep hb1).alloc (.cells #[wd 1] 117)
  have HF:=Hd (frac_any neg A (some ⟨w1.heap.size,0,none⟩) n c 1 1 K (f) 1 _ [1] ((e:Int) - 1074) (w1.alloc (.cells #[wd 1] 117)) (hu1.alloc _) (U32s.lit1 w1 117 (a:=1) (by omega)) (by omega) (by omega) (num_digs _) (by decide) (by omega) (by omega) (by omega)
   (pow_34 HK34.out (by omega) (by omega)) (pow_34' HK34.out (by omega)) (by have:=HK34.out;omega))
  have HW:=Hd hW;have HK:=Hd hKK;clear hu1 hb1 hW hKK HS;have m1:=M1.out;have m3:=M3.out;go_wp2_with fail;refine HF.out.mono ?_;rintro e2 w2 ⟨neg2,vn,vd,rfl,hr,hb2⟩;rw [← V2.out H0.out] at hr;obtain⟨A5,n5,c5,A6,n6,c6,rfl,rfl⟩:=hr.shape;have hblk:=HK.out.keep hb2;have k0:=hblk.cell 0;have k1:=hblk.cell 1;have k2:=hblk.cell 2;have f0:=hblk.frozen 0;have f1:=hblk.frozen 1;have f2:=hblk.frozen 2;have hlt:=hblk.lt;have FF:=Hd (NewRat.lay hr HW.out hb2 HK.out NoWd.zero (Nat.le_refl _));clear hblk hb2 hr HF
  simp at k0 k1 k2
  go_wp2;refine bodyPost_ret (v:=.agg #[.bool neg2,.slice A5 n5 c5,.slice A6 n6 c6]) (by simp [results,Tryz.results210,go_sem,k0,k1,k2]) rfl ?_
  exact FF.out
 ·have hs:=small_any (f+4503599627370496) (w.alloc (.cells #[.bool false,.slice none 0 0,.slice none 0 0] 42)) (by omega);rw [show ((f+4503599627370496:Nat):Int)=(f:Int)+4503599627370496 from by omega] at hs;have HS:=Hd hs;clear hs;have m1:=M1.out;have m2:=M2.out;have m3:=M3.out
  have hei:(0:Int)<(e:Int):=by omega
  go_enter Tryz.func210,Tryz.ntmps210
  go_wp2_with fail;refine HS.out.mono ?_;rintro e1 w1 ⟨A,n,c,rfl,hu1,hb1⟩;have hn2:n≤2:=hu1.len_le (k:=2) (Nat.lt_of_lt_of_le (show f+4503599627370496<2^53 from by omega) (by decide));have hW:Below w.heap.size w (w1.alloc (.cells #[wd 1] 117)):=(BA.out.trans (hb1.mono BA.out.size)).alloc (by have:=BA.out.size;have:=hb1.size;omega) _;have hKK:=(BLK.out.keep hb1).alloc (.cells #[wd 1] 117)
  have HF:=Hd (frac_any neg A (some ⟨w1.heap.size,0,none⟩) n c 1 1 K (f+4503599627370496) 1 _ [1] ((e:Int) - 1 - 1074) (w1.alloc (.cells #[wd 1] 117)) (hu1.alloc _) (U32s.lit1 w1 117 (a:=1) (by omega)) (by omega) (by omega) (num_digs _) (by decide) (by omega) (by omega) (by omega)
   (pow_34 HK34.out (by omega) (by omega)) (pow_34' HK34.out (by omega)) (by have:=HK34.out;omega))
  have HW:=Hd hW;have HK:=Hd hKK;clear hu1 hb1 hW hKK HS;have m1:=M1.out;have m3:=M3.out;go_wp2_with fail;refine HF.out.mono ?_;rintro e2 w2 ⟨neg2,vn,vd,rfl,hr,hb2⟩;rw [← V1.out h0] at hr;obtain⟨A5,n5,c5,A6,n6,c6,rfl,rfl⟩:=hr.shape;have hblk:=HK.out.keep hb2;have k0:=hblk.cell 0;have k1:=hblk.cell 1;have k2:=hblk.cell 2;have f0:=hblk.frozen 0;have f1:=hblk.frozen 1;have f2:=hblk.frozen 2;have hlt:=hblk.lt;have FF:=Hd (NewRat.lay hr HW.out hb2 HK.out NoWd.zero (Nat.le_refl _));clear hblk hb2 hr HF
  simp at k0 k1 k2
  go_wp2;refine bodyPost_ret (v:=.agg #[.bool neg2,.slice A5 n5 c5,.slice A6 n6 c6]) (by simp [results,Tryz.results210,go_sem,k0,k1,k2]) rfl ?_
  exact FF.out
theorem frombits_any(b:Nat)(w:World)(hb:b<18446744073709551616)(hf:fin b):
  Calls Tryz.prog 210 #[.int .u64 (b:Int)] w (NewRat w 34 (fl (idx b))):=frombits_K 34 b w rfl hb hf
theorem rv_nat(v:Nat):rv false v 1=(v:Rat):=by
 unfold rv
 exact div_eq (by decide) (by show (v:Rat)=v*1;rw [Rat.mul_one])
theorem int_K(K v:Nat)(w:World)(hK:K=1)(hv:v<4294967296):
  Calls Tryz.prog 51 #[.int .i64 (v:Int)] w (NewRat w K (rv false v 1)):=by
 have hvk:v<2^(32*K):=by subst hK;exact hv
 have h1k:1<2^(32*K):=by subst hK;decide
 have ba:=below_alloc w (.cells #[.bool false,.slice none 0 0,.slice none 0 0] 42);have BA:=Hd ba;have BLK:=Hd (Blk.new w 42 #[.bool false,.slice none 0 0,.slice none 0 0]);have HS:=Hd (small_any v (w.alloc (.cells #[.bool false,.slice none 0 0,.slice none 0 0] 42)) (by omega));have HV:=Hd hvk;have H1:=Hd h1k;have HK34:=Hd hK
 have hv0:(0:Int)≤(v:Int):=by omega
 clear ba hvk h1k hK
 go_enter Tryz.func51,Tryz.ntmps51
 go_wp2_with fail;refine HS.out.mono ?_;rintro e1 w1 ⟨A,n,c,rfl,hu1,hb1⟩;have hW:Below w.heap.size w (w1.alloc (.cells #[wd 1] 117)):=(BA.out.trans (hb1.mono BA.out.size)).alloc (by have:=BA.out.size;have:=hb1.size;omega) _;have hKK:=(BLK.out.keep hb1).alloc (.cells #[wd 1] 117);have HF:=Hd (frac_plain false A (some ⟨w1.heap.size,0,none⟩) n c 1 1 K v 1 (w1.alloc (.cells #[wd 1] 117)) (hu1.alloc _) (by rw [digs_one];exact U32s.lit1 w1 117 (a:=1) (by omega)) (by omega) HV.out H1.out (by have:=HK34.out;omega) (by have:=HK34.out;omega));have HW:=Hd hW;have HK:=Hd hKK;clear hu1 hb1 hW hKK HS;go_wp2_with fail;refine HF.out.mono ?_;rintro e2 w2 ⟨neg2,vn,vd,rfl,hr,hb2⟩;obtain⟨A5,n5,c5,A6,n6,c6,rfl,rfl⟩:=hr.shape;have hblk:=HK.out.keep hb2;have k0:=hblk.cell 0;have k1:=hblk.cell 1;have k2:=hblk.cell 2;have f0:=hblk.frozen 0;have f1:=hblk.frozen 1;have f2:=hblk.frozen 2;have hlt:=hblk.lt;have FF:=Hd (NewRat.lay hr HW.out hb2 HK.out NoWd.zero (Nat.le_refl _));clear hblk hb2 hr HF
 simp at k0 k1 k2
 go_wp2;refine bodyPost_ret (v:=.agg #[.bool neg2,.slice A5 n5 c5,.slice A6 n6 c6]) (by simp [results,Tryz.results51,go_sem,k0,k1,k2]) rfl ?_
 exact FF.out
theorem int_nat(v:Nat)(w:World)(hv:v<4294967296):
  Calls Tryz.prog 51 #[.int .i64 (v:Int)] w (NewRat w 1 (v:Rat)):=by
 have h:=int_K 1 v w rfl hv;rw [rv_nat] at h
 exact h
theorem size_i{b:Nat}(hb:b<18446744073709551616):bits .andNot .u64 (b:Int) 9223372036854775808=((rungOf b:Nat):Int):=by
 have:=u64_andNot_nat b 9223372036854775808 hb (by omega);rw [show (18446744073709551615 - 9223372036854775808:Nat)=2^63 - 1 from rfl,Nat.and_two_pow_sub_one_eq_mod] at this
 exact this
theorem isnan_any(b:Nat)(w:World)(hb:b<18446744073709551616):
  Calls Tryz.prog 204 #[.int .u64 (b:Int)] w fun e w'=>e=.returned (.bool (decide (M<rungOf b)))∧∃ k,w'=w.drewN k:=by
 have H:=Hd (size_i hb)
 go_enter Tryz.func204,Tryz.ntmps204
 go_wp2
 go_ret
 rw [H.out,M_val]
 exact⟨ret_bool (by simp only [decide_eq_decide];omega),0,rfl⟩
theorem plain_any(b:Nat)(w:World)(hb:b<18446744073709551616):
  Calls Tryz.prog 175 #[.int .u64 (b:Int)] w fun e w'=>e=.returned (.int .u64 (pl b:Int))∧∃ k,w'=w.drewN k:=by
 have H:=Hd fun W=>isnan_any b W hb
 rcases Nat.lt_trichotomy b 9223372036854775808 with h | h | h
 all_goals
  first
  | (subst h
     go_enter Tryz.func175,Tryz.ntmps175
     go_wp2
     go_ret
     exact⟨ret_int rfl,0,rfl⟩)
  | (have h1:((b:Int) == 9223372036854775808)=false:=by simp;omega
     have hp:pl b=if M<rungOf b then 9221120237041090561 else b:=by unfold pl;rw [if_neg (by omega)]
     have HP:=Hd hp
     rcases Nat.lt_or_ge M (rungOf b) with h2 | h2
     ·rw [if_pos h2] at hp;rw [decide_eq_true h2] at H;rw [hp];clear h hp HP h2
      go_enter Tryz.func175,Tryz.ntmps175
      go_wp2_with (refine (H.out _).mono ?_;rintro e w1 ⟨rfl,k,rfl⟩)
      go_ret
      exact⟨rfl,k,rfl⟩
     ·rw [if_neg (by omega)] at hp;rw [decide_eq_false (show ¬ M<rungOf b from by omega)] at H;rw [hp];clear h hp HP h2
      go_enter Tryz.func175,Tryz.ntmps175
      go_wp2_with (refine (H.out _).mono ?_;rintro e w1 ⟨rfl,k,rfl⟩)
      go_ret
      exact⟨rfl,k,rfl⟩)
theorem key_any(b:Nat)(w:World)(hb:b<18446744073709551616):
  Calls Tryz.prog 205 #[.int .u64 (b:Int)] w fun e w'=>e=.returned (.int .u64 (keyOf b:Int))∧∃ k,w'=w.drewN k:=by
 have H:=Hd fun W=>plain_any b W hb;have hp:=pl_lt b hb
 obtain⟨p,hpp⟩:∃ p,pl b=p:=⟨_,rfl⟩
 have hk:keyOf b=if 9223372036854775808≤p then 18446744073709551615 - p else p+9223372036854775808:=by unfold keyOf;rw [hpp]
 rw [hpp] at H hp;rw [hk];have HP:=Hd hp
 obtain⟨r,hr⟩:∃ r,(if 9223372036854775808≤p then 18446744073709551615 - p else p+9223372036854775808)=r:=⟨_,rfl⟩
 rw [hr]
 rcases Nat.lt_or_ge p 9223372036854775808 with h | h
 ·rw [if_neg (by omega)] at hr
  have h1:decide (9223372036854775808≤(p:Int))=false:=by simp;omega
  have h2:bits .or .u64 (p:Int) 9223372036854775808=((r:Nat):Int):=by
   have:=u64_or_nat p 9223372036854775808 hp (by omega);rw [Nat.or_comm,nat_join 63 _ _ (by decide) (by exact h),Nat.add_comm,hr] at this;exact this
  clear h hp hk hpp hr
  go_enter Tryz.func205,Tryz.ntmps205
  go_wp2_with fail;refine (H.out _).mono ?_;rintro e w1 ⟨rfl,k,rfl⟩;go_wp2
  go_ret
  exact⟨ret_int rfl,k,rfl⟩
 ·rw [if_pos h] at hr
  have h1:(9223372036854775808≤(p:Int)):=by omega
  have h2:bits .xor .u64 18446744073709551615 (p:Int)=((r:Nat):Int):=by
   have:=u64_xor_nat 18446744073709551615 p (by omega) hp;rw [show (18446744073709551615:Nat)=2^64 - 1 from rfl] at this;rw [show ((18446744073709551615:Int))=((2^64 - 1:Nat):Int) from rfl,this,← hr]
   congr 1
   apply Nat.eq_of_testBit_eq
   intro i;rw [Nat.testBit_xor,Nat.testBit_two_pow_sub_one,show 2^64 - 1 - p=2^64 - (p+1) from by omega,Nat.testBit_two_pow_sub_succ hp]
   by_cases hi:i<64
   ·simp [hi]
   ·simp [hi]
    exact Nat.testBit_lt_two_pow (Nat.lt_of_lt_of_le hp (Nat.pow_le_pow_right (n:=2) (by omega) (by omega:64≤i)))
  have H2:=Hd h2;clear h hp hk hpp h2 hr
  go_enter Tryz.func205,Tryz.ntmps205
  go_wp2_with (refine (H.out _).mono ?_;rintro e w1 ⟨rfl,k,rfl⟩)
  go_ret
  exact⟨ret_int H2.out,k,rfl⟩
theorem above_any(x y:Nat)(w:World)(hx:x<18446744073709551616)(hy:y<18446744073709551616):
  Calls Tryz.prog 144 #[.int .u64 (x:Int),.int .u64 (y:Int)] w fun e w'=>e=.returned (.bool (decide (rungOf x≤M∧rungOf y≤M∧idx y<idx x)))∧∃ k,w'=w.drewN k:=by
 have H1:=Hd fun W=>isnan_any x W hx;have H2:=Hd fun W=>isnan_any y W hy;have K1:=Hd fun W=>key_any x W hx;have K2:=Hd fun W=>key_any y W hy
 by_cases h1:M<rungOf x
 ·rw [decide_eq_true h1] at H1;rw [decide_eq_false (show ¬ (rungOf x≤M∧rungOf y≤M∧idx y<idx x) from by omega)];clear h1
  go_enter Tryz.func144,Tryz.ntmps144
  go_wp2_with (first | (go_at_call 204;refine (H1.out _).mono ?_;rintro e w1 ⟨rfl,k,rfl⟩))
  go_ret
  exact⟨rfl,k,rfl⟩
 ·rw [decide_eq_false h1] at H1
  by_cases h2:M<rungOf y
  ·rw [decide_eq_true h2] at H2;rw [decide_eq_false (show ¬ (rungOf x≤M∧rungOf y≤M∧idx y<idx x) from by omega)];clear h1 h2
   go_enter Tryz.func144,Tryz.ntmps144
   go_wp2_with fail;refine (H1.out _).mono ?_;rintro e w1 ⟨rfl,k,rfl⟩;go_wp2_with fail;refine (H2.out _).mono ?_;rintro e w1 ⟨rfl,k2,rfl⟩;go_wp2
   go_ret
   exact⟨rfl,k+k2,rfl⟩
  ·rw [decide_eq_false h2] at H2;have hk:=key_lt hy hx (by omega) (by omega)
   have hd:decide (rungOf x≤M∧rungOf y≤M∧idx y<idx x)=decide (keyOf y<keyOf x):=by
    rw [decide_eq_decide];omega
   rw [hd];clear h1 h2 hk hd
   go_enter Tryz.func144,Tryz.ntmps144
   go_wp2_with fail;refine (H1.out _).mono ?_;rintro e w1 ⟨rfl,k,rfl⟩;go_wp2_with fail;refine (H2.out _).mono ?_;rintro e w1 ⟨rfl,k2,rfl⟩;go_wp2_with fail;refine (K1.out _).mono ?_;rintro e w1 ⟨rfl,k3,rfl⟩;go_wp2_with fail;refine (K2.out _).mono ?_;rintro e w1 ⟨rfl,k4,rfl⟩;go_wp2
   go_ret
   exact⟨rfl,k+k2+k3+k4,rfl⟩
end Go.Proofs.YthlmlmfebpjgdaaGreatDoor
