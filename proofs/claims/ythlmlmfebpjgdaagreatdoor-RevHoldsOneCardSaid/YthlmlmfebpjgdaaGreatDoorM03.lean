/-
Lemmas for the statement: IntT PatT MadeT NegT Sets Co IvT Read6 NegTrue RCmpT EndT ECmpT DigD SubT GuessT ByT.
-/
import Derived.Test.YthlmlmfebpjgdaaGreatDoorM02
import Derived.Deep.RegionHeld3
import Derived.Test.YthlmlmfebpjgdaaGreatDoorM01
set_option linter.unusedSimpArgs false
set_option linter.unusedVariables false
set_option maxHeartbeats 12800000
namespace Go.Proofs.YthlmlmfebpjgdaaGreatDoor
open Go.Proofs.Tryz
open Go.RowKit
theorem rv_nat(v:Nat):rv false v 1=(v:Rat):=by
 unfold rv
 exact div_eq (by decide) (by show (v:Rat)=v*1;rw [Rat.mul_one])
theorem int_K(K v:Nat)(w:World)(hK:K=1)(hv:v<4294967296):
  Calls prog 51 #[.int .i64 (v:Int)] w (NewRat w K (rv false v 1)):=by
 have hvk:v<2^(32*K):=by subst hK;exact hv
 have h1k:1<2^(32*K):=by subst hK;decide
 have ba:=below_alloc w (.cells (Zr false none 0 0 none 0 0) 42);have BA:=Hd ba;have BLK:=Hd (Blk.new w 42 (Zr false none 0 0 none 0 0));have HS:=Hd (small_any v (w.alloc (.cells (Zr false none 0 0 none 0 0) 42)) (by omega));have HV:=Hd hvk;have H1:=Hd h1k;have HK34:=Hd hK
 have hv0:(0:Int)<=(v:Int):=by omega
 clear ba hvk h1k hK
 go_enter func51,ntmps51
 go_wp2_with fail;refine HS.out.mono ?_;rintro e1 w1 ⟨A,n,c,rfl,hu1,hb1⟩;have hW:Below w.heap.size w (w1.alloc (.cells #[wd 1] 117)):=(BA.out.trans (hb1.mono BA.out.size)).alloc (by have:=BA.out.size;have:=hb1.size;omega) _;have hKK:=(BLK.out.keep hb1).alloc (.cells #[wd 1] 117);have HF:=Hd (frac_plain false A (some ⟨w1.heap.size,0,none⟩) n c 1 1 K v 1 (w1.alloc (.cells #[wd 1] 117)) (hu1.alloc _) (by rw [digs_one];exact U32s.lit1 w1 117 (a:=1) (by omega)) (by omega) HV.out H1.out (by have:=HK34.out;omega) (by have:=HK34.out;omega));have HW:=Hd hW;have HK:=Hd hKK;clear hu1 hb1 hW hKK HS;go_wp2_with fail;refine HF.out.mono ?_;rintro e2 w2 ⟨neg2,vn,vd,rfl,hr,hb2⟩;obtain⟨A5,n5,c5,A6,n6,c6,rfl,rfl⟩:=hr.shape;have hblk:=HK.out.keep hb2;have k0:=hblk.cell 0;have k1:=hblk.cell 1;have k2:=hblk.cell 2;have f0:=hblk.frozen 0;have f1:=hblk.frozen 1;have f2:=hblk.frozen 2;have hlt:=hblk.lt;have FF:=Hd (NewRat.lay hr HW.out hb2 HK.out NoWd.zero (Nat.le_refl _));clear hblk hb2 hr HF
 simp at k0 k1 k2
 go_wp2;refine bodyPost_ret (v:=Zg neg2 A5 n5 c5 A6 n6 c6) (by simp [results,results51,go_sem,k0,k1,k2]) rfl ?_
 exact FF.out
theorem int_nat(v:Nat)(w:World)(hv:v<4294967296):
  Calls prog 51 #[.int .i64 (v:Int)] w (NewRat w 1 (v:Rat)):=by
 have h:=int_K 1 v w rfl hv;rw [rv_nat] at h
 exact h
theorem size_i{b:Nat}(hb:L64 b):bits .andNot .u64 (b:Int) 9223372036854775808=((rungOf b:Nat):Int):=by
 have:=u64_andNot_nat b 9223372036854775808 hb (by omega);rw [show (18446744073709551615 - 9223372036854775808:Nat)=2^63 - 1 from rfl,Nat.and_two_pow_sub_one_eq_mod] at this
 exact this
theorem isnan_any(b:Nat)(w:World)(hb:L64 b):
  Calls prog 204 #[.int .u64 (b:Int)] w fun e w'=>e=.returned (.bool (decide (M<rungOf b)))/\∃ k,w'=w.drewN k:=by
 have H:=Hd (size_i hb)
 go_enter func204,ntmps204
 go_wp2
 go_ret
 rw [H.out,M_val]
 exact⟨ret_bool (by simp only [decide_eq_decide];omega),0,rfl⟩
theorem plain_any(b:Nat)(w:World)(hb:L64 b):
  Calls prog 175 #[.int .u64 (b:Int)] w fun e w'=>e=.returned (.int .u64 (pl b:Int))/\∃ k,w'=w.drewN k:=by
 have H:=Hd fun W=>isnan_any b W hb
 rcases Nat.lt_trichotomy b 9223372036854775808 with h | h | h
 all_goals
  first
  | (subst h
     go_enter func175,ntmps175
     go_wp2
     go_ret
     exact⟨ret_int rfl,0,rfl⟩)
  | (have h1:((b:Int) == 9223372036854775808)=false:=by simp;omega
     have hp:pl b=if M<rungOf b then 9221120237041090561 else b:=by unfold pl;rw [if_neg (by omega)]
     have HP:=Hd hp
     rcases Nat.lt_or_ge M (rungOf b) with h2 | h2
     ·rw [if_pos h2] at hp;rw [decide_eq_true h2] at H;rw [hp];clear h hp HP h2
      go_enter func175,ntmps175
      go_wp2_with (refine (H.out _).mono ?_;rintro e w1 ⟨rfl,k,rfl⟩)
      go_ret
      exact⟨rfl,k,rfl⟩
     ·rw [if_neg (by omega)] at hp;rw [decide_eq_false (show ¬ M<rungOf b from by omega)] at H;rw [hp];clear h hp HP h2
      go_enter func175,ntmps175
      go_wp2_with (refine (H.out _).mono ?_;rintro e w1 ⟨rfl,k,rfl⟩)
      go_ret
      exact⟨rfl,k,rfl⟩)
theorem key_any(b:Nat)(w:World)(hb:L64 b):
  Calls prog 205 #[.int .u64 (b:Int)] w fun e w'=>e=.returned (.int .u64 (keyOf b:Int))/\∃ k,w'=w.drewN k:=by
 have H:=Hd fun W=>plain_any b W hb;have hp:=pl_lt b hb
 obtain⟨p,hpp⟩:∃ p,pl b=p:=⟨_,rfl⟩
 have hk:keyOf b=if 9223372036854775808<=p then 18446744073709551615 - p else p+9223372036854775808:=by unfold keyOf;rw [hpp]
 rw [hpp] at H hp;rw [hk];have HP:=Hd hp
 obtain⟨r,hr⟩:∃ r,(if 9223372036854775808<=p then 18446744073709551615 - p else p+9223372036854775808)=r:=⟨_,rfl⟩
 rw [hr]
 rcases Nat.lt_or_ge p 9223372036854775808 with h | h
 ·rw [if_neg (by omega)] at hr
  have h1:decide (9223372036854775808<=(p:Int))=false:=by simp;omega
  have h2:bits .or .u64 (p:Int) 9223372036854775808=((r:Nat):Int):=by
   have:=u64_or_nat p 9223372036854775808 hp (by omega);rw [Nat.or_comm,nat_join 63 _ _ (by decide) (by exact h),Nat.add_comm,hr] at this;exact this
  clear h hp hk hpp hr
  go_enter func205,ntmps205
  go_wp2_with fail;refine (H.out _).mono ?_;rintro e w1 ⟨rfl,k,rfl⟩;go_wp2
  go_ret
  exact⟨ret_int rfl,k,rfl⟩
 ·rw [if_pos h] at hr
  have h1:(9223372036854775808<=(p:Int)):=by omega
  have h2:bits .xor .u64 18446744073709551615 (p:Int)=((r:Nat):Int):=by
   have:=u64_xor_nat 18446744073709551615 p (by omega) hp;rw [show (18446744073709551615:Nat)=2^64 - 1 from rfl] at this;rw [show ((18446744073709551615:Int))=((2^64 - 1:Nat):Int) from rfl,this,<- hr]
   congr 1
   apply Nat.eq_of_testBit_eq
   intro i;rw [Nat.testBit_xor,Nat.testBit_two_pow_sub_one,show 2^64 - 1 - p=2^64 - (p+1) from by omega,Nat.testBit_two_pow_sub_succ hp]
   by_cases hi:i<64
   ·simp [hi]
   ·simp [hi]
    exact Nat.testBit_lt_two_pow (Nat.lt_of_lt_of_le hp (Nat.pow_le_pow_right (n:=2) (by omega) (by omega:64<=i)))
  have H2:=Hd h2;clear h hp hk hpp h2 hr
  go_enter func205,ntmps205
  go_wp2_with (refine (H.out _).mono ?_;rintro e w1 ⟨rfl,k,rfl⟩)
  go_ret
  exact⟨ret_int H2.out,k,rfl⟩
theorem above_any(x y:Nat)(w:World)(hx:L64 x)(hy:L64 y):
  Calls prog 144 #[.int .u64 (x:Int),.int .u64 (y:Int)] w fun e w'=>e=.returned (.bool (decide (rungOf x<=M/\rungOf y<=M/\idx y<idx x)))/\∃ k,w'=w.drewN k:=by
 have H1:=Hd fun W=>isnan_any x W hx;have H2:=Hd fun W=>isnan_any y W hy;have K1:=Hd fun W=>key_any x W hx;have K2:=Hd fun W=>key_any y W hy
 by_cases h1:M<rungOf x
 ·rw [decide_eq_true h1] at H1;rw [decide_eq_false (show ¬ (rungOf x<=M/\rungOf y<=M/\idx y<idx x) from by omega)];clear h1
  go_enter func144,ntmps144
  go_wp2_with (first | (go_at_call 204;refine (H1.out _).mono ?_;rintro e w1 ⟨rfl,k,rfl⟩))
  go_ret
  exact⟨rfl,k,rfl⟩
 ·rw [decide_eq_false h1] at H1
  by_cases h2:M<rungOf y
  ·rw [decide_eq_true h2] at H2;rw [decide_eq_false (show ¬ (rungOf x<=M/\rungOf y<=M/\idx y<idx x) from by omega)];clear h1 h2
   go_enter func144,ntmps144
   go_wp2_with fail;refine (H1.out _).mono ?_;rintro e w1 ⟨rfl,k,rfl⟩;go_wp2_with fail;refine (H2.out _).mono ?_;rintro e w1 ⟨rfl,k2,rfl⟩;go_wp2
   go_ret
   exact⟨rfl,k+k2,rfl⟩
  ·rw [decide_eq_false h2] at H2;have hk:=key_lt hy hx (by omega) (by omega)
   have hd:decide (rungOf x<=M/\rungOf y<=M/\idx y<idx x)=decide (keyOf y<keyOf x):=by
    rw [decide_eq_decide];omega
   rw [hd];clear h1 h2 hk hd
   go_enter func144,ntmps144
   go_wp2_with fail;refine (H1.out _).mono ?_;rintro e w1 ⟨rfl,k,rfl⟩;go_wp2_with fail;refine (H2.out _).mono ?_;rintro e w1 ⟨rfl,k2,rfl⟩;go_wp2_with fail;refine (K1.out _).mono ?_;rintro e w1 ⟨rfl,k3,rfl⟩;go_wp2_with fail;refine (K2.out _).mono ?_;rintro e w1 ⟨rfl,k4,rfl⟩;go_wp2
   go_ret
   exact⟨rfl,k+k2+k3+k4,rfl⟩
section
open Go.RowKit
end
theorem cell_below{W W':World}{a:Addr}{v:Value}(h:W.cell? a=some v)(hb:Below W.heap.size W W'):W'.cell? a=some v:=by
 have hlt:a.block<W.heap.size:=by
  unfold World.cell? at h
  split at h
  ·rename_i e
   exact (Array.getElem?_eq_some_iff.1 e).1
  ·cases h
 rw [World.cell?_of_block (w:=W)]
 ·exact h
 ·exact hb.block _ hlt
def cellOf(W:World)(a:Addr):Value:=(W.cell? a).getD (.bool false)
theorem cellOf_some{W:World}{a:Addr}{v:Value}(h:W.cell? a=some v):W.cell? a=some (cellOf W a):=by
 unfold cellOf;rw [h];rfl
theorem Blk.new2(w:World)(o:Obj)(t:TypeId)(cs:Array Value):Blk ((w.alloc o).alloc (.cells cs t)) (w.heap.size+1) t cs:=by
 have h:=Blk.new (w.alloc o) t cs;rw [show (w.alloc o).heap.size=w.heap.size+1 from by simp] at h
 exact h
def sets(W:World)(r:Nat):Nat->List Value->World
 | _,[]=>W
 | i,v :: vs=>sets (W.setCell ⟨r,i,none⟩ v) r (i+1) vs
theorem below_sets{w0:World}{B r:Nat}(hr:B<=r):∀ (vs:List Value) (i:Nat) (W:World),Below B w0 W->Below B w0 (sets W r i vs)
 | [],_,_,h=>h
 | v :: vs,i,_,h=>below_sets hr vs (i+1) _ (h.setCell (p:=⟨r,i,none⟩) hr v)
theorem heap_sets{r k:Nat}(h:k≠r):∀ (vs:List Value) (i:Nat) (W:World),(sets W r i vs).heap[k]?=W.heap[k]?
 | [],_,_=>rfl
 | v :: vs,i,W=>by
  show (sets (W.setCell ⟨r,i,none⟩ v) r (i+1) vs).heap[k]?=_
  rw [heap_sets h vs (i+1)]
  exact Below.heap_setCell W ⟨r,i,none⟩ v k h
theorem size_sets{r:Nat}:∀ (vs:List Value) (i:Nat) (W:World),(sets W r i vs).heap.size=W.heap.size
 | [],_,_=>rfl
 | v :: vs,i,W=>by
  show (sets (W.setCell ⟨r,i,none⟩ v) r (i+1) vs).heap.size=_
  rw [size_sets vs (i+1)]
  simp [World.setCell]
theorem Blk.set{W:World}{g:Nat}{t:TypeId}{cs:Array Value}(h:Blk W g t cs)(i:Nat)(v:Value):Blk (W.setCell ⟨g,i,none⟩ v) g t (cs.setIfInBounds i v):=by
 unfold Blk World.setCell at *
 simp only [Array.getElem?_modify,if_true,h]
 rfl
def laid(cs:Array Value):Nat->List Value->Array Value
 | _,[]=>cs
 | i,v :: vs=>laid (cs.setIfInBounds i v) (i+1) vs
theorem Blk.sets{g:Nat}{t:TypeId}:∀ (vs:List Value) (i:Nat) (W:World) (cs:Array Value),Blk W g t cs->Blk (sets W g i vs) g t (laid cs i vs)
 | [],_,_,_,h=>h
 | v :: vs,i,_,_,h=>Blk.sets vs (i+1) _ _ (h.set i v)
theorem laid_size:∀ (vs:List Value) (i:Nat) (cs:Array Value),(laid cs i vs).size=cs.size
 | [],_,_=>rfl
 | v :: vs,i,cs=>by
  show (laid (cs.setIfInBounds i v) (i+1) vs).size=_
  rw [laid_size vs (i+1)];simp
theorem laid_lt:∀ (vs:List Value) (i j:Nat) (cs:Array Value),j<i->(laid cs i vs)[j]?=cs[j]?
 | [],_,_,_,_=>rfl
 | v :: vs,i,j,cs,h=>by
  show (laid (cs.setIfInBounds i v) (i+1) vs)[j]?=_
  rw [laid_lt vs (i+1) j _ (by omega),Array.getElem?_setIfInBounds];rw [if_neg (by omega)]
theorem laid_get:∀ (vs:List Value) (i j:Nat) (cs:Array Value),j<vs.length->i+vs.length<=cs.size->(laid cs i vs)[i+j]?=vs[j]?
 | [],_,_,_,h,_=>by simp at h
 | v :: vs,i,0,cs,_,h=>by
  show (laid (cs.setIfInBounds i v) (i+1) vs)[i+0]?=_
  simp only [List.length_cons] at h
  rw [laid_lt vs (i+1) (i+0) _ (by omega),Array.getElem?_setIfInBounds,Nat.add_zero,if_pos rfl,if_pos (by omega)]
  rfl
 | v :: vs,i,j+1,cs,h,h'=>by
  show (laid (cs.setIfInBounds i v) (i+1) vs)[i+(j+1)]?=_
  simp only [List.length_cons] at h h'
  rw [show i+(j+1)=(i+1)+j from by omega,laid_get vs (i+1) j _ (by omega) (by simp;omega)]
  rfl
theorem sets_cell{W:World}{g:Nat}{t:TypeId}{cs:Array Value}(h:Blk W g t cs)(vs:List Value)(j:Nat)(hj:j<vs.length)(hs:vs.length<=cs.size):
  (sets W g 0 vs).cell? ⟨g,j,none⟩=vs[j]?:=by
 rw [(h.sets vs 0 W cs).cell j];have:=laid_get vs 0 j cs hj (by omega);rw [Nat.zero_add] at this
 exact this
def notWd:Value->Bool
 | .int .u32 _=>false
 | _=>true
theorem NoWd.of{cs:Array Value}(h:cs.all notWd=true):NoWd cs:=by
 intro i x hi;obtain⟨hlt,he⟩:=Array.getElem?_eq_some_iff.1 hi;have:=Array.all_eq_true.1 h i hlt;rw [he] at this
 cases this
theorem U32s.sets{W:World}{A:Option Addr}{n c g:Nat}{t:TypeId}{cs:Array Value}{xs:List Nat}(h:U32s W A n c xs)(hb:Blk W g t cs)(hc:NoWd cs)(i:Nat)(vs:List Value):U32s (sets W g i vs) A n c xs:=
 h.keep (by rw [size_sets];exact Nat.le_refl _) fun ad e hn=>heap_sets (hb.apart hc h ad e hn) vs i W
theorem RatV.sets{W:World}{K:Nat}{neg:Bool}{vn vd:Value}{x:Rat}{g:Nat}{t:TypeId}{cs:Array Value}(h:RatV W K neg vn vd x)(hb:Blk W g t cs)(hc:NoWd cs)(i:Nat)(vs:List Value):RatV (sets W g i vs) K neg vn vd x:=by
 obtain⟨p,q,A,n,c,B,m,d,rfl,rfl,h3,h4,h5⟩:=h
 exact⟨p,q,A,n,c,B,m,d,rfl,rfl,h3.sets hb hc i vs,h4.sets hb hc i vs,h5⟩
theorem Blk.at{W:World}{g:Nat}(h:W.heap.size=g)(t:TypeId)(cs:Array Value):Blk (W.alloc (.cells cs t)) g t cs:=by
 subst h;exact Blk.new W t cs
def HasBlk(W:World)(r:Nat)(t:TypeId)(n:Nat):Prop:=∃ cs,Blk W r t cs/\cs.size=n/\NoWd cs
theorem HasBlk.keep{W W':World}{r:Nat}{t:TypeId}{n:Nat}(h:HasBlk W r t n)(hb:Below W.heap.size W W'):HasBlk W' r t n:=by
 obtain⟨cs,h1,h2,h3⟩:=h
 exact⟨cs,h1.keep hb,h2,h3⟩
theorem HasBlk.of{W:World}{r:Nat}{t:TypeId}{cs:Array Value}{n:Nat}(h:Blk W r t cs)(hs:cs.size=n)(hc:cs.toList.all notWd=true):HasBlk W r t n:=⟨cs,h,hs,NoWd.of (by rw [<- Array.all_toList];exact hc)⟩
theorem Blk.someCell{W:World}{g:Nat}{t:TypeId}{cs:Array Value}(h:Blk W g t cs){j:Nat}(hj:j<cs.size):W.cell? ⟨g,j,none⟩=some (cellOf W ⟨g,j,none⟩):=by
 have h1:=h.cell j;rw [Array.getElem?_eq_getElem hj] at h1
 exact cellOf_some h1
theorem laid_all(vs:List Value)(cs:Array Value)(h:vs.length=cs.size):laid cs 0 vs=vs.toArray:=by
 apply Array.ext_getElem?
 intro j
 rcases Nat.lt_or_ge j vs.length with hj | hj
 ·have:=laid_get vs 0 j cs hj (by omega);rw [Nat.zero_add] at this;rw [this];simp
 ·rw [Array.getElem?_eq_none (by rw [laid_size];omega)]
  simp [hj]
theorem HasBlk.sets{W:World}{r:Nat}{t:TypeId}{n:Nat}(h:HasBlk W r t n)(vs:List Value)(hl:vs.length=n)(hv:vs.all notWd=true):HasBlk (sets W r 0 vs) r t n:=by
 obtain⟨cs,h1,h2,-⟩:=h;have:=h1.sets vs 0 W cs;rw [laid_all vs cs (by omega)] at this
 exact .of this (by simp [hl]) (by simpa using hv)
theorem Blk.other{W:World}{g r:Nat}{t:TypeId}{cs:Array Value}(h:Blk W g t cs)(hg:g≠r)(i:Nat)(vs:List Value):Blk (Proofs.YthlmlmfebpjgdaaGreatDoor.sets W r i vs) g t cs:=(heap_sets hg vs i W).trans h
theorem HasBlk.laid{W:World}{r:Nat}{t:TypeId}{n:Nat}(h:HasBlk W r t n)(vs:List Value)(hl:vs.length=n):Blk (Proofs.YthlmlmfebpjgdaaGreatDoor.sets W r 0 vs) r t vs.toArray:=by
 obtain⟨cs,h1,h2,-⟩:=h;have:=h1.sets vs 0 W cs
 rwa [laid_all vs cs (by omega)] at this
theorem HasBlk.lt{W:World}{r:Nat}{t:TypeId}{n:Nat}(h:HasBlk W r t n):r<W.heap.size:=by
 obtain⟨cs,h1,-⟩:=h
 exact h1.lt
theorem HasBlk.rat{W:World}{K:Nat}{neg:Bool}{vn vd:Value}{x:Rat}{r:Nat}{t:TypeId}{n:Nat}(h:HasBlk W r t n)(hr:RatV W K neg vn vd x)(vs:List Value):RatV (Proofs.YthlmlmfebpjgdaaGreatDoor.sets W r 0 vs) K neg vn vd x:=by
 obtain⟨cs,h1,-,h2⟩:=h
 exact hr.sets h1 h2 0 vs
theorem HasBlk.someCell{W:World}{r:Nat}{t:TypeId}{n:Nat}(h:HasBlk W r t n)(j:Nat)(hj:j<n):W.cell? ⟨r,j,none⟩=some (cellOf W ⟨r,j,none⟩):=by
 obtain⟨cs,h1,h2,-⟩:=h
 exact h1.someCell (by omega)
theorem HasBlk.frozen{W:World}{r:Nat}{t:TypeId}{n:Nat}(h:HasBlk W r t n)(j:Nat):W.frozen? ⟨r,j,none⟩=false:=by
 obtain⟨cs,h1,h2,-⟩:=h
 exact h1.frozen j
theorem HasBlk.setCell{W:World}{r:Nat}{t:TypeId}{n:Nat}(h:HasBlk W r t n)(vs:List Value)(hl:vs.length=n)(j:Nat)(hj:j<n):(Proofs.YthlmlmfebpjgdaaGreatDoor.sets W r 0 vs).cell? ⟨r,j,none⟩=vs[j]?:=by
 obtain⟨cs,h1,h2,-⟩:=h
 exact sets_cell h1 vs j (by omega) (by omega)
theorem HasBlk.drew{W:World}{r:Nat}{t:TypeId}{n:Nat}(h:HasBlk W r t n):HasBlk W.drew r t n:=h
theorem Blk.drew{W:World}{g:Nat}{t:TypeId}{cs:Array Value}(h:Blk W g t cs):Blk W.drew g t cs:=h
theorem HasBlk.alloc{W:World}{r:Nat}{t:TypeId}{n:Nat}(h:HasBlk W r t n)(o:Obj):HasBlk (W.alloc o) r t n:=by
 obtain⟨cs,h1,h2⟩:=h
 exact⟨cs,h1.alloc o,h2⟩
theorem HasBlk.other{W:World}{g r:Nat}{t:TypeId}{n:Nat}(h:HasBlk W g t n)(hg:g≠r)(i:Nat)(vs:List Value):HasBlk (Proofs.YthlmlmfebpjgdaaGreatDoor.sets W r i vs) g t n:=by
 obtain⟨cs,h1,h2⟩:=h
 exact⟨cs,h1.other hg i vs,h2⟩
theorem RatV.far{W:World}{K:Nat}{neg:Bool}{vn vd:Value}{x:Rat}{g:Nat}{t:TypeId}{cs:Array Value}(h:RatV W K neg vn vd x)(hb:Blk W g t cs)(hc:cs.toList.all notWd=true)(i:Nat)(v:Value):RatV (W.setCell ⟨g,i,none⟩ v) K neg vn vd x:=
 h.sets hb (NoWd.of (by rw [<- Array.all_toList];exact hc)) i [v]
section
section
variable {P:Program} {ops:Array Oper} {Q:Exit->Act->World->Prop} {md:Region.Mode} {S:World->Prop} {fuel:Nat} {listed:Array Bool} {a:Act} {w:World}
theorem tk(i:Nat){oi:Oper}{v:Value}(h:wpAnyH P md ops Q S fuel (listed.setIfInBounds i true) (a.put oi.dst v) w)(hi:ops[i]?=some oi:=by rfl)(hs:Region.noSelect ops=true:=by kernel_rfl)(hf:Region.free md ops listed i=true:=by kernel_rfl)(hr:(Region.ready md ops listed).contains i=true:=by kernel_rfl)
  (hQ:∀ c a w,Q (.panic c) (a.put oi.dst v) w->Q (.panic c) a w:=by exact fun _ _ _ h=>h)(hw:Region.wanted oi (yielded ops a.tmps)=true:=by rfl)(hv:∀ w,S w->(execOp a.eval oi).run P w=.ok (.value v) w:=by intro W2 hSw;go_simp;(try with_reducible rfl))(hS:S w:=by assumption):wpAnyH P md ops Q S (fuel+1) listed a w:=
 wpAnyH_take hi hs hf hr hQ (Or.inl ⟨hw,hv⟩) hS h
theorem tkn(i:Nat){oi:Oper}(h:wpAnyH P md ops Q S fuel (listed.setIfInBounds i true) (a.put oi.dst undef) w)(hi:ops[i]?=some oi:=by rfl)(hs:Region.noSelect ops=true:=by kernel_rfl)(hf:Region.free md ops listed i=true:=by kernel_rfl)(hr:(Region.ready md ops listed).contains i=true:=by kernel_rfl)
  (hQ:∀ c a w,Q (.panic c) (a.put oi.dst undef) w->Q (.panic c) a w:=by exact fun _ _ _ h=>h)(hw:Region.wanted oi (yielded ops a.tmps)=false:=by rfl)(hS:S w:=by assumption):wpAnyH P md ops Q S (fuel+1) listed a w:=
 wpAnyH_take hi hs hf hr hQ (Or.inr ⟨hw,rfl⟩) hS h
theorem rdy(i:Nat){o:Oper}(h:∀ K':Act->World->Prop,Shut (∀ a w,S w->(S w->wpAnyH P md ops Q S fuel (listed.setIfInBounds i true) a w)->K' a w)->if Region.wanted o (yielded ops a.tmps)=true then Oper.wp P o a w K' Q else K' (a.put o.dst undef) w)
  (hr:Region.ready md ops listed=[i]:=by kernel_rfl)(ho:ops[i]?=some o:=by rfl):wpAnyH P md ops Q S (fuel+1) listed a w:=
 wpAnyH_ready hr (by simp) (AllReadyH.cons ho h AllReadyH.nil)
end
theorem lay:(∀ (α:Type) (l:List α) (i:Nat) (h:i<l.toArray.size),l.toArray[i]=l[i]'(by simpa using h))/\(∀ (α:Type) (a:α) (l:List α) (i:Nat) (h:i+1<(a :: l).length),(a :: l)[i+1]=l[i]'(by simpa using h)) /\
  (∀ (α:Type) (a:α) (l:List α) (h:0<(a :: l).length),(a :: l)[0]=a)/\(∀ (α:Type) (l:List α) (i:Nat) (a:α),l.toArray.setIfInBounds i a=(l.set i a).toArray)/\(∀ (α:Type) (a b:α) (l:List α),(a :: l).set 0 b=b :: l)/\(∀ (α:Type) (a b:α) (l:List α) (n:Nat),(a :: l).set (n+1) b=a :: l.set n b):=
 ⟨fun _ _ _ _=>by simp,fun _ _ _ _ _=>rfl,fun _ _ _ _=>rfl,fun _ _ _ _=>by simp,fun _ _ _ _=>rfl,fun _ _ _ _ _=>rfl⟩
section
variable {w0 W W':World} {g:Nat} {t:TypeId} {cs:Array Value} {B n:Nat}
theorem stB(h:Hid (Below B w0 W))(hb:Below W.heap.size W W')(hs:B<=W.heap.size:=by exact Below.size (Hid.out (by assumption))):Hid (Below B w0 W'):=Hd (h.out.trans (hb.mono hs))
theorem stG(h:Hid (Blk W g t cs))(hb:Below W.heap.size W W'):Hid (Blk W' g t cs):=Hd (h.out.keep hb)
theorem stR(h:Hid (HasBlk W g t n))(hb:Below W.heap.size W W'):Hid (HasBlk W' g t n):=Hd (h.out.keep hb)
theorem Blk.ce(h:Blk W g t cs)(i:Nat){v:Value}(hv:cs[i]?=some v):W.cell? ⟨g,i,none⟩=some v:=(h.cell i).trans hv
theorem Blk.c2{v0 v1:Value}(h:Blk W g t #[v0,v1]):W.cell? ⟨g,0,none⟩=some v0/\W.cell? ⟨g,1,none⟩=some v1:=⟨h.cell 0,h.cell 1⟩
theorem Blk.c3{v0 v1 v2:Value}(h:Blk W g t #[v0,v1,v2]):W.cell? ⟨g,0,none⟩=some v0/\W.cell? ⟨g,1,none⟩=some v1/\W.cell? ⟨g,2,none⟩=some v2:=⟨h.cell 0,h.cell 1,h.cell 2⟩
theorem Blk.c4{v0 v1 v2 v3:Value}(h:Blk W g t #[v0,v1,v2,v3]):W.cell? ⟨g,0,none⟩=some v0/\W.cell? ⟨g,1,none⟩=some v1/\W.cell? ⟨g,2,none⟩=some v2/\W.cell? ⟨g,3,none⟩=some v3:=⟨h.cell 0,h.cell 1,h.cell 2,h.cell 3⟩
theorem Blk.c9{v0 v1 v2 v3 v4 v5 v6 v7 v8:Value}(h:Blk W g t #[v0,v1,v2,v3,v4,v5,v6,v7,v8]):W.cell? ⟨g,0,none⟩=some v0/\W.cell? ⟨g,1,none⟩=some v1/\W.cell? ⟨g,2,none⟩=some v2/\W.cell? ⟨g,3,none⟩=some v3/\W.cell? ⟨g,4,none⟩=some v4/\W.cell? ⟨g,5,none⟩=some v5/\W.cell? ⟨g,6,none⟩=some v6/\W.cell? ⟨g,7,none⟩=some v7/\W.cell? ⟨g,8,none⟩=some v8:=⟨h.cell 0,h.cell 1,h.cell 2,h.cell 3,h.cell 4,h.cell 5,h.cell 6,h.cell 7,h.cell 8⟩
theorem HasBlk.sf2(h:HasBlk W g t 2):W.cell? ⟨g,0,none⟩=some (cellOf W ⟨g,0,none⟩)/\W.frozen? ⟨g,0,none⟩=false/\W.cell? ⟨g,1,none⟩=some (cellOf W ⟨g,1,none⟩)/\W.frozen? ⟨g,1,none⟩=false:=⟨h.someCell 0 (by decide),h.frozen 0,h.someCell 1 (by decide),h.frozen 1⟩
theorem HasBlk.sf3(h:HasBlk W g t 3):W.cell? ⟨g,0,none⟩=some (cellOf W ⟨g,0,none⟩)/\W.frozen? ⟨g,0,none⟩=false/\W.cell? ⟨g,1,none⟩=some (cellOf W ⟨g,1,none⟩)/\W.frozen? ⟨g,1,none⟩=false/\W.cell? ⟨g,2,none⟩=some (cellOf W ⟨g,2,none⟩)/\W.frozen? ⟨g,2,none⟩=false:=⟨h.someCell 0 (by decide),h.frozen 0,h.someCell 1 (by decide),h.frozen 1,h.someCell 2 (by decide),h.frozen 2⟩
theorem HasBlk.sf4(h:HasBlk W g t 4):W.cell? ⟨g,0,none⟩=some (cellOf W ⟨g,0,none⟩)/\W.frozen? ⟨g,0,none⟩=false/\W.cell? ⟨g,1,none⟩=some (cellOf W ⟨g,1,none⟩)/\W.frozen? ⟨g,1,none⟩=false/\W.cell? ⟨g,2,none⟩=some (cellOf W ⟨g,2,none⟩)/\W.frozen? ⟨g,2,none⟩=false/\W.cell? ⟨g,3,none⟩=some (cellOf W ⟨g,3,none⟩)/\W.frozen? ⟨g,3,none⟩=false:=⟨h.someCell 0 (by decide),h.frozen 0,h.someCell 1 (by decide),h.frozen 1,h.someCell 2 (by decide),h.frozen 2,h.someCell 3 (by decide),h.frozen 3⟩
theorem HasBlk.sf9(h:HasBlk W g t 9):W.cell? ⟨g,0,none⟩=some (cellOf W ⟨g,0,none⟩)/\W.frozen? ⟨g,0,none⟩=false/\W.cell? ⟨g,1,none⟩=some (cellOf W ⟨g,1,none⟩)/\W.frozen? ⟨g,1,none⟩=false/\W.cell? ⟨g,2,none⟩=some (cellOf W ⟨g,2,none⟩)/\W.frozen? ⟨g,2,none⟩=false/\W.cell? ⟨g,3,none⟩=some (cellOf W ⟨g,3,none⟩)/\W.frozen? ⟨g,3,none⟩=false/\W.cell? ⟨g,4,none⟩=some (cellOf W ⟨g,4,none⟩)/\W.frozen? ⟨g,4,none⟩=false/\W.cell? ⟨g,5,none⟩=some (cellOf W ⟨g,5,none⟩)/\W.frozen? ⟨g,5,none⟩=false/\W.cell? ⟨g,6,none⟩=some (cellOf W ⟨g,6,none⟩)/\W.frozen? ⟨g,6,none⟩=false/\W.cell? ⟨g,7,none⟩=some (cellOf W ⟨g,7,none⟩)/\W.frozen? ⟨g,7,none⟩=false/\W.cell? ⟨g,8,none⟩=some (cellOf W ⟨g,8,none⟩)/\W.frozen? ⟨g,8,none⟩=false:=⟨h.someCell 0 (by decide),h.frozen 0,h.someCell 1 (by decide),h.frozen 1,h.someCell 2 (by decide),h.frozen 2,h.someCell 3 (by decide),h.frozen 3,h.someCell 4 (by decide),h.frozen 4,h.someCell 5 (by decide),h.frozen 5,h.someCell 6 (by decide),h.frozen 6,h.someCell 7 (by decide),h.frozen 7,h.someCell 8 (by decide),h.frozen 8⟩
theorem HasBlk.sc2(h:HasBlk W g t 2)(v0 v1:Value):(Proofs.YthlmlmfebpjgdaaGreatDoor.sets W g 0 [v0,v1]).cell? ⟨g,0,none⟩=some v0/\(Proofs.YthlmlmfebpjgdaaGreatDoor.sets W g 0 [v0,v1]).cell? ⟨g,1,none⟩=some v1:=⟨h.setCell _ rfl 0 (by decide),h.setCell _ rfl 1 (by decide)⟩
theorem HasBlk.sc3(h:HasBlk W g t 3)(v0 v1 v2:Value):(Proofs.YthlmlmfebpjgdaaGreatDoor.sets W g 0 [v0,v1,v2]).cell? ⟨g,0,none⟩=some v0/\(Proofs.YthlmlmfebpjgdaaGreatDoor.sets W g 0 [v0,v1,v2]).cell? ⟨g,1,none⟩=some v1/\(Proofs.YthlmlmfebpjgdaaGreatDoor.sets W g 0 [v0,v1,v2]).cell? ⟨g,2,none⟩=some v2:=⟨h.setCell _ rfl 0 (by decide),h.setCell _ rfl 1 (by decide),h.setCell _ rfl 2 (by decide)⟩
theorem HasBlk.sc4(h:HasBlk W g t 4)(v0 v1 v2 v3:Value):(Proofs.YthlmlmfebpjgdaaGreatDoor.sets W g 0 [v0,v1,v2,v3]).cell? ⟨g,0,none⟩=some v0/\(Proofs.YthlmlmfebpjgdaaGreatDoor.sets W g 0 [v0,v1,v2,v3]).cell? ⟨g,1,none⟩=some v1/\(Proofs.YthlmlmfebpjgdaaGreatDoor.sets W g 0 [v0,v1,v2,v3]).cell? ⟨g,2,none⟩=some v2/\(Proofs.YthlmlmfebpjgdaaGreatDoor.sets W g 0 [v0,v1,v2,v3]).cell? ⟨g,3,none⟩=some v3:=⟨h.setCell _ rfl 0 (by decide),h.setCell _ rfl 1 (by decide),h.setCell _ rfl 2 (by decide),h.setCell _ rfl 3 (by decide)⟩
theorem HasBlk.sc9(h:HasBlk W g t 9)(v0 v1 v2 v3 v4 v5 v6 v7 v8:Value):(Proofs.YthlmlmfebpjgdaaGreatDoor.sets W g 0 [v0,v1,v2,v3,v4,v5,v6,v7,v8]).cell? ⟨g,0,none⟩=some v0/\(Proofs.YthlmlmfebpjgdaaGreatDoor.sets W g 0 [v0,v1,v2,v3,v4,v5,v6,v7,v8]).cell? ⟨g,1,none⟩=some v1/\(Proofs.YthlmlmfebpjgdaaGreatDoor.sets W g 0 [v0,v1,v2,v3,v4,v5,v6,v7,v8]).cell? ⟨g,2,none⟩=some v2/\(Proofs.YthlmlmfebpjgdaaGreatDoor.sets W g 0 [v0,v1,v2,v3,v4,v5,v6,v7,v8]).cell? ⟨g,3,none⟩=some v3/\(Proofs.YthlmlmfebpjgdaaGreatDoor.sets W g 0 [v0,v1,v2,v3,v4,v5,v6,v7,v8]).cell? ⟨g,4,none⟩=some v4/\(Proofs.YthlmlmfebpjgdaaGreatDoor.sets W g 0 [v0,v1,v2,v3,v4,v5,v6,v7,v8]).cell? ⟨g,5,none⟩=some v5/\(Proofs.YthlmlmfebpjgdaaGreatDoor.sets W g 0 [v0,v1,v2,v3,v4,v5,v6,v7,v8]).cell? ⟨g,6,none⟩=some v6/\(Proofs.YthlmlmfebpjgdaaGreatDoor.sets W g 0 [v0,v1,v2,v3,v4,v5,v6,v7,v8]).cell? ⟨g,7,none⟩=some v7/\(Proofs.YthlmlmfebpjgdaaGreatDoor.sets W g 0 [v0,v1,v2,v3,v4,v5,v6,v7,v8]).cell? ⟨g,8,none⟩=some v8:=⟨h.setCell _ rfl 0 (by decide),h.setCell _ rfl 1 (by decide),h.setCell _ rfl 2 (by decide),h.setCell _ rfl 3 (by decide),h.setCell _ rfl 4 (by decide),h.setCell _ rfl 5 (by decide),h.setCell _ rfl 6 (by decide),h.setCell _ rfl 7 (by decide),h.setCell _ rfl 8 (by decide)⟩
end
theorem bx1(w:World)(c0:Array Value)(t0:TypeId):Hid (Below w.heap.size w (w.alloc (.cells c0 t0)))/\Hid (Blk (w.alloc (.cells c0 t0)) w.heap.size t0 c0):=⟨Hd (below_alloc w _),Hd (Blk.at (W:=w) (g:=w.heap.size) (by simp<;>omega) t0 c0)⟩
theorem bx2(w:World)(c0:Array Value)(t0:TypeId)(c1:Array Value)(t1:TypeId):Hid (Below w.heap.size w ((w.alloc (.cells c0 t0)).alloc (.cells c1 t1)))/\Hid (Blk ((w.alloc (.cells c0 t0)).alloc (.cells c1 t1)) w.heap.size t0 c0)/\Hid (Blk ((w.alloc (.cells c0 t0)).alloc (.cells c1 t1)) (w.heap.size+1) t1 c1):=⟨Hd ((below_alloc w _).alloc (by simp<;>omega) _),Hd ((Blk.at (W:=w) (g:=w.heap.size) (by simp<;>omega) t0 c0).alloc _),Hd (Blk.at (W:=(w.alloc (.cells c0 t0))) (g:=(w.heap.size+1)) (by simp<;>omega) t1 c1)⟩
theorem bx3(w:World)(c0:Array Value)(t0:TypeId)(c1:Array Value)(t1:TypeId)(c2:Array Value)(t2:TypeId):Hid (Below w.heap.size w (((w.alloc (.cells c0 t0)).alloc (.cells c1 t1)).alloc (.cells c2 t2)))/\Hid (Blk (((w.alloc (.cells c0 t0)).alloc (.cells c1 t1)).alloc (.cells c2 t2)) w.heap.size t0 c0)/\Hid (Blk (((w.alloc (.cells c0 t0)).alloc (.cells c1 t1)).alloc (.cells c2 t2)) (w.heap.size+1) t1 c1)/\Hid (Blk (((w.alloc (.cells c0 t0)).alloc (.cells c1 t1)).alloc (.cells c2 t2)) (w.heap.size+2) t2 c2):=⟨Hd (((below_alloc w _).alloc (by simp<;>omega) _).alloc (by simp<;>omega) _),Hd (((Blk.at (W:=w) (g:=w.heap.size) (by simp<;>omega) t0 c0).alloc _).alloc _),Hd ((Blk.at (W:=(w.alloc (.cells c0 t0))) (g:=(w.heap.size+1)) (by simp<;>omega) t1 c1).alloc _),Hd (Blk.at (W:=((w.alloc (.cells c0 t0)).alloc (.cells c1 t1))) (g:=(w.heap.size+2)) (by simp<;>omega) t2 c2)⟩
theorem bx4(w:World)(c0:Array Value)(t0:TypeId)(c1:Array Value)(t1:TypeId)(c2:Array Value)(t2:TypeId)(c3:Array Value)(t3:TypeId):Hid (Below w.heap.size w ((((w.alloc (.cells c0 t0)).alloc (.cells c1 t1)).alloc (.cells c2 t2)).alloc (.cells c3 t3)))/\Hid (Blk ((((w.alloc (.cells c0 t0)).alloc (.cells c1 t1)).alloc (.cells c2 t2)).alloc (.cells c3 t3)) w.heap.size t0 c0)/\Hid (Blk ((((w.alloc (.cells c0 t0)).alloc (.cells c1 t1)).alloc (.cells c2 t2)).alloc (.cells c3 t3)) (w.heap.size+1) t1 c1)/\Hid (Blk ((((w.alloc (.cells c0 t0)).alloc (.cells c1 t1)).alloc (.cells c2 t2)).alloc (.cells c3 t3)) (w.heap.size+2) t2 c2)/\Hid (Blk ((((w.alloc (.cells c0 t0)).alloc (.cells c1 t1)).alloc (.cells c2 t2)).alloc (.cells c3 t3)) (w.heap.size+3) t3 c3):=⟨Hd ((((below_alloc w _).alloc (by simp<;>omega) _).alloc (by simp<;>omega) _).alloc (by simp<;>omega) _),Hd ((((Blk.at (W:=w) (g:=w.heap.size) (by simp<;>omega) t0 c0).alloc _).alloc _).alloc _),Hd (((Blk.at (W:=(w.alloc (.cells c0 t0))) (g:=(w.heap.size+1)) (by simp<;>omega) t1 c1).alloc _).alloc _),Hd ((Blk.at (W:=((w.alloc (.cells c0 t0)).alloc (.cells c1 t1))) (g:=(w.heap.size+2)) (by simp<;>omega) t2 c2).alloc _),Hd (Blk.at (W:=(((w.alloc (.cells c0 t0)).alloc (.cells c1 t1)).alloc (.cells c2 t2))) (g:=(w.heap.size+3)) (by simp<;>omega) t3 c3)⟩
section
variable {P:Program} {ops:Array Oper} {Q:Exit->Act->World->Prop} {md:Region.Mode} {S:World->Prop} {fuel:Nat} {listed:Array Bool} {a:Act} {w:World}
theorem tks(i:Nat){oi:Oper}{v:Value}{R:Prop}(h:R)(hi:ops[i]?=some oi:=by rfl)(hs:Region.noSelect ops=true:=by kernel_rfl)(hf:Region.free md ops listed i=true:=by kernel_rfl)(hr:(Region.ready md ops listed).contains i=true:=by kernel_rfl)
  (hQ:∀ c a w,Q (.panic c) (a.put oi.dst v) w->Q (.panic c) a w:=by exact fun _ _ _ h=>h)(hw:Region.wanted oi (yielded ops a.tmps)=true:=by rfl)(hv:∀ w,S w->(execOp a.eval oi).run P w=.ok (.value v) w:=by intro W2 hSw;go_simp;(try with_reducible rfl))(hS:S w:=by assumption)
  (e:R->wpAnyH P md ops Q S fuel (listed.setIfInBounds i true) (a.put oi.dst v) w:=by intro hR;(try simp only [Act.put,lay]);exact hR):wpAnyH P md ops Q S (fuel+1) listed a w:=
 wpAnyH_take hi hs hf hr hQ (Or.inl ⟨hw,hv⟩) hS (e h)
theorem tkb(i:Nat){oi:Oper}{v:Value}{R:Prop}{B:World->Prop}(b:∀ W,S W->B W)(h:R)(hi:ops[i]?=some oi:=by rfl)(hs:Region.noSelect ops=true:=by kernel_rfl)(hf:Region.free md ops listed i=true:=by kernel_rfl)(hr:(Region.ready md ops listed).contains i=true:=by kernel_rfl)
  (hQ:∀ c a w,Q (.panic c) (a.put oi.dst v) w->Q (.panic c) a w:=by exact fun _ _ _ h=>h)(hw:Region.wanted oi (yielded ops a.tmps)=true:=by rfl)(hv:(∀ W,S W->B W)->∀ w,S w->(execOp a.eval oi).run P w=.ok (.value v) w:=by intro hb W2 hSw;have hq:=hb W2 hSw;clear hb;go_simp;(try with_reducible rfl))(hS:S w:=by assumption)
  (e:R->wpAnyH P md ops Q S fuel (listed.setIfInBounds i true) (a.put oi.dst v) w:=by intro hR;(try simp only [Act.put,lay]);exact hR):wpAnyH P md ops Q S (fuel+1) listed a w:=
 wpAnyH_take hi hs hf hr hQ (Or.inl ⟨hw,hv b⟩) hS (e h)
theorem tkns(i:Nat){oi:Oper}{R:Prop}(h:R)(hi:ops[i]?=some oi:=by rfl)(hs:Region.noSelect ops=true:=by kernel_rfl)(hf:Region.free md ops listed i=true:=by kernel_rfl)(hr:(Region.ready md ops listed).contains i=true:=by kernel_rfl)
  (hQ:∀ c a w,Q (.panic c) (a.put oi.dst undef) w->Q (.panic c) a w:=by exact fun _ _ _ h=>h)(hw:Region.wanted oi (yielded ops a.tmps)=false:=by rfl)(hS:S w:=by assumption)
  (e:R->wpAnyH P md ops Q S fuel (listed.setIfInBounds i true) (a.put oi.dst undef) w:=by intro hR;(try simp only [Act.put,lay]);exact hR):wpAnyH P md ops Q S (fuel+1) listed a w:=
 wpAnyH_take hi hs hf hr hQ (Or.inr ⟨hw,rfl⟩) hS (e h)
end
theorem cx{P:Program}{f:FuncId}{a:Array Value}{v:Value}{W:World}{T:Ending->World->Prop}(h:Calls P f a W fun e w'=>e=.returned v/\Below W.heap.size W w')(k:∀ w',Below W.heap.size W w'->T (.returned v) w'):Calls P f a W T:=
 h.mono fun _ w' ⟨he,hb⟩=>he ▸ k w' hb
end
theorem empty6(w:World):
  Rt 107 #[] (.agg #[.int .u64 9218868437227405312,.int .u64 18442240474082181120]) w:=by
 have hb:=Hd fun cs=>below_alloc w (.cells cs 24)
 go_enter func107,ntmps107
 go_wp2;refine bodyPost_ret (v:=.agg #[.int .u64 9218868437227405312,.int .u64 18442240474082181120]) (by simp [results,results107,go_sem]) rfl ?_
 exact⟨rfl,hb.out _⟩
theorem sound6(x y:Nat)(w:World)(hx:L64 x)(hy:L64 y):
  Rt 143 #[.agg #[.int .u64 (x:Int),.int .u64 (y:Int)]] (.bool (snd x y)) w:=by
 have hb:=Hd (below_alloc w (.cells #[.int .u64 (x:Int),.int .u64 (y:Int)] 24));have H1:=Hd fun W=>isnan_any x W hx;have H2:=Hd fun W=>isnan_any y W hy;have H3:=Hd fun W=>above_any x y W hx hy
 obtain⟨s,hs⟩:∃ s,snd x y=s:=⟨_,rfl⟩
 rw [hs]
 by_cases h1:M<rungOf x
 ·rw [decide_eq_true h1] at H1
  have h0:s=false:=by rw [<- hs];exact decide_eq_false (by omega)
  subst h0;clear h1 hs
  go_enter func143,ntmps143
  go_wp2_with fail;refine (H1.out _).mono ?_;rintro e w1 ⟨rfl,k,rfl⟩;go_wp2
  go_ret
  exact⟨rfl,below_drewN hb.out k⟩
 ·rw [decide_eq_false h1] at H1
  by_cases h2:M<rungOf y
  ·rw [decide_eq_true h2] at H2
   have h0:s=false:=by rw [<- hs];exact decide_eq_false (by omega)
   subst h0;clear h1 h2 hs
   go_enter func143,ntmps143
   go_wp2_with fail;refine (H1.out _).mono ?_;rintro e w1 ⟨rfl,k,rfl⟩;go_wp2_with fail;refine (H2.out _).mono ?_;rintro e w1 ⟨rfl,k2,rfl⟩;go_wp2
   go_ret
   exact⟨rfl,below_drewN hb.out _⟩
  ·rw [decide_eq_false h2] at H2
   by_cases h3:idx y<idx x
   ·rw [decide_eq_true (show rungOf x<=M/\rungOf y<=M/\idx y<idx x from⟨by omega,by omega,h3⟩)] at H3
    have h0:s=false:=by rw [<- hs];exact decide_eq_false (by omega)
    subst h0;clear h1 h2 h3 hs
    go_enter func143,ntmps143
    go_wp2_with fail;refine (H1.out _).mono ?_;rintro e w1 ⟨rfl,k,rfl⟩;go_wp2_with fail;refine (H2.out _).mono ?_;rintro e w1 ⟨rfl,k2,rfl⟩;go_wp2_with fail;refine (H3.out _).mono ?_;rintro e w1 ⟨rfl,k3,rfl⟩;go_wp2
    go_ret
    exact⟨rfl,below_drewN hb.out _⟩
   ·rw [decide_eq_false (show ¬ (rungOf x<=M/\rungOf y<=M/\idx y<idx x) from fun h=>h3 h.2.2)] at H3;have c1:=pat_cases hx;have c2:=pat_cases hy
    have h0:s=((!((x:Int) == 9218868437227405312)) && (!((y:Int) == 18442240474082181120))):=by
     rw [<- hs];unfold snd;rw [M_val] at *;rw [Bool.eq_iff_iff]
     simp only [decide_eq_true_eq,Bool.and_eq_true,Bool.not_eq_true',beq_eq_false_iff_ne,ne_eq]
     omega
    have HS:=Hd h0;clear h1 h2 h3 hs c1 c2 h0
    by_cases h4:x=9218868437227405312
    ·subst h4
     go_enter func143,ntmps143
     go_wp2_with fail;refine (H1.out _).mono ?_;rintro e w1 ⟨rfl,k,rfl⟩;go_wp2_with fail;refine (H2.out _).mono ?_;rintro e w1 ⟨rfl,k2,rfl⟩;go_wp2_with fail;refine (H3.out _).mono ?_;rintro e w1 ⟨rfl,k3,rfl⟩;go_wp2
     go_ret
     exact⟨ret_bool HS.out.symm,below_drewN hb.out _⟩
    ·have h5:((x:Int) == 9218868437227405312)=false:=by simp;omega
     rw [h5] at HS
     have h6:((x:Int) != 9218868437227405312)=true:=by simp;omega
     have HS2:=Hd (show s=((y:Int) != 18442240474082181120) from by rw [HS.out];rfl);clear h4 h5 HS
     go_enter func143,ntmps143
     go_wp2_with fail;refine (H1.out _).mono ?_;rintro e w1 ⟨rfl,k,rfl⟩;go_wp2_with fail;refine (H2.out _).mono ?_;rintro e w1 ⟨rfl,k2,rfl⟩;go_wp2_with fail;refine (H3.out _).mono ?_;rintro e w1 ⟨rfl,k3,rfl⟩;go_wp2
     go_ret
     exact⟨ret_bool HS2.out.symm,below_drewN hb.out _⟩
theorem plain_b(b:Nat)(w:World)(hb:L64 b):
  Rt 175 #[.int .u64 (b:Int)] (.int .u64 (pl b:Int)) w:=
 (plain_any b w hb).mono (by rintro e w' ⟨h,k,rfl⟩;exact⟨h,below_drewN (Below.refl _ _) k⟩)
theorem read6(x y:Nat)(w:World)(hx:L64 x)(hy:L64 y):
  Rt 106 #[.agg #[.int .u64 (x:Int),.int .u64 (y:Int)]] (.agg #[.int .u64 (pat (rd x y).1:Int),.int .u64 (pat (rd x y).2:Int)]) w:=by
 have ba:Below w.heap.size w ((w.alloc (.cells #[.int .u64 (x:Int),.int .u64 (y:Int)] 24)).alloc (.cells #[.int .u64 0,.int .u64 0] 24)):=(below_alloc w _).alloc (by simp) _;have HS:=Hd fun W=>sound6 x y W hx hy;have g1:=(Blk.new w 24 #[.int .u64 (x:Int),.int .u64 (y:Int)]).alloc (.cells #[.int .u64 0,.int .u64 0] 24);have g2:=Blk.new2 w (.cells #[.int .u64 (x:Int),.int .u64 (y:Int)] 24) 24 #[.int .u64 0,.int .u64 0];have G1:=Hd g1;have G2:=Hd g2;have BA:=Hd ba;clear g1 g2 ba
 obtain⟨s,hs⟩:∃ s,snd x y=s:=⟨_,rfl⟩
 rw [hs] at HS;unfold rd;rw [hs]
 cases s
 ·simp only [Bool.false_eq_true,if_false]
  rw [pat_max,pat_min];clear hs;have HE:=Hd empty6
  go_enter func106,ntmps106
  go_wp2_with fail;refine (HS.out _).mono ?_;rintro e w1 ⟨rfl,hb1⟩;have B1:=Hd (BA.out.trans (hb1.mono BA.out.size));have K1:=Hd (HasBlk.of (n:=2) (G2.out.keep hb1) rfl rfl);clear hb1;go_wp2_with fail;refine (HE.out _).mono ?_;rintro e w2 ⟨rfl,hb2⟩;have B2:=Hd (B1.out.trans (hb2.mono B1.out.size));have K2:=Hd (K1.out.keep hb2);clear hb2;obtain⟨cs,hblk,hsz,hnw⟩:=K2.out;have c0:=hblk.someCell (j:=0) (by omega);have c1:=hblk.someCell (j:=1) (by omega);have f0:=hblk.frozen 0;have f1:=hblk.frozen 1;have k0:=sets_cell hblk [.int .u64 9218868437227405312,.int .u64 18442240474082181120] 0 (by decide) (by simp;omega);have k1:=sets_cell hblk [.int .u64 9218868437227405312,.int .u64 18442240474082181120] 1 (by decide) (by simp;omega);have F:=Hd (below_sets (w0:=w) (r:=w.heap.size+1) (by omega) [.int .u64 9218868437227405312,.int .u64 18442240474082181120] 0 _ B2.out)
  simp [sets] at k0 k1
  clear hblk hsz hnw;go_wp2;refine bodyPost_ret (v:=.agg #[.int .u64 9218868437227405312,.int .u64 18442240474082181120]) (by simp [results,results106,go_sem,k0,k1]) rfl ?_
  exact⟨rfl,F.out⟩
 ·simp only [if_true]
  have hd:=of_decide_eq_true hs;rw [<- pl_real hx hd.1,<- pl_real hy hd.2.1];clear hs hd;have P1:=Hd fun W=>plain_b x W hx;have P2:=Hd fun W=>plain_b y W hy
  go_enter func106,ntmps106
  go_wp2_with fail;refine (HS.out _).mono ?_;rintro e w1 ⟨rfl,hb1⟩
  have g0:Blk w1.drew w.heap.size 24 #[.int .u64 (x:Int),.int .u64 (y:Int)]/\HasBlk w1.drew (w.heap.size+1) 24 2/\Below w.heap.size w w1.drew:=⟨G1.out.keep hb1.drew,HasBlk.of (G2.out.keep hb1.drew) rfl rfl,(BA.out.trans (hb1.mono BA.out.size)).drew⟩
  clear hb1;go_wp2_with fail;refine wp_region_held_drew (S:=fun W'=>Blk W' w.heap.size 24 #[.int .u64 (x:Int),.int .u64 (y:Int)]/\HasBlk W' (w.heap.size+1) 24 2/\Below w.heap.size w W') (by kernel_rfl) (g0) (fun hHeld=>?_);refine tk 0 ?_;(try simp only [Act.put,List.setIfInBounds_toArray,List.set_cons_zero,List.set_cons_succ]);refine tk 1 ?_ (hv:=by intro W2 hSw;have q:=hSw.1.cell 0;have q1:=hSw.1.cell 1;simp at q q1;go_simp;(try with_reducible rfl));(try simp only [Act.put,List.setIfInBounds_toArray,List.set_cons_zero,List.set_cons_succ]);refine tk 3 ?_;(try simp only [Act.put,List.setIfInBounds_toArray,List.set_cons_zero,List.set_cons_succ]);refine tk 4 ?_ (hv:=by intro W2 hSw;have q:=hSw.1.cell 0;have q1:=hSw.1.cell 1;simp at q q1;go_simp;(try with_reducible rfl));(try simp only [Act.put,List.setIfInBounds_toArray,List.set_cons_zero,List.set_cons_succ]);refine rdy 2 fun KK hKK=>?_;go_simp;refine cx (P1.out _) fun w2 hb2=>?_;go_wp2_with fail;refine hKK.out _ _ (⟨hHeld.1.keep hb2,hHeld.2.1.keep hb2,hHeld.2.2.trans (hb2.mono hHeld.2.2.size)⟩) (fun _=>?_);clear hKK KK hHeld;rename_i hHeld;(try simp only [Act.put,List.setIfInBounds_toArray,List.set_cons_zero,List.set_cons_succ]);refine rdy 5 fun KK hKK=>?_;go_simp;refine cx (P2.out _) fun w3 hb3=>?_;go_wp2_with fail;refine hKK.out _ _ (⟨hHeld.1.keep hb3,hHeld.2.1.keep hb3,hHeld.2.2.trans (hb3.mono hHeld.2.2.size)⟩) (fun _=>?_);clear hKK KK hHeld;rename_i hHeld;(try simp only [Act.put,List.setIfInBounds_toArray,List.set_cons_zero,List.set_cons_succ])
  refine tk 6 ?_;(try simp only [Act.put,List.setIfInBounds_toArray,List.set_cons_zero,List.set_cons_succ]);refine rdy 7 fun KK hKK=>?_;have c0:=hHeld.2.1.someCell 0 (by decide);have c1:=hHeld.2.1.someCell 1 (by decide);have f0:=hHeld.2.1.frozen 0;have f1:=hHeld.2.1.frozen 1;have HK:=Hd (hHeld.2.1.setCell [.int .u64 (pl x:Int),.int .u64 (pl y:Int)] rfl);have F:=Hd (below_sets (w0:=w) (r:=w.heap.size+1) (by omega) [.int .u64 (pl x:Int),.int .u64 (pl y:Int)] 0 _ hHeld.2.2);go_simp;refine hKK.out _ _ (show _/\_ from⟨hHeld.1.other (by omega) 0 [.int .u64 (pl x:Int),.int .u64 (pl y:Int)],hHeld.2.1.sets [.int .u64 (pl x:Int),.int .u64 (pl y:Int)] rfl rfl,below_sets (by omega) [.int .u64 (pl x:Int),.int .u64 (pl y:Int)] 0 _ hHeld.2.2⟩) (fun _=>?_);clear hKK KK hHeld;rename_i hHeld;(try simp only [Act.put,List.setIfInBounds_toArray,List.set_cons_zero,List.set_cons_succ]);refine wpAnyH_done (by kernel_rfl) ?_ _;have k0:=HK.out 0 (by decide);have k1:=HK.out 1 (by decide)
  simp [sets] at k0 k1
  clear hHeld HK;go_wp2;refine bodyPost_ret (v:=.agg #[.int .u64 (pl x:Int),.int .u64 (pl y:Int)]) (by simp [results,results106,go_sem,k0,k1]) rfl ?_
  exact⟨rfl,F.out⟩
section
open Go.RowKit
end
theorem heldc{w W W':World}{a0 a1 a2 b1 b2:Addr}{v0 v1 v2 u1 u2:Value}(h:W.cell? a0=some v0/\W.cell? a1=some v1/\W.cell? a2=some v2/\W.cell? b1=some u1/\W.cell? b2=some u2/\Below w.heap.size w W)(hb:Below W.heap.size W W'):
  W'.cell? a0=some v0/\W'.cell? a1=some v1/\W'.cell? a2=some v2/\W'.cell? b1=some u1/\W'.cell? b2=some u2/\Below w.heap.size w W':=by
 obtain⟨h0,h1,h2,h3,h4,h5⟩:=h
 exact⟨cell_below h0 hb,cell_below h1 hb,cell_below h2 hb,cell_below h3 hb,cell_below h4 hb,h5.trans (hb.mono h5.size)⟩
def NewEnd(w:World)(K:Nat)(s:Int)(x:Rat)(e:Ending)(w':World):Prop:=
 ∃ neg A n c B m d,e=.returned (.agg #[.int .i64 s,.bool neg,.slice A n c,.slice B m d])/\RatV w' K neg (.slice A n c) (.slice B m d) x/\Below w.heap.size w w'
def NewSet(w:World)(K:Nat)(o:Bool)(s:Int)(x:Rat)(t:Int)(y:Rat)(e:Ending)(w':World):Prop:=
 ∃ neg A n c B m d neg' A' n' c' B' m' d',e=.returned (.agg #[.bool o,.int .i64 s,.bool neg,.slice A n c,.slice B m d,.int .i64 t,.bool neg',.slice A' n' c',.slice B' m' d']) /\
  RatV w' K neg (.slice A n c) (.slice B m d) x/\RatV w' K neg' (.slice A' n' c') (.slice B' m' d') y/\Below w.heap.size w w'
def NewRatS(w:World)(K:Nat)(x:Rat)(e:Ending)(w':World):Prop:=
 ∃ neg A n c B m d,e=.returned (Zg neg A n c B m d)/\RatV w' K neg (.slice A n c) (.slice B m d) x/\Below w.heap.size w w'
theorem NewRat.s{w w':World}{K:Nat}{x:Rat}{e:Ending}(h:NewRat w K x e w'):NewRatS w K x e w':=by
 obtain⟨neg,vn,vd,rfl,hr,hb⟩:=h;obtain⟨A,n,c,B,m,d,rfl,rfl⟩:=hr.shape
 exact⟨neg,A,n,c,B,m,d,rfl,hr,hb⟩
def es(i:Int):Int:=if i=M then 1 else if i=-(M:Int) then -1 else 0
def ex(i:Int):Rat:=if es i=0 then fl i else 0
theorem es_max:es M=1:=rfl
theorem es_min:es (-(M:Int))=-1:=by decide
theorem ex_max:ex M=0:=rfl
theorem ex_min:ex (-(M:Int))=0:=by unfold ex;rw [es_min];rfl
theorem es_mid{i:Int}(h:-(M:Int)<i)(h':i<M):es i=0:=by unfold es;rw [if_neg (by omega),if_neg (by omega)]
theorem ex_mid{i:Int}(h:-(M:Int)<i)(h':i<M):ex i=fl i:=by unfold ex;rw [es_mid h h'];rfl
theorem finite_nat(v:Nat)(w:World)(hv:v<4294967296):
  Calls prog 153 #[.int .i64 (v:Int)] w (NewEnd w 1 0 (v:Rat)):=by
 have hs:∀ W,Calls prog 51 #[.int .i64 (v:Int)] W (NewRatS W 1 (v:Rat)):=fun W=>(int_nat v W hv).mono fun _ _ h=>h.s;have HS:=Hd hs;clear hs;obtain⟨LB0,LR⟩:=bx1 w #[.int .i64 0,.bool false,.slice none 0 0,.slice none 0 0] 87;have LR0:=Hd (HasBlk.of (n:=4) LR.out rfl rfl);clear LR
 go_enter func153,ntmps153
 go_wp2_with fail;refine (HS.out _).mono ?_;rintro e w1 ⟨neg,A5,n5,c5,A6,n6,c6,rfl,hr,hb1⟩;have LB1:=stB LB0 hb1 LB0.out.size;have LR1:=stR LR0 hb1;clear LB0 LR0;obtain⟨ha0,hf0,ha1,hf1,ha2,hf2,ha3,hf3⟩:=LR1.out.sf4;obtain⟨hk0,hk1,hk2,hk3⟩:=LR1.out.sc4 (.int .i64 0) (.bool neg) (.slice A5 n5 c5) (.slice A6 n6 c6);have F:=Hd (below_sets (w0:=w) (r:=w.heap.size) (by omega) [.int .i64 0,.bool neg,.slice A5 n5 c5,.slice A6 n6 c6] 0 _ LB1.out)
 simp [sets] at hk0 hk1 hk2 hk3
 have FR:=Hd (LR1.out.rat hr [.int .i64 0,.bool neg,.slice A5 n5 c5,.slice A6 n6 c6]);clear hr hb1 LR1 LB1;go_wp2;refine bodyPost_ret (v:=.agg #[.int .i64 0,.bool neg,.slice A5 n5 c5,.slice A6 n6 c6]) (by simp [results,results153,go_sem,hk0,hk1,hk2,hk3]) rfl ?_
 exact⟨neg,_,_,_,_,_,_,rfl,FR.out,F.out⟩
theorem RatV.k34{w:World}{neg:Bool}{vn vd:Value}{x:Rat}(h:RatV w 1 neg vn vd x):RatV w 34 neg vn vd x:=h.mono (by decide)
theorem bound_raw(b:Nat)(w:World)(hb:L64 b)(hr:rungOf b<=M):
  Calls prog 156 #[.int .u64 (b:Int)] w (NewEnd w 34 (es (idx b)) (ex (idx b))):=by
 have hs:∀ W,Calls prog 51 #[.int .i64 0] W (NewRatS W 1 0):=fun W=>(int_nat 0 W (by omega)).mono fun _ _ h=>h.s;have HS:=Hd hs;clear hs;have hc:=pat_cases hb;rw [M_val] at hr
 by_cases h1:b=9218868437227405312
 ·subst h1;rw [show idx 9218868437227405312=(M:Int) from by rw [M_val];omega,es_max,ex_max];clear hc hr;obtain⟨LB0,LR⟩:=bx1 w #[.int .i64 0,.bool false,.slice none 0 0,.slice none 0 0] 87;have LR0:=Hd (HasBlk.of (n:=4) LR.out rfl rfl);clear LR
  go_enter func156,ntmps156
  go_wp2_with fail;refine (HS.out _).mono ?_;rintro e w1 ⟨neg,A5,n5,c5,A6,n6,c6,rfl,hr,hb1⟩;have LB1:=stB LB0 hb1 LB0.out.size;have LR1:=stR LR0 hb1;clear LB0 LR0;obtain⟨ha0,hf0,ha1,hf1,ha2,hf2,ha3,hf3⟩:=LR1.out.sf4;obtain⟨hk0,hk1,hk2,hk3⟩:=LR1.out.sc4 (.int .i64 1) (.bool neg) (.slice A5 n5 c5) (.slice A6 n6 c6);have F:=Hd (below_sets (w0:=w) (r:=w.heap.size) (by omega) [.int .i64 1,.bool neg,.slice A5 n5 c5,.slice A6 n6 c6] 0 _ LB1.out)
  simp [sets] at hk0 hk1 hk2 hk3
  have FR:=Hd (LR1.out.rat hr [.int .i64 1,.bool neg,.slice A5 n5 c5,.slice A6 n6 c6]);clear hr hb1 LR1 LB1;go_wp2;refine bodyPost_ret (v:=.agg #[.int .i64 1,.bool neg,.slice A5 n5 c5,.slice A6 n6 c6]) (by simp [results,results156,go_sem,hk0,hk1,hk2,hk3]) rfl ?_
  exact⟨neg,_,_,_,_,_,_,rfl,FR.out.k34,F.out⟩
 ·by_cases h2:b=18442240474082181120
  ·subst h2;rw [show idx 18442240474082181120=-(M:Int) from by rw [M_val];omega,es_min,ex_min];clear hc hr h1;obtain⟨LB0,LR⟩:=bx1 w #[.int .i64 0,.bool false,.slice none 0 0,.slice none 0 0] 87;have LR0:=Hd (HasBlk.of (n:=4) LR.out rfl rfl);clear LR
   go_enter func156,ntmps156
   go_wp2_with fail;refine (HS.out _).mono ?_;rintro e w1 ⟨neg,A5,n5,c5,A6,n6,c6,rfl,hr,hb1⟩;have LB1:=stB LB0 hb1 LB0.out.size;have LR1:=stR LR0 hb1;clear LB0 LR0;obtain⟨ha0,hf0,ha1,hf1,ha2,hf2,ha3,hf3⟩:=LR1.out.sf4;obtain⟨hk0,hk1,hk2,hk3⟩:=LR1.out.sc4 (.int .i64 (-1)) (.bool neg) (.slice A5 n5 c5) (.slice A6 n6 c6);have F:=Hd (below_sets (w0:=w) (r:=w.heap.size) (by omega) [.int .i64 (-1),.bool neg,.slice A5 n5 c5,.slice A6 n6 c6] 0 _ LB1.out)
   simp [sets] at hk0 hk1 hk2 hk3
   have FR:=Hd (LR1.out.rat hr [.int .i64 (-1),.bool neg,.slice A5 n5 c5,.slice A6 n6 c6]);clear hr hb1 LR1 LB1;go_wp2;refine bodyPost_ret (v:=.agg #[.int .i64 (-1),.bool neg,.slice A5 n5 c5,.slice A6 n6 c6]) (by simp [results,results156,go_sem,hk0,hk1,hk2,hk3]) rfl ?_
   exact⟨neg,_,_,_,_,_,_,rfl,FR.out.k34,F.out⟩
  ·have e1:((b:Int) == 9218868437227405312)=false:=by simp;omega
   have e2:((b:Int) == 18442240474082181120)=false:=by simp;omega
   have hi:-(M:Int)<idx b/\idx b<M:=by rw [M_val];omega
   have hpl:pl b=pat (idx b):=pl_real hb (by rw [M_val];omega)
   have hf:fin (pat (idx b)):=by
    show rungOf _<M
    rw [rung_pat (by omega) (by omega)];omega
   have HP:=Hd fun W=>plain_b b W hb;have HF:=Hd fun W=>(frombits_any (pat (idx b)) W (pat_lt (by omega) (by omega)) hf).mono fun _ _ h=>h.s;rw [idx_pat (by omega) (by omega)] at HF;rw [hpl] at HP;rw [es_mid hi.1 hi.2,ex_mid hi.1 hi.2];clear hc hr h1 h2 hpl hf hi;obtain⟨LB0,LR⟩:=bx1 w #[.int .i64 0,.bool false,.slice none 0 0,.slice none 0 0] 87;have LR0:=Hd (HasBlk.of (n:=4) LR.out rfl rfl);clear LR
   go_enter func156,ntmps156
   go_wp2_with fail;refine cx (HP.out _) fun w1 hb1=>?_;have LB1:=stB LB0 hb1 LB0.out.size;have LR1:=stR LR0 hb1;clear LB0 LR0;go_wp2_with fail;refine (HF.out _).mono ?_;rintro e w2 ⟨neg,A5,n5,c5,A6,n6,c6,rfl,hr,hb2⟩;have LB2:=stB LB1 hb2 LB1.out.size;have LR2:=stR LR1 hb2;clear LB1 LR1;obtain⟨ha0,hf0,ha1,hf1,ha2,hf2,ha3,hf3⟩:=LR2.out.sf4;obtain⟨hk0,hk1,hk2,hk3⟩:=LR2.out.sc4 (.int .i64 0) (.bool neg) (.slice A5 n5 c5) (.slice A6 n6 c6);have F:=Hd (below_sets (w0:=w) (r:=w.heap.size) (by omega) [.int .i64 0,.bool neg,.slice A5 n5 c5,.slice A6 n6 c6] 0 _ LB2.out)
   simp [sets] at hk0 hk1 hk2 hk3
   have FR:=Hd (LR2.out.rat hr [.int .i64 0,.bool neg,.slice A5 n5 c5,.slice A6 n6 c6]);clear hr hb1 hb2 LR2 LB2;go_wp2;refine bodyPost_ret (v:=.agg #[.int .i64 0,.bool neg,.slice A5 n5 c5,.slice A6 n6 c6]) (by simp [results,results156,go_sem,hk0,hk1,hk2,hk3]) rfl ?_
   exact⟨neg,_,_,_,_,_,_,rfl,FR.out,F.out⟩
def ec(s:Int)(x:Rat)(t:Int)(y:Rat):Int:=if s=t then (if s=0 then rc x y else 0) else if s<t then -1 else 1
theorem ec_lt{s t:Int}(x y:Rat)(h:s<t):ec s x t y=-1:=by unfold ec;rw [if_neg (by omega),if_pos h]
theorem ec_gt{s t:Int}(x y:Rat)(h:t<s):ec s x t y=1:=by unfold ec;rw [if_neg (by omega),if_neg (by omega)]
theorem ec_inf{s t:Int}(x y:Rat)(h:s=t)(h0:s≠0):ec s x t y=0:=by unfold ec;rw [if_pos h,if_neg h0]
theorem ec_zero(x y:Rat):ec 0 x 0 y=rc x y:=by unfold ec;rw [if_pos rfl,if_pos rfl]
def SubInv(rs ys cur:List Nat)(x i c b:Nat):Prop:=
 W32 cur/\cur.length=rs.length/\(∀ j:Nat,i<=j->cur[j]?.getD 0=rs[j]?.getD 0)/\c<4294967296/\b<=1 /\
  num (cur.take i)+x*num (ys.take i)=num (rs.take i)+2^(32*i)*(b+c)
theorem SubInv.start{rs ys:List Nat}(x:Nat)(h:W32 rs):SubInv rs ys rs x 0 0 0:=
 ⟨h,rfl,fun _ _=>rfl,by omega,by omega,by simp [num]⟩
theorem SubInv.step{rs ys cur:List Nat}{x i c b t d b':Nat}(h:SubInv rs ys cur x i c b)(hi:i<rs.length)(hx:x<4294967296)(hy:W32 ys)
  (ht:t=c+ys[i]?.getD 0*x)(hd:d<4294967296)(hb':b'<=1)(he:d+(t % 4294967296+b)=rs[i]?.getD 0+4294967296*b'):
  SubInv rs ys (cur.set i d) x (i+1) (t / 4294967296) b':=by
 obtain⟨hw,hl,hr,hc,hb,hs⟩:=h;have h1:=hy.get i;have h2:ys[i]?.getD 0*x<=4294967295*4294967295:=Nat.mul_le_mul (by omega) (by omega);refine⟨hw.set _ hd,by simp [hl],fun j hj=>?_,by omega,hb',?_⟩
 ·rw [List.getElem?_set_ne (by omega)];exact hr j (by omega)
 ·have e1:num ((cur.set i d).take (i+1))=num (cur.take i)+2^(32*i)*d:=by
   rw [num_take_next,List.take_set_of_le (Nat.le_refl _),List.getElem?_set_self (by omega)];rfl
  rw [e1,num_take_next,num_take_next,pow32,Nat.mul_add x]
  have e2:x*(2^(32*i)*ys[i]?.getD 0)=2^(32*i)*(ys[i]?.getD 0*x):=by
   rw [Nat.mul_left_comm,Nat.mul_comm x]
  rw [e2];generalize ys[i]?.getD 0*x=z at *;generalize 2^(32*i)=p at *
  have e3:p*(b+c)+p*d+p*z=p*rs[i]?.getD 0+2^32*p*(b'+t / 4294967296):=by
   rw [Nat.mul_comm (2^32) p,Nat.mul_assoc,<- Nat.mul_add,<- Nat.mul_add,<- Nat.mul_add]
   congr 1;omega
  omega
theorem SubInv.done{rs ys cur:List Nat}{x c b:Nat}(h:SubInv rs ys cur x rs.length c b)(hr:W32 rs)(hm:ys.length<=rs.length)(hle:x*num ys<=num rs):
  num cur=num rs - x*num ys:=by
 obtain⟨hw,hl,_,hc,hb,hs⟩:=h;rw [List.take_of_length_le (by omega),List.take_of_length_le (Nat.le_refl _),List.take_of_length_le hm] at hs;have h1:=num_lt hw;have h2:=num_lt hr;rw [hl] at h1
 have h3:b+c=0:=by
  rcases Nat.eq_zero_or_pos (b+c) with h3 | h3
  ·exact h3
  ·exfalso
   have:=Nat.mul_le_mul_left (2^(32*rs.length)) h3
   omega
 rw [h3] at hs
 omega
theorem guess_le{rs ys:List Nat}{n:Nat}(hy:W32 ys)(hrl:rs.length=n+2)(hyl:ys.length=n+1)(x:Nat)
  (hx:x=(rs[n+1]?.getD 0*4294967296+rs[n]?.getD 0) / (ys[n]?.getD 0+1)):x*num ys<=num rs:=by
 have h1:num ys<=2^(32*n)*(ys[n]?.getD 0+1):=by
  have e:num ys=num (ys.take n)+2^(32*n)*ys[n]?.getD 0:=by
   rw [<- num_take_next,List.take_of_length_le (by omega)]
  have:=num_lt (hy.take n);rw [List.length_take,Nat.min_eq_left (by omega)] at this;rw [e,Nat.mul_add,Nat.mul_one];omega
 have h2:2^(32*n)*(rs[n+1]?.getD 0*4294967296+rs[n]?.getD 0)<=num rs:=by
  have e:num rs=num (rs.take n)+2^(32*n)*rs[n]?.getD 0+2^(32*(n+1))*rs[n+1]?.getD 0:=by
   rw [<- num_take_next,<- num_take_next,List.take_of_length_le (by omega)]
  rw [e,pow32,Nat.mul_add,Nat.mul_comm (2^32),Nat.mul_assoc,Nat.mul_comm (rs[n+1]?.getD 0)];generalize 2^(32*n)*rs[n]?.getD 0=a;generalize rs[n+1]?.getD 0=b
  show 2^(32*n)*(2^32*b)+a<=_
  omega
 have h3:x*(ys[n]?.getD 0+1)<=rs[n+1]?.getD 0*4294967296+rs[n]?.getD 0:=by
  rw [hx];exact Nat.div_mul_le_self _ _
 calc x*num ys<=x*(2^(32*n)*(ys[n]?.getD 0+1)):=Nat.mul_le_mul_left _ h1
  _=2^(32*n)*(x*(ys[n]?.getD 0+1)):=by rw [Nat.mul_left_comm]
  _<=2^(32*n)*(rs[n+1]?.getD 0*4294967296+rs[n]?.getD 0):=Nat.mul_le_mul_left _ h3
  _<=num rs:=h2
theorem num_shift_up{rs:List Nat}(h:rs≠[])(hz:rs[rs.length - 1]?.getD 0=0)(u:Nat):num (u :: rs.take (rs.length - 1))=u+4294967296*num rs:=by
 rw [num_cons];have hl:0<rs.length:=List.length_pos_iff.2 h
 have e:num rs=num (rs.take (rs.length - 1)):=by
  have:=num_take_next rs (rs.length - 1);rw [Nat.sub_add_cancel hl,List.take_of_length_le (Nat.le_refl _),hz] at this
  omega
 rw [<- e]
def ByInv(us qs:List Nat)(V R i:Nat):Prop:=W32 qs/\qs.length=us.length/\num (us.drop i)=num (qs.drop i)*V+R/\R<V
theorem ByInv.start(us:List Nat){V:Nat}(hV:0<V):ByInv us (List.replicate us.length 0) V 0 us.length:=
 ⟨W32.replicate _,by simp,by simp [num],hV⟩
theorem num_drop_cons(l:List Nat)(i:Nat):num (l.drop i)=l[i]?.getD 0+4294967296*num (l.drop (i+1)):=by
 rw [num_tail (l.drop i),List.getElem?_drop,List.tail_drop];rfl
theorem ByInv.step{us qs:List Nat}{V R i d R':Nat}(h:ByInv us qs V R (i+1))(hi:i<us.length)(hd:d<4294967296)(he:us[i]?.getD 0+4294967296*R=d*V+R')(hR:R'<V):
  ByInv us (qs.set i d) V R' i:=by
 obtain⟨hw,hl,hs,_⟩:=h;refine⟨hw.set _ hd,by simp [hl],?_,hR⟩;rw [num_drop_cons us,hs,num_drop_cons (qs.set i d),List.getElem?_set_self (by omega)];rw [List.drop_set_of_lt (by omega)]
 show _=(d+4294967296*num (qs.drop (i+1)))*V+R'
 rw [Nat.mul_add,Nat.add_mul,Nat.mul_assoc];generalize num (qs.drop (i+1))*V=z at *
 omega
theorem ByInv.done{us qs:List Nat}{V R:Nat}(h:ByInv us qs V R 0):num us / V=num qs/\num us % V=R:=by
 obtain⟨_,_,hs,hR⟩:=h;rw [List.drop_zero,List.drop_zero] at hs;rw [hs,Nat.mul_comm]
 constructor
 ·rw [Nat.mul_add_div (by omega),Nat.div_eq_of_lt hR,Nat.add_zero]
 ·rw [Nat.mul_add_mod,Nat.mod_eq_of_lt hR]
theorem sub_any(B:Option Addr)(g n m d x:Nat)(rs ys:List Nat)(w:World)(hr:Arr w g rs)(hrw:W32 rs)(hy:U32s w B m d ys)(hne:∀ ad,B=some ad->ad.block≠g)(hrl:rs.length=n)(hs:n<=8589934592)(hm:m<=n)
  (hx:x<4294967296)(hle:x*num ys<=num rs):
  Calls prog 226 #[.slice (some ⟨g,0,none⟩) n n,.slice B m d,.int .u64 (x:Int)] w fun e w'=>
   ∃ rs',e=.returned (.tuple #[])/\Arr w' g rs'/\W32 rs'/\rs'.length=n/\num rs'=num rs - x*num ys/\w.grownBy w' (some g):=by
 have HR:=Hd hr;have HY:=Hd hy;have HRW:=Hd hrw;have HLE:=Hd hle;have HRL:=Hd hrl;clear hr hy hrw hle hrl
 go_enter func226,ntmps226
 go_wp2
 go_loopw [6,7,8] (fun cv bv iv wr=>∃ (i c b:Nat) (cur:List Nat),iv=.int .i64 i/\cv=.int .u64 c/\bv=.int .u64 b/\i<=n/\SubInv rs ys cur x i c b/\Arr wr g cur/\w.grownBy wr (some g)) (fun _ _ iv _=>n - (intOf iv).toNat)
 case atStart=>exact⟨0,0,0,rs,rfl,rfl,rfl,Nat.zero_le _,SubInv.start _ HRW.out,HR.out,World.grownBy.refl w _⟩
 case round=>
  obtain⟨i,c,b,cur,rfl,rfl,rfl,hi,hinv,harr,hgr⟩:=hrel;have HI:=Hd hinv;have HA:=Hd harr;have HG:=Hd hgr;have hc32:c<4294967296:=hinv.2.2.2.1;have hb1:b<=1:=hinv.2.2.2.2.1;clear hinv harr hgr
  by_cases hlt:i<n
  ·have hf:=HA.out.frozen i;have hcc:=HA.out.cell (j:=i) (by rw [HI.out.2.1,HRL.out];exact hlt);rw [HI.out.2.2.1 i (Nat.le_refl _)] at hcc;have hr1:=HRW.out.get i
   obtain⟨r,hrr⟩:∃ r,rs[i]?.getD 0=r:=⟨_,rfl⟩
   rw [hrr] at hcc hr1;have HRR:=Hd hrr;clear hrr
   by_cases hlm:i<m
   ·have hU:U32s wr B m d ys:=HY.out.keep HG.out.size (fun ad e h0=>by
     obtain⟨ad',e',hlt',_⟩:=HY.out.at_ h0;rw [e] at e';cases e'
     exact HG.out.block _ hlt' (fun h=>hne ad e (by injection h)))
    obtain⟨ad,rfl,hc⟩:=hU.cell (j:=i) hlm;have hy1:=HY.out.lt i
    obtain⟨y,hyy⟩:∃ y,ys[i]?.getD 0=y:=⟨_,rfl⟩
    rw [hyy] at hc hy1;have HYY:=Hd hyy;clear hyy hU;have hz1:y*x<=4294967295*4294967295:=Nat.mul_le_mul (by omega) (by omega)
    obtain⟨z,hz⟩:∃ z,y*x=z:=⟨_,rfl⟩
    rw [hz] at hz1
    have e1:(y:Int)*(x:Int)=(z:Int):=by rw [<- hz];simp
    have HZ:=Hd hz;clear hz;have hmk:=mask32_i (a:=(c:Int)+(z:Int)) (by omega) (by omega)
    by_cases hbor:r<(c+z) % 4294967296+b
    ·go_wp2
     go_roundw
     case rel=>
      refine⟨i+1,(c+z) / 4294967296,1,cur.set i (r+4294967296 - ((c+z) % 4294967296+b)),by go_num,by go_num,rfl,by omega,HI.out.step (b':=1) (by rw [HRL.out];exact hlt) hx HY.out.w32 (by rw [HYY.out,HZ.out]) (by omega) (by omega) (by rw [HRR.out];omega),?_,HG.out.trans ⟨rfl,rfl,rfl,by simp,fun k _ hk=>Below.heap_setCell _ _ _ _ (fun e=>hk (by rw [e]))⟩⟩;rw [show (r:Int)+4294967296 - (((c:Int)+(z:Int)) % 4294967296+(b:Int))=((r+4294967296 - ((c+z) % 4294967296+b):Nat):Int) from by omega]
      exact HA.out.set _ _
     case measure=>simp [intOf];omega
    ·go_wp2
     go_roundw
     case rel=>
      refine⟨i+1,(c+z) / 4294967296,0,cur.set i (r - ((c+z) % 4294967296+b)),by go_num,by go_num,rfl,by omega,HI.out.step (b':=0) (by rw [HRL.out];exact hlt) hx HY.out.w32 (by rw [HYY.out,HZ.out]) (by omega) (by omega) (by rw [HRR.out];omega),?_,HG.out.trans ⟨rfl,rfl,rfl,by simp,fun k _ hk=>Below.heap_setCell _ _ _ _ (fun e=>hk (by rw [e]))⟩⟩;rw [show (r:Int) - (((c:Int)+(z:Int)) % 4294967296+(b:Int))=((r - ((c+z) % 4294967296+b):Nat):Int) from by omega]
      exact HA.out.set _ _
     case measure=>simp [intOf];omega
   ·have HYY:=Hd (show ys[i]?.getD 0=0 by rw [List.getElem?_eq_none (by rw [HY.out.len];omega)];rfl);have hmk:=mask32_i (a:=(c:Int)) (by omega) (by omega)
    by_cases hbor:r<(c) % 4294967296+b
    ·go_wp2
     go_roundw
     case rel=>
      refine⟨i+1,(c) / 4294967296,1,cur.set i (r+4294967296 - ((c) % 4294967296+b)),by go_num,by go_num,rfl,by omega,HI.out.step (b':=1) (by rw [HRL.out];exact hlt) hx HY.out.w32 (by rw [HYY.out];omega) (by omega) (by omega) (by rw [HRR.out];omega),?_,HG.out.trans ⟨rfl,rfl,rfl,by simp,fun k _ hk=>Below.heap_setCell _ _ _ _ (fun e=>hk (by rw [e]))⟩⟩;rw [show (r:Int)+4294967296 - (((c:Int)) % 4294967296+(b:Int))=((r+4294967296 - ((c) % 4294967296+b):Nat):Int) from by omega]
      exact HA.out.set _ _
     case measure=>simp [intOf];omega
    ·go_wp2
     go_roundw
     case rel=>
      refine⟨i+1,(c) / 4294967296,0,cur.set i (r - ((c) % 4294967296+b)),by go_num,by go_num,rfl,by omega,HI.out.step (b':=0) (by rw [HRL.out];exact hlt) hx HY.out.w32 (by rw [HYY.out];omega) (by omega) (by omega) (by rw [HRR.out];omega),?_,HG.out.trans ⟨rfl,rfl,rfl,by simp,fun k _ hk=>Below.heap_setCell _ _ _ _ (fun e=>hk (by rw [e]))⟩⟩;rw [show (r:Int) - (((c:Int)) % 4294967296+(b:Int))=((r - ((c) % 4294967296+b):Nat):Int) from by omega]
      exact HA.out.set _ _
     case measure=>simp [intOf];omega
  ·obtain rfl:i=n:=by omega
   go_wp2
   go_end0
   have hi1:=HI.out;have hrl:=HRL.out;subst hrl
   exact⟨cur,rfl,HA.out,hi1.1,hi1.2.1,hi1.done HRW.out (by rw [HY.out.len];exact hm) HLE.out,HG.out⟩
theorem guess_any(B:Option Addr)(g n d:Nat)(rs ys:List Nat)(w:World)(hr:Arr w g rs)(hrw:W32 rs)(hy:U32s w B (n+1) d ys)(hrl:rs.length=n+2)(hs:n<=8589934592)
  (hle:num ys<=num rs)(hlt:num rs<num ys*4294967296):
  Calls prog 225 #[.slice (some ⟨g,0,none⟩) (n+2) (n+2),.slice B (n+1) d] w fun e w'=>
   ∃ x:Nat,e=.returned (.int .u64 (x:Int))/\0<x/\x<4294967296/\x*num ys<=num rs/\∃ k,w'=w.drewN k:=by
 obtain⟨ad,rfl,hc⟩:=hy.cell (j:=n) (by omega);have hy1:=hy.lt n;have hr1:rs[n+1]?.getD 0<4294967296:=hrw.get _;have hr0:rs[n]?.getD 0<4294967296:=hrw.get _;have hc1:=hr.cell (j:=n+1) (by omega);have hc0:=hr.cell (j:=n) (by omega);have hg:=guess_le hy.w32 hrl hy.len
 obtain⟨y,hyy⟩:∃ y,ys[n]?.getD 0=y:=⟨_,rfl⟩
 obtain⟨r1,hrr1⟩:∃ r,rs[n+1]?.getD 0=r:=⟨_,rfl⟩
 obtain⟨r0,hrr0⟩:∃ r,rs[n]?.getD 0=r:=⟨_,rfl⟩
 rw [hyy] at hc hy1 hg;rw [hrr1] at hr1 hc1 hg;rw [hrr0] at hr0 hc0 hg;have hv:=num_lt hy.w32;clear hyy hrr1 hrr0
 have hp:0<num ys:=by
  rcases Nat.eq_zero_or_pos (num ys) with h | h
  ·rw [h] at hlt;omega
  ·exact h
 obtain⟨q,hq⟩:∃ q,(r1*4294967296+r0) / (y+1)=q:=⟨_,rfl⟩
 have hq1:=hg q hq.symm
 have hq2:q<4294967296:=by
  rcases Nat.lt_or_ge q 4294967296 with h | h
  ·exact h
  ·have:4294967296*num ys<=q*num ys:=Nat.mul_le_mul_right _ h;rw [Nat.mul_comm] at this;omega
 have hor:=or_join (i:=32) (x:=r1) (y:=r0) (by omega) (by omega) (by omega);rw [show ((r1*2^32:Nat):Int)=(r1:Int)*4294967296 from by omega,show ((r1*2^32+r0:Nat):Int)=(r1:Int)*4294967296+(r0:Int) from by omega] at hor
 have hdiv:((r1:Int)*4294967296+(r0:Int)) / ((y:Int)+1)=(q:Int):=by rw [<- hq];simp
 have b1:(0:Int)<=(r1:Int)*4294967296+(r0:Int):=by omega
 have b2:(r1:Int)*4294967296+(r0:Int)<18446744073709551616:=by omega
 have HQ1:=Hd hq1;have HLE:=Hd hle;have HP:=Hd hp
 have i1:((n:Int)+1)<((n+2:Nat):Int):=by omega
 have i2:(n:Int)<((n+2:Nat):Int):=by omega
 have i3:(n:Int)<((n+1:Nat):Int):=by omega
 have i4:((n:Int)+1).toNat=n+1:=by omega
 clear hy hr hg hv hq1 hq hle hlt hp hrw hrl
 go_enter func225,ntmps225
 by_cases h0:q=0
 ·have g1:((q:Int) == 0)=true:=by simp;exact h0
  go_wp2_with fail
  go_quiet (fail)
  go_wp2
  go_ret
  exact⟨1,rfl,by omega,by omega,by have:=HLE.out;omega,_,rfl⟩
 ·have g1:((q:Int) == 0)=false:=by simp;exact h0
  go_wp2_with fail
  go_quiet (fail)
  go_wp2
  go_ret
  exact⟨q,ret_int hdiv,by omega,hq2,HQ1.out,_,rfl⟩
theorem guess_at(B:Option Addr)(g n d:Nat)(rs ys:List Nat)(w:World)(hr:Arr w g rs)(hrw:W32 rs)(hy:U32s w B n d ys)(hn:1<=n)(hrl:rs.length=n+1)(hs:n<=8589934592)
  (hle:num ys<=num rs)(hlt:num rs<num ys*4294967296):
  Calls prog 225 #[.slice (some ⟨g,0,none⟩) (n+1) (n+1),.slice B n d] w fun e w'=>
   ∃ x:Nat,e=.returned (.int .u64 (x:Int))/\0<x/\x<4294967296/\x*num ys<=num rs/\∃ k,w'=w.drewN k:=by
 obtain⟨n,rfl⟩:∃ i,n=i+1:=⟨n - 1,by omega⟩
 exact guess_any B g n d rs ys w hr hrw hy hrl (by omega) hle hlt
theorem W32.of_get{l:List Nat}(h:∀ j:Nat,l[j]?.getD 0<4294967296):W32 l:=by
 intro x hx;obtain⟨i,hi⟩:=List.mem_iff_getElem?.1 hx;have:=h i;rw [hi] at this;exact this
def NewU32s(w:World)(xs ys:List Nat)(e:Ending)(w':World):Prop:=
 ∃ A n c B m d,e=.returned (.tuple #[.slice A n c,.slice B m d])/\U32s w' A n c xs/\U32s w' B m d ys/\Below w.heap.size w w'
def Moved(rs cur:List Nat)(j:Nat):Prop:=cur.length=rs.length/\∀ t:Nat,t<rs.length->cur[t]?.getD 0=if j<t then rs[t - 1]?.getD 0 else rs[t]?.getD 0
theorem Moved.start(rs:List Nat):Moved rs rs (rs.length - 1):=⟨rfl,fun t ht=>by rw [if_neg (by omega)]⟩
theorem Moved.step{rs cur:List Nat}{j:Nat}(h:Moved rs cur (j+1))(hj:j+1<rs.length):Moved rs (cur.set (j+1) (rs[j]?.getD 0)) j:=by
 obtain⟨hl,hm⟩:=h;refine⟨by simp [hl],fun t ht=>?_⟩
 by_cases h1:t=j+1
 ·subst h1;rw [List.getElem?_set_self (by omega),if_pos (by omega)];rfl
 ·rw [List.getElem?_set_ne (by omega),hm t ht]
  by_cases h2:j<t
  ·rw [if_pos h2,if_pos (by omega)]
  ·rw [if_neg h2,if_neg (by omega)]
theorem Moved.done{rs cur:List Nat}(h:Moved rs cur 0)(h0:rs≠[])(hz:rs[rs.length - 1]?.getD 0=0)(u:Nat):num (cur.set 0 u)=u+4294967296*num rs:=by
 rw [<- num_shift_up h0 hz];have hl:0<rs.length:=List.length_pos_iff.2 h0;refine num_ext fun t=>?_
 rcases Nat.eq_zero_or_pos t with h1 | h1
 ·subst h1;rw [List.getElem?_set_self (by rw [h.1];exact hl)];rfl
 ·rw [List.getElem?_set_ne (by omega)]
  obtain⟨t,rfl⟩:∃ i,t=i+1:=⟨t - 1,by omega⟩
  rw [List.getElem?_cons_succ]
  rcases Nat.lt_or_ge (t+1) rs.length with h2 | h2
  ·rw [h.2 _ h2,if_pos (by omega),List.getElem?_take_of_lt (by omega)];rfl
  ·rw [List.getElem?_eq_none (by rw [h.1];exact h2),List.getElem?_eq_none (by rw [List.length_take];omega)]
theorem by_less(A B:Option Addr)(n c m d:Nat)(xs ys:List Nat)(w:World)(hx:U32s w A n c xs)(hy:U32s w B m d ys)(hs:n<=8589934592)(hlt:num xs<num ys):
  Calls prog 182 #[.slice A n c,.slice B m d] w (NewU32s w [] (digs (num xs))):=by
 have hc:=cmp_any A B n c m d xs ys w hx hy;rw [cmp3_lt hlt] at hc;have HC:=Hd hc;have HX:=Hd hx;clear hc hx hy hlt
 go_enter func182,ntmps182
 go_wp2_with fail;refine HC.out.mono ?_;rintro e w1 ⟨rfl,k,rfl⟩;have hnorm:=norm_any A n c xs (w.drewN k) (HX.out.below (below_drewN (Below.refl _ _) k)) (by omega);rw [trim_eq_digs HX.out.w32] at hnorm;have HN:=Hd hnorm;clear hnorm HC;go_wp2_with fail;refine HN.out.mono ?_;rintro e w2 ⟨A1,n1,c1,rfl,hu1,hb1⟩;have HF:=Hd (show NewU32s w [] (digs (num xs)) (.returned (.tuple #[.slice none 0 0,.slice A1 n1 c1])) w2 from⟨none,0,0,A1,n1,c1,rfl,U32s.nil _ _ _,hu1,(below_drewN (Below.refl _ _) k).trans hb1⟩);clear hu1 hb1 HN;go_wp2
 go_ret2
 exact HF.out
end Go.Proofs.YthlmlmfebpjgdaaGreatDoor
