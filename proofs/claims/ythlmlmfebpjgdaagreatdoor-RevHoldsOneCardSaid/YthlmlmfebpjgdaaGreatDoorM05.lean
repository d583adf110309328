/-
Lemmas for the statement: FlT OrdT Ar Rn AddP MathT SplitT NwT NcmpT NlenT NwoT.
-/
import Derived.Test.YthlmlmfebpjgdaaGreatDoorM03
import Derived.Test.YthlmlmfebpjgdaaGreatDoorM04
import Derived.Deep.DeepCutAuto
import Derived.Test.YthlmlmfebpjgdaaGreatDoorM02
import Derived.Laws.FloatArith
import Derived.Test.YthlmlmfebpjgdaaGreatDoorM01
import Derived.Laws.CopyOwn
import Derived.BigQuiet
import Derived.Deep.QuietTactic
import Derived.Outline
import Derived.Lib.Strings
import Derived.Lib.Slices
import Derived.Lib.Small
import Derived.Lib.Walk
import Derived.Lib.BitFns
set_option linter.unusedSimpArgs false
set_option linter.unusedVariables false
set_option maxHeartbeats 12800000
namespace Go.Proofs.YthlmlmfebpjgdaaGreatDoor
open Go.Proofs.Tryz
open Go.RowKit
section
theorem run_store_float(P:Program)(w:World)(a:Addr)(m:Mode)(k:FloatKind)(b:Nat):(store a (.float k b) m).run P w=stored P w a (.float k b) m:=run_store P w a _ m rfl
attribute [local go_sem] run_store_float
theorem emptyf(w:World):Rt 76 #[] (Zf 9218868437227405312 18442240474082181120) w:=by
 have H1:=Hd inf_pos;have H2:=Hd inf_neg;obtain⟨LB0,LR⟩:=bx1 w (Zv 0 0) 28;have LR0:=Hd (HasBlk.of (n:=2) LR.out rfl rfl);clear LR;have ba:=LB0.out;clear LB0 LR0 ba
 go_enter func76,ntmps76
 go_wp2_with fail;refine (H1.out _).mono ?_;rintro e w1 ⟨rfl,rfl⟩;go_wp2_with fail;refine (H2.out _).mono ?_;rintro e w1 ⟨rfl,rfl⟩;go_wp2;refine bodyPost_ret (v:=Zf 9218868437227405312 18442240474082181120) (by simp [results,results76,go_sem]) rfl ?_
 exact have b:=(below_alloc w _);⟨rfl,b⟩
theorem readf(x y:Nat)(w:World)(hx:L64 x)(hy:L64 y):Rt 102 #[Zf x y] (Zf (pat (rd x y).1) (pat (rd x y).2)) w:=by
 have HS:=Hd fun W=>soundf x y W hx hy
 obtain⟨s,hs⟩:∃ s,snd x y=s:=⟨_,rfl⟩
 rw [hs] at HS;unfold rd;rw [hs]
 cases s
 ·simp only [Bool.false_eq_true,if_false]
  rw [pat_max,pat_min];clear hs;have HE:=Hd emptyf;obtain⟨LB0,LG0_0,LR⟩:=bx2 w (Zv x y) 28 (Zv 0 0) 28;have LR0:=Hd (HasBlk.of (n:=2) LR.out rfl rfl);clear LR
  go_enter func102,ntmps102
  go_wp2_with fail;refine (HS.out _).mono ?_;rintro e w1 ⟨rfl,rfl⟩;go_wp2_with fail;refine cx (HE.out _) fun w2 hb2=>?_;have LB1:=stB LB0 hb2 LB0.out.size;have LR1:=stR LR0 hb2;have LG0_1:=stG LG0_0 hb2;clear LB0 LR0 LG0_0;clear hb2;obtain⟨ha0,hf0,ha1,hf1⟩:=LR1.out.sf2;obtain⟨hk0,hk1⟩:=LR1.out.sc2 (.float .f64 9218868437227405312) (.float .f64 18442240474082181120);have F:=Hd (below_sets (w0:=w) (r:=(w.heap.size+1)) (by omega) [.float .f64 9218868437227405312,.float .f64 18442240474082181120] 0 _ LB1.out)
  simp [sets] at hk0 hk1
  go_wp2;refine bodyPost_ret (v:=Zf 9218868437227405312 18442240474082181120) (by simp [results,results102,go_sem,hk0,hk1]) rfl ?_
  exact⟨rfl,F.out⟩
 ·simp only [if_true]
  have hd:=of_decide_eq_true hs;have P1:=Hd fun W=>(plainf x W hx hd.1).mono (R':=fun e w'=>e=.returned (.float .f64 (pat (idx x)))/\Below W.heap.size W w') (by rintro e w' ⟨h,rfl⟩;exact⟨h,Below.refl _ _⟩);have P2:=Hd fun W=>(plainf y W hy hd.2.1).mono (R':=fun e w'=>e=.returned (.float .f64 (pat (idx y)))/\Below W.heap.size W w') (by rintro e w' ⟨h,rfl⟩;exact⟨h,Below.refl _ _⟩)
  obtain⟨p,hp⟩:∃ p,pat (idx x)=p:=⟨_,rfl⟩
  obtain⟨q,hq⟩:∃ p,pat (idx y)=p:=⟨_,rfl⟩
  rw [hp] at P1 ⊢;rw [hq] at P2 ⊢;clear hs hd hp hq;obtain⟨LB0,LG0_0,LR⟩:=bx2 w (Zv x y) 28 (Zv 0 0) 28;have LR0:=Hd (HasBlk.of (n:=2) LR.out rfl rfl);clear LR
  go_enter func102,ntmps102
  go_wp2_with fail;refine (HS.out _).mono ?_;rintro e w1 ⟨rfl,rfl⟩;go_wp2_with fail;refine wp_region_held_drew (S:=fun W'=>Blk W' w.heap.size 28 (Zv x y)/\HasBlk W' (w.heap.size+1) 28 2/\Below w.heap.size w W') (by kernel_rfl) (by exact⟨LG0_0.out.drew,LR0.out.drew,LB0.out.drew⟩) (fun hHeld=>?_);refine tks 0 ?_;refine tkb 1 (fun _ h=>h.1.c2) ?_;refine tks 3 ?_;refine tkb 4 (fun _ h=>h.1.c2) ?_;refine rdy 2 fun KK hKK=>?_;go_simp;refine cx (P1.out _) fun w2 hb2=>?_;go_wp2_with fail;refine hKK.out _ _ (⟨hHeld.1.keep hb2,hHeld.2.1.keep hb2,hHeld.2.2.trans (hb2.mono hHeld.2.2.size)⟩) (fun _=>?_);clear hKK KK hHeld;rename_i hHeld;(try simp only [Act.put,lay]);refine rdy 5 fun KK hKK=>?_;go_simp;refine cx (P2.out _) fun w3 hb3=>?_;go_wp2_with fail;refine hKK.out _ _ (⟨hHeld.1.keep hb3,hHeld.2.1.keep hb3,hHeld.2.2.trans (hb3.mono hHeld.2.2.size)⟩) (fun _=>?_);clear hKK KK hHeld;rename_i hHeld;(try simp only [Act.put,lay]);refine tks 6 ?_;refine rdy 7 fun KK hKK=>?_;have ha0:=hHeld.2.1.someCell 0 (by decide);have hf0:=hHeld.2.1.frozen 0;have ha1:=hHeld.2.1.someCell 1 (by decide);have hf1:=hHeld.2.1.frozen 1;have HK:=Hd (hHeld.2.1.setCell [.float .f64 p,.float .f64 q] rfl);have F:=Hd (below_sets (w0:=w) (r:=(w.heap.size+1)) (by omega) [.float .f64 p,.float .f64 q] 0 _ hHeld.2.2);go_simp;refine hKK.out _ _ (⟨hHeld.1.other (by omega) 0 [.float .f64 p,.float .f64 q],hHeld.2.1.sets [.float .f64 p,.float .f64 q] rfl rfl,below_sets (by omega) [.float .f64 p,.float .f64 q] 0 _ hHeld.2.2⟩) (fun _=>?_)
  clear hKK KK hHeld;rename_i hHeld;(try simp only [Act.put,lay]);refine wpAnyH_done (by kernel_rfl) ?_ _;have hk0:=HK.out 0 (by decide);have hk1:=HK.out 1 (by decide)
  simp [sets] at hk0 hk1
  clear hHeld HK hb2 hb3;clear LB0 LR0 LG0_0;go_wp2;refine bodyPost_ret (v:=Zf p q) (by simp [results,results102,go_sem,hk0,hk1]) rfl ?_
  exact⟨rfl,F.out⟩
end
section
attribute [local go_sem] run_store_float
theorem order_pat{i j:Int}(h1:-(M:Int)<=i)(h2:i<=M)(h3:-(M:Int)<=j)(h4:j<=M):FloatKind.f64.format.order (pat i) (pat j)=some (compare i j):=by
 have h:=order_real (x:=pat i) (y:=pat j) (by show rungOf _<=M;rw [rung_pat h1 h2];omega) (by show rungOf _<=M;rw [rung_pat h3 h4];omega);rw [idx_pat h1 h2,idx_pat h3 h4] at h
 exact h
theorem run_negf(P:Program)(b:Nat)(w:World):(Op.unary .neg (.float .f64 b)).run P w=.ok (.float .f64 (Op.negFloat .f64 b)) w:=rfl
theorem negFloat_val{b:Nat}(hb:L64 b):Op.negFloat .f64 b<18446744073709551616/\rungOf (Op.negFloat .f64 b)=rungOf b/\idx (Op.negFloat .f64 b)=-idx b:=by
 have e:Op.negFloat .f64 b=b ^^^ 2^63:=rfl;have h:=pat_cases hb
 have hx:b ^^^ 2^63=if b<9223372036854775808 then b+9223372036854775808 else b - 9223372036854775808:=by
  apply Nat.eq_of_testBit_eq
  intro k;rw [Nat.testBit_xor,Nat.testBit_two_pow]
  split
  ·rename_i hlt;have hj:=nat_join 63 (2^63) b (by decide) (by exact hlt);rw [show b+9223372036854775808=2^63+b from by omega,<- hj,Nat.testBit_or,Nat.testBit_two_pow]
   by_cases hk:63=k
   ·subst hk;have:b.testBit 63=false:=Nat.testBit_lt_two_pow (by exact hlt)
    simp [this]
   ·simp [hk]
  ·rename_i hge
   have hsub:b - 9223372036854775808<2^63:=by omega
   have hj:=nat_join 63 (2^63) (b - 9223372036854775808) (by decide) hsub
   have hb2:b=2^63 ||| (b - 9223372036854775808):=by rw [hj];omega
   have hbit:b.testBit k=(decide (63=k) || (b - 9223372036854775808).testBit k):=by
    conv=>lhs;rw [hb2]
    rw [Nat.testBit_or,Nat.testBit_two_pow]
   rw [hbit]
   by_cases hk:63=k
   ·subst hk;have:(b - 9223372036854775808).testBit 63=false:=Nat.testBit_lt_two_pow hsub
    simp [this]
   ·simp [hk]
 rw [e,hx]
 split
 ·have h2:=pat_cases (b:=b+9223372036854775808) (by omega)
  exact⟨by omega,by omega,by omega⟩
 ·have h2:=pat_cases (b:=b - 9223372036854775808) (by omega)
  exact⟨by omega,by omega,by omega⟩
end
section
open Ieee
def near(n:Int)(d:Nat):Int:=if n<0 then -((min (nearRung n.natAbs d) M:Nat):Int) else (min (nearRung n.natAbs d) M:Nat)
theorem near_natAbs(n:Int)(d:Nat):(near n d).natAbs=min (nearRung n.natAbs d) M:=by unfold near;split<;>omega
theorem near_neg(n:Int)(d:Nat):near (-n) d=-near n d:=by
 unfold near;rw [Int.natAbs_neg]
 rcases Int.lt_trichotomy n 0 with h | h | h
 ·rw [if_neg (by omega),if_pos h];omega
 ·subst h;have:nearRung 0 d=0:=Nat.le_zero.1 (nearRung_le (Nat.zero_le _))
  simp [this]
 ·rw [if_pos (by omega),if_neg (by omega)]
theorem near_range(n:Int)(d:Nat):-(M:Int)<=near n d/\near n d<=M:=by
 have:=near_natAbs n d;omega
theorem val_scale_nat(r d:Nat):val (r:Int)*2^d=((mag r*2^d:Nat):Int):=by rw [val_nat];simp
theorem le_near{i:Int}{n:Int}{d:Nat}(hi:i<=M)(h:val i*2^d<=n):i<=near n d:=by
 have hp:(0:Int)<2^d:=by exact_mod_cast Nat.two_pow_pos d
 rcases Int.lt_or_le i 0 with h0 | h0
 ·-- below 0
  unfold near
  split
  ·obtain⟨r,rfl⟩:∃ r:Nat,i=-(r:Int):=⟨i.natAbs,by omega⟩
   rw [val_neg,Int.neg_mul,val_scale_nat] at h;have:nearRung n.natAbs d<=r:=nearRung_le (by omega)
   omega
  ·omega
 ·obtain⟨r,rfl⟩:∃ r:Nat,i=(r:Int):=⟨i.natAbs,by omega⟩
  rw [val_scale_nat] at h
  have h2:(0:Int)<=n:=by omega
  unfold near;rw [if_neg (by omega)];have:r<=nearRung n.natAbs d:=le_nearRung (by omega)
  omega
theorem near_le{i:Int}{n:Int}{d:Nat}(hi:-(M:Int)<=i)(h:n<=val i*2^d):near n d<=i:=by
 have:=@le_near (-i) (-n) d (by omega) (by rw [val_neg,Int.neg_mul];omega);rw [near_neg] at this
 omega
theorem near_val{i:Int}(h1:-(M:Int)<=i)(h2:i<=M)(d:Nat):near (val i*2^d) d=i:=
 Int.le_antisymm (near_le h1 (Int.le_refl _)) (le_near h2 (Int.le_refl _))
theorem near_val_zero{i:Int}(h1:-(M:Int)<=i)(h2:i<=M):near (val i) 0=i:=by
 have:=near_val h1 h2 0
 simpa using this
theorem word_false(r:Nat):double.word false r=r:=rfl
theorem word_true(r:Nat):double.word true r=2^63+r:=by unfold Format.word;rw [signWeight_eq];rfl
theorem word_lt64(s:Bool){r:Nat}(h:r<2^63):double.word s r<2^64:=by
 cases s
 ·rw [word_false];omega
 ·rw [word_true];omega
theorem rungOf_word(s:Bool){r:Nat}(h:r<2^63):rungOf (double.word s r)=r:=by
 unfold rungOf
 cases s
 ·rw [word_false];omega
 ·rw [word_true];omega
theorem sgn_word(s:Bool){r:Nat}(h:r<2^63):sgn (double.word s r)=s:=by
 unfold sgn
 cases s
 ·rw [word_false,show r / 2^63=0 from by omega];rfl
 ·rw [word_true,show (2^63+r) / 2^63=1 from by omega];rfl
theorem idx_word(s:Bool){r:Nat}(h:r<2^63):idx (double.word s r)=if s then -(r:Int) else r:=by
 unfold idx;rw [sgn_word s h,rungOf_word s h]
theorem M_lt:M<2^63:=by decide
structure Is (b:Nat) (i:Int):Prop where
 lt:b<2^64
 real:real b
 idx:idx b=i
theorem Is.word(s:Bool){r:Nat}(h:r<=M):Is (double.word s r) (if s then -(r:Int) else r):=by
 have:=M_lt
 have h':r<2^63:=by omega
 exact⟨word_lt64 s h',by unfold Proofs.YthlmlmfebpjgdaaGreatDoor.real;rw [rungOf_word s h'];exact h,idx_word s h'⟩
theorem Is.near{s:Bool}{n:Int}{d:Nat}(h:n≠0->s=decide (n<0)):Is (double.word s (min (nearRung n.natAbs d) M)) (near n d):=by
 have h1:=Is.word s (r:=min (nearRung n.natAbs d) M) (Nat.min_le_right _ _)
 have e:(if s=true then -((min (nearRung n.natAbs d) M:Nat):Int) else ((min (nearRung n.natAbs d) M:Nat):Int))=Proofs.YthlmlmfebpjgdaaGreatDoor.near n d:=by
  unfold Proofs.YthlmlmfebpjgdaaGreatDoor.near
  by_cases h0:n=0
  ·subst h0;have:nearRung (0:Int).natAbs d=0:=Nat.le_zero.1 (nearRung_le (Nat.zero_le _))
   rw [this];cases s<;>simp
  ·rw [h h0]
   by_cases h2:n<0
   ·rw [if_pos h2,if_pos (by simpa using h2)]
   ·rw [if_neg h2,if_neg (by simpa using h2)]
 rw [e] at h1;exact h1
theorem write_num(s:Bool)(m:Nat)(p:Int):double.write (.number s m p)=double.nearest s m p:=rfl
theorem sum_fin{x y:Nat}{sy:Bool}{m n k l:Nat}(hm:m*2^k=mag (rungOf x))(hn:n*2^l=mag (rungOf y)):
  ∃ z:Bool,((Datum.number (sgn x) m (-1074+(k:Int))).sum (.number sy n (-1074+(l:Int)))).map double.write
   = some (double.word (if val (idx x)+signed sy (mag (rungOf y)) 0=0 then z else decide (val (idx x)+signed sy (mag (rungOf y)) 0<0)) (min (nearRung (val (idx x)+signed sy (mag (rungOf y)) 0).natAbs 0) M)):=by
 refine⟨sgn x && sy,?_⟩
 have key:∀ b:Nat,b<=k->b<=l->double.nearest (if signed (sgn x) m (k - b)+signed sy n (l - b)=0 then sgn x && sy else decide (signed (sgn x) m (k - b)+signed sy n (l - b)<0)) (signed (sgn x) m (k - b)+signed sy n (l - b)).natAbs (-1074+(b:Int))=double.word (if val (idx x)+signed sy (mag (rungOf y)) 0=0 then sgn x && sy else decide (val (idx x)+signed sy (mag (rungOf y)) 0<0)) (min (nearRung (val (idx x)+signed sy (mag (rungOf y)) 0).natAbs 0) M):=by
  intro b hk hl;rw [nearest_high]
  have hp:(0:Int)<2^b:=by exact_mod_cast Nat.two_pow_pos b
  have e1:signed (sgn x) m (k - b)*2^b=val (idx x):=by rw [<- signed_split,Nat.sub_add_cancel hk,read_val hm]
  have e2:signed sy n (l - b)*2^b=signed sy (mag (rungOf y)) 0:=by
   rw [<- signed_split,Nat.sub_add_cancel hl,signed_eq,signed_eq,hn,Nat.pow_zero,Nat.mul_one]
  have e3:val (idx x)+signed sy (mag (rungOf y)) 0=(signed (sgn x) m (k - b)+signed sy n (l - b))*2^b:=by rw [<- e1,<- e2,Int.add_mul]
  rw [e3];generalize signed (sgn x) m (k - b)+signed sy n (l - b)=t
  have e4:(t*2^b).natAbs=t.natAbs*2^b:=by rw [Int.natAbs_mul,Int.natAbs_pow];rfl
  have e5:(t*2^b=0)↔t=0:=by
   constructor
   ·intro h
    rcases Int.mul_eq_zero.1 h with h | h
    ·exact h
    ·omega
   ·rintro rfl;simp
  have e6:(t*2^b<0)↔t<0:=by
   constructor
   ·intro h
    rcases Int.lt_or_le t 0 with h2 | h2
    ·exact h2
    ·have:=Int.mul_nonneg h2 (Int.le_of_lt hp);omega
   ·intro h;exact Int.mul_neg_of_neg_of_pos h hp
  rw [e4]
  congr 1
  by_cases h0:t=0
  ·rw [if_pos h0,if_pos (e5.2 h0)]
  ·rw [if_neg h0,if_neg (fun h=>h0 (e5.1 h))]
   exact decide_eq_decide.2 e6.symm
 simp only [Datum.sum,Option.map_some,write_num]
 congr 1
 rcases Nat.le_total k l with h | h
 ·have:=key k (Nat.le_refl _) h;rw [show min (-1074+(k:Int)) (-1074+(l:Int))=-1074+(k:Int) from by omega,show (-1074+(k:Int) - (-1074+(k:Int))).toNat=k - k from by omega,show (-1074+(l:Int) - (-1074+(k:Int))).toNat=l - k from by omega];rw [<- this]
 ·have:=key l h (Nat.le_refl _);rw [show min (-1074+(k:Int)) (-1074+(l:Int))=-1074+(l:Int) from by omega,show (-1074+(l:Int) - (-1074+(l:Int))).toNat=l - l from by omega,show (-1074+(k:Int) - (-1074+(l:Int))).toNat=k - l from by omega];rw [<- this]
theorem add_fin{x y:Nat}(hx:fin x)(hy:fin y):∃ r,double.add x y=some r/\Is r (near (val (idx x)+val (idx y)) 0):=by
 obtain⟨m,k,e,hm,_⟩:=read_fin hx;obtain⟨n,l,e',hn,_⟩:=read_fin hy;obtain⟨z,h⟩:=sum_fin (sy:=sgn y) hm hn;rw [show signed (sgn y) (mag (rungOf y)) 0=val (idx y) from by rw [signed_eq,val_idx,Nat.pow_zero,Nat.mul_one]] at h;unfold Format.add;rw [e,e'];refine⟨_,h,Is.near ?_⟩;intro h0;rw [if_neg h0]
theorem sub_fin{x y:Nat}(hx:fin x)(hy:fin y):∃ r,double.sub x y=some r/\Is r (near (val (idx x) - val (idx y)) 0):=by
 obtain⟨m,k,e,hm,_⟩:=read_fin hx;obtain⟨n,l,e',hn,_⟩:=read_fin hy;obtain⟨z,h⟩:=sum_fin (sy:=!sgn y) hm hn
 have e2:signed (!sgn y) (mag (rungOf y)) 0=-val (idx y):=by
  rw [signed_eq,val_idx,Nat.pow_zero,Nat.mul_one]
  cases sgn y<;>simp
 rw [e2,<- Int.sub_eq_add_neg] at h;unfold Format.sub;rw [e,e'];refine⟨_,h,Is.near ?_⟩;intro h0;rw [if_neg h0]
theorem mul_fin{x y:Nat}(hx:fin x)(hy:fin y):∃ r,double.mul x y=some r/\Is r (near (val (idx x)*val (idx y)) 1074):=by
 obtain⟨m,k,e,hm,_⟩:=read_fin hx;obtain⟨n,l,e',hn,_⟩:=read_fin hy;unfold Format.mul;rw [e,e']
 simp only [Datum.product,Option.map_some,write_num]
 refine⟨_,rfl,?_⟩;rw [show (-1074+(k:Int)+(-1074+(l:Int)))=-1074 - ((1074:Nat):Int)+((k+l:Nat):Int) from by omega,nearest_shift,nearest_low]
 have e1:(val (idx x)*val (idx y)).natAbs=m*n*2^(k+l):=by
  rw [Int.natAbs_mul,val_natAbs,val_natAbs,idx_natAbs,idx_natAbs,<- hm,<- hn,Nat.pow_add];rw [Nat.mul_assoc,Nat.mul_assoc,Nat.mul_left_comm (2^k)]
 rw [<- e1];refine Is.near ?_;intro h0;rw [val_idx,val_idx] at h0 ⊢;generalize mag (rungOf x)=a at h0 ⊢;generalize mag (rungOf y)=b at h0 ⊢;have hab:(0:Int)<=(a:Int)*(b:Int):=Int.mul_nonneg (by omega) (by omega)
 cases sgn x<;>cases sgn y<;>simp [Int.neg_mul,Int.mul_neg] at h0 ⊢
 ·exact hab
 ·have:(0:Int)<(a:Int)*(b:Int):=Int.mul_pos (by omega) (by omega)
  omega
 ·have:(0:Int)<(a:Int)*(b:Int):=Int.mul_pos (by omega) (by omega)
  omega
 ·exact hab
end
section
open Ieee
def Rep(n:Int):Prop:=∃ i:Int,val i=n
theorem Rep.val(i:Int):Rep (val i):=⟨i,rfl⟩
theorem Rep.zero:Rep 0:=⟨0,rfl⟩
theorem Rep.neg{n:Int}(h:Rep n):Rep (-n):=by obtain⟨i,rfl⟩:=h;exact⟨-i,val_neg i⟩
theorem mag_of_le(q k:Nat)(hq:q<=2^53):∃ r,mag r=q*2^k:=by
 -- lower the power until the significand is full,or the power is spent
 induction k generalizing q with
 | zero=>
  exact⟨0*2^52+q,mag_form 0 q (.inl rfl) hq⟩
 | succ k ih=>
  rcases Nat.lt_or_ge q (2^52) with h | h
  ·obtain⟨r,hr⟩:=ih (q*2) (by omega)
   exact⟨r,by rw [hr,Nat.pow_succ,Nat.mul_assoc,Nat.mul_comm 2]⟩
  ·exact⟨(k+1)*2^52+q,mag_form (k+1) q (.inr h) hq⟩
theorem rep_iff{n:Int}:Rep n↔∃ q k:Nat,q<2^53/\n.natAbs=q*2^k:=by
 constructor
 ·rintro⟨i,rfl⟩;obtain⟨k,q,e,h,hq⟩:=rung_form i.natAbs
  exact⟨q,k,hq,by rw [val_natAbs,e,mag_form k q h (by omega)]⟩
 ·rintro⟨q,k,hq,h⟩;obtain⟨r,hr⟩:=mag_of_le q k (by omega)
  rcases Int.lt_or_le n 0 with h0 | h0
  ·exact⟨-(r:Int),by rw [val_neg,val_nat];omega⟩
  ·exact⟨(r:Int),by rw [val_nat];omega⟩
theorem rep_of_dvd{n:Int}(k:Nat)(hd:(2:Int)^k ∣ n)(hn:n.natAbs<=2^53*2^k):Rep n:=by
 obtain⟨m,rfl⟩:=hd;have hp:=Nat.two_pow_pos k
 have e:((2:Int)^k*m).natAbs=m.natAbs*2^k:=by rw [Int.natAbs_mul,Int.natAbs_pow,Nat.mul_comm];rfl
 rw [e] at hn;have hm:m.natAbs<=2^53:=Nat.le_of_mul_le_mul_right hn hp;obtain⟨r,hr⟩:=mag_of_le m.natAbs k hm;rw [<- e] at hr
 rcases Int.lt_or_le ((2:Int)^k*m) 0 with h0 | h0
 ·exact⟨-(r:Int),by rw [val_neg,val_nat];omega⟩
 ·exact⟨(r:Int),by rw [val_nat];omega⟩
theorem dvd_of_natAbs{n:Int}{k q:Nat}(h:n.natAbs=q*2^k):(2:Int)^k ∣ n:=by
 have:((2^k:Nat):Int) ∣ n:=Int.ofNat_dvd_left.2 ⟨q,by rw [h,Nat.mul_comm]⟩
 simpa using this
theorem pow_dvd_le{k l:Nat}(h:k<=l):(2:Int)^k ∣ 2^l:=⟨2^(l - k),by rw [<- Int.pow_add];congr 1;omega⟩
theorem Rep.two{n:Int}(h:Rep n):Rep (2*n):=by
 obtain⟨q,k,hq,e⟩:=rep_iff.1 h
 exact rep_iff.2 ⟨q,k+1,hq,by rw [Int.natAbs_mul,e,Nat.pow_succ];show 2*(q*2^k)=_;rw [Nat.mul_left_comm,Nat.mul_comm 2]⟩
theorem rep_add{x y:Int}(hx:Rep x)(hy:Rep y)(h1:(x+y).natAbs<=x.natAbs)(h2:(x+y).natAbs<=y.natAbs):Rep (x+y):=by
 obtain⟨p,a,hp,ex⟩:=rep_iff.1 hx;obtain⟨q,b,hq,ey⟩:=rep_iff.1 hy;have dx:=dvd_of_natAbs ex;have dy:=dvd_of_natAbs ey
 rcases Nat.le_total a b with h | h
 ·refine rep_of_dvd a (Int.dvd_add dx (Int.dvd_trans (pow_dvd_le h) dy)) ?_;rw [ex] at h1
  exact Nat.le_trans h1 (Nat.mul_le_mul_right _ (by omega))
 ·refine rep_of_dvd b (Int.dvd_add (Int.dvd_trans (pow_dvd_le h) dx) dy) ?_;rw [ey] at h2
  exact Nat.le_trans h2 (Nat.mul_le_mul_right _ (by omega))
theorem rep_sub{x y:Int}(hx:Rep x)(hy:Rep y)(h1:(x - y).natAbs<=x.natAbs)(h2:(x - y).natAbs<=y.natAbs):Rep (x - y):=by
 have:=rep_add hx hy.neg (by rwa [<- Int.sub_eq_add_neg]) (by rw [Int.natAbs_neg,<- Int.sub_eq_add_neg];exact h2)
 rwa [<- Int.sub_eq_add_neg] at this
def R(n:Int):Int:=if n<0 then -(mag (nearRung n.natAbs 0):Int) else mag (nearRung n.natAbs 0)
theorem nearRung_zero(d:Nat):nearRung 0 d=0:=Nat.le_zero.1 (nearRung_le (Nat.zero_le _))
theorem R_zero:R 0=0:=by unfold R;simp [nearRung_zero,mag_zero]
theorem R_neg(n:Int):R (-n)=-R n:=by
 unfold R;rw [Int.natAbs_neg]
 rcases Int.lt_trichotomy n 0 with h | h | h
 ·rw [if_neg (by omega),if_pos h];omega
 ·subst h;simp [nearRung_zero,mag_zero]
 ·rw [if_pos (by omega),if_neg (by omega)]
theorem R_rep(n:Int):Rep (R n):=by
 unfold R
 split
 ·exact⟨-(nearRung n.natAbs 0:Int),by rw [val_neg,val_nat]⟩
 ·exact⟨(nearRung n.natAbs 0:Int),by rw [val_nat]⟩
theorem le_R{r n:Int}(hr:Rep r)(h:r<=n):r<=R n:=by
 obtain⟨i,rfl⟩:=hr;unfold R
 rcases Int.lt_or_le n 0 with h0 | h0
 ·rw [if_pos h0];have hi:i<0:=val_neg_iff.1 (by omega)
  obtain⟨r,rfl⟩:∃ r:Nat,i=-(r:Int):=⟨i.natAbs,by omega⟩
  rw [val_neg,val_nat] at h ⊢;have:nearRung n.natAbs 0<=r:=nearRung_le (by simp;omega);have:=mag_le_iff.2 this
  omega
 ·rw [if_neg (by omega)]
  rcases Int.lt_or_le i 0 with hi | hi
  ·have:=val_neg_iff.2 hi;omega
  ·obtain⟨r,rfl⟩:∃ r:Nat,i=(r:Int):=⟨i.natAbs,by omega⟩
   rw [val_nat] at h ⊢;have:r<=nearRung n.natAbs 0:=le_nearRung (by simp;omega);have:=mag_le_iff.2 this
   omega
theorem R_le{r n:Int}(hr:Rep r)(h:n<=r):R n<=r:=by
 have:=@le_R (-r) (-n) hr.neg (by omega);rw [R_neg] at this;omega
theorem R_of_rep{n:Int}(h:Rep n):R n=n:=Int.le_antisymm (R_le h (Int.le_refl _)) (le_R h (Int.le_refl _))
theorem bump_cases(n:Nat):(nearRung n 0=floorRung n/\n - mag (floorRung n)<=mag (floorRung n+1) - n) \/
  (nearRung n 0=floorRung n+1/\mag (floorRung n+1) - n<=n - mag (floorRung n)):=by
 have hk:=over_spec n
 have hc:mag (floorRung n+1)=(n / 2^over n+1)*2^over n:=by
  unfold floorRung;rw [Nat.add_assoc,mag_form _ _ (by omega) (by omega)]
 have hf:=mag_floorRung n;have hdm:=Nat.div_add_mod n (2^over n);rw [Nat.mul_comm,<- hf] at hdm;rw [Nat.add_mul,<- hf,Nat.one_mul] at hc
 have hb:nearRung n 0=floorRung n+(bump n (over n)).toNat:=by
  unfold nearRung;rw [Nat.pow_zero,Nat.div_one,Nat.zero_add]
 rw [hb,hc];unfold bump;clear hk hf hc hb;generalize mag (floorRung n)=f at *;generalize n % 2^over n=r at *;generalize 2^over n=p at *;generalize floorRung n=g
 by_cases h1:p<2*r
 ·right
  rw [decide_eq_true h1]
  exact⟨rfl,by omega⟩
 ·rw [decide_eq_false h1,Bool.false_or]
  cases h2:(p == 2*r && n / p % 2 == 1)
  ·left;exact⟨rfl,by omega⟩
  ·right
   simp at h2
   exact⟨rfl,by omega⟩
theorem R_nearest_nat(n i:Nat):((n:Int) - mag (nearRung n 0)).natAbs<=((n:Int) - mag i).natAbs:=by
 have f1:=mag_floorRung_le n;have f2:=lt_mag_floorRung_succ n
 have h3:mag i<=mag (floorRung n)\/mag (floorRung n+1)<=mag i:=by
  rw [mag_le_iff,mag_le_iff];omega
 rcases bump_cases n with ⟨e,h⟩ | ⟨e,h⟩<;>rw [e]<;>omega
theorem R_nearest{n r:Int}(hr:Rep r):(n - R n).natAbs<=(n - r).natAbs:=by
 obtain⟨i,rfl⟩:=hr;have h:=R_nearest_nat n.natAbs i.natAbs;rw [<- val_natAbs i] at h;unfold R
 split<;>omega
theorem bump_shift(n k a:Nat):bump (n*2^k) (k+a)=bump n a:=by
 have hp:=Nat.two_pow_pos k
 have e1:n*2^k / 2^(k+a)=n / 2^a:=by rw [Nat.pow_add,Nat.mul_comm n,Nat.mul_div_mul_left _ _ hp]
 have e2:n*2^k % 2^(k+a)=2^k*(n % 2^a):=by rw [Nat.pow_add,Nat.mul_comm n,Nat.mul_mod_mul_left]
 unfold bump;rw [e1,e2,Nat.pow_add];generalize 2^a=x;generalize n % x=y;generalize 2^k=p at hp
 have c1:decide (p*x<2*(p*y))=decide (x<2*y):=by
  rw [show 2*(p*y)=p*(2*y) from by rw [Nat.mul_left_comm]]
  simp [Nat.mul_lt_mul_left hp]
 have c2:(p*x == 2*(p*y))=(x == 2*y):=by
  rw [show 2*(p*y)=p*(2*y) from by rw [Nat.mul_left_comm]];rw [Bool.eq_iff_iff];simp [Nat.mul_right_inj (by omega:p≠0)]
 rw [c1,c2]
theorem log2_mul_pow{n:Nat}(h0:n≠0)(k:Nat):(n*2^k).log2=n.log2+k:=by
 rw [Nat.log2_eq_iff (Nat.mul_ne_zero h0 (by have:=Nat.two_pow_pos k;omega))];have h1:=Nat.log2_self_le h0;have h2:n<2^(n.log2+1):=Nat.lt_log2_self
 constructor
 ·rw [Nat.pow_add];exact Nat.mul_le_mul_right _ h1
 ·rw [show n.log2+k+1=n.log2+1+k from by omega,Nat.pow_add 2 (n.log2+1)];exact Nat.mul_lt_mul_of_pos_right h2 (Nat.two_pow_pos k)
theorem mag_nearRung(n:Nat):mag (nearRung n 0)=(n / 2^over n+(bump n (over n)).toNat)*2^over n:=by
 have hk:=over_spec n;unfold nearRung floorRung;rw [Nat.pow_zero,Nat.div_one,Nat.zero_add,Nat.add_assoc,mag_form]
 ·omega
 ·cases bump n (over n)<;>simp<;>omega
theorem mag_nearRung_shift(n k:Nat):mag (nearRung (n*2^k) 0)=mag (nearRung n 0)*2^k:=by
 by_cases h:n<2^53
 ·obtain⟨r,hr⟩:=mag_of_le n k (by omega);obtain⟨s,hs⟩:=mag_of_le n 0 (by omega);rw [Nat.pow_zero,Nat.mul_one] at hs;have e1:=nearRung_mag r 0;have e2:=nearRung_mag s 0;rw [Nat.pow_zero,Nat.mul_one] at e1 e2;rw [<- hr,e1,hr,<- hs,e2]
 ·have h0:n≠0:=by omega
  have hl:53<=n.log2:=(Nat.le_log2 h0).2 (by omega)
  have ho:over (n*2^k)=k+over n:=by unfold over;rw [log2_mul_pow h0];omega
  rw [mag_nearRung,mag_nearRung,ho,bump_shift];have hp:=Nat.two_pow_pos k;rw [show n*2^k / 2^(k+over n)=n / 2^over n from by rw [Nat.pow_add,Nat.mul_comm n,Nat.mul_div_mul_left _ _ hp]];rw [Nat.add_comm k,Nat.pow_add,Nat.mul_assoc]
theorem R_shift(n:Int)(k:Nat):R (n*2^k)=R n*2^k:=by
 have hp:(0:Int)<2^k:=by exact_mod_cast Nat.two_pow_pos k
 have e:(n*2^k).natAbs=n.natAbs*2^k:=by rw [Int.natAbs_mul,Int.natAbs_pow];rfl
 unfold R;rw [e,mag_nearRung_shift]
 rcases Int.lt_or_le n 0 with h | h
 ·rw [if_pos h,if_pos (Int.mul_neg_of_neg_of_pos h hp),Int.natCast_mul,Int.neg_mul];simp
 ·rw [if_neg (Int.not_lt.2 h),if_neg (by have:=Int.mul_nonneg h (Int.le_of_lt hp);omega),Int.natCast_mul];simp
theorem R_two(n:Int):R (2*n)=2*R n:=by
 have:=R_shift n 1;rw [show (2:Int)^1=2 from rfl,Int.mul_comm,Int.mul_comm (R n)] at this
 exact this
theorem R_dvd{n:Int}{k:Nat}(h:(2:Int)^k ∣ n):(2:Int)^k ∣ R n:=by
 obtain⟨m,rfl⟩:=h;rw [Int.mul_comm,R_shift]
 exact Int.dvd_mul_left _ _
theorem R_nonneg{n:Int}(h:0<=n):0<=R n:=le_R Rep.zero h
theorem R_nonpos{n:Int}(h:n<=0):R n<=0:=R_le Rep.zero h
theorem R_eq_zero{n:Int}:R n=0↔n=0:=by
 constructor
 ·intro h
  have h1:Rep (1:Int):=⟨1,by decide⟩
  rcases Int.lt_trichotomy n 0 with h2 | h2 | h2
  ·have:=R_le (r:=-1) (n:=n) h1.neg (by omega);omega
  ·exact h2
  ·have:=le_R (r:=1) (n:=n) h1 (by omega);omega
 ·rintro rfl;exact R_zero
theorem rep_err{x y:Int}(hx:Rep x)(hy:Rep y):Rep (x+y - R (x+y)):=by
 obtain⟨p,a,hp,ex⟩:=rep_iff.1 hx;obtain⟨q,b,hq,ey⟩:=rep_iff.1 hy;have dx:=dvd_of_natAbs ex;have dy:=dvd_of_natAbs ey
 rcases Nat.le_total a b with h | h
 ·have hd:(2:Int)^a ∣ x+y:=Int.dvd_add dx (Int.dvd_trans (pow_dvd_le h) dy);refine rep_of_dvd a (Int.dvd_sub hd (R_dvd hd)) ?_;have:=R_nearest (n:=x+y) hy;rw [show x+y - y=x from by omega,ex] at this
  exact Nat.le_trans this (Nat.mul_le_mul_right _ (by omega))
 ·have hd:(2:Int)^b ∣ x+y:=Int.dvd_add (Int.dvd_trans (pow_dvd_le h) dx) dy;refine rep_of_dvd b (Int.dvd_sub hd (R_dvd hd)) ?_;have:=R_nearest (n:=x+y) hx;rw [show x+y - x=y from by omega,ey] at this
  exact Nat.le_trans this (Nat.mul_le_mul_right _ (by omega))
theorem two_sum_steps{x y s t:Int}(hx:Rep x)(hy:Rep y)(hs:s=R (x+y))(ht:t=R (s - x))(hv:Rep (s - t))(hb:Rep (y - t)):
  R (R (x - R (s - t))+R (y - t))=x+y - s:=by
 have es:=rep_err (R_rep (x+y)) hx.neg;rw [<- hs,<- Int.sub_eq_add_neg,<- ht] at es
 have h1:R (x - R (s - t))=x - (s - t):=by
  rw [R_of_rep hv];refine R_of_rep ?_;have:=es.neg
  rwa [show -(s - x - t)=x - (s - t) from by omega] at this
 rw [h1,R_of_rep hb,show x - (s - t)+(y - t)=x+y - s from by omega];have:=rep_err hx hy;rw [<- hs] at this
 exact R_of_rep this
theorem two_sum_exact{x y s:Int}(hx:Rep x)(hy:Rep y)(hs:s=R (x+y))(h:Rep (s - x)):
  R (R (x - R (s - R (s - x)))+R (y - R (s - x)))=x+y - s:=by
 refine two_sum_steps hx hy hs rfl ?_ ?_
 ·rw [R_of_rep h,show s - (s - x)=x from by omega];exact hx
 ·rw [R_of_rep h,show y - (s - x)=x+y - s from by omega];have:=rep_err hx hy;rw [<- hs] at this;exact this
theorem two_sum_pos{x y s:Int}(hx:Rep x)(hy:Rep y)(hs:s=R (x+y))(hy0:0<=y):
  R (R (x - R (s - R (s - x)))+R (y - R (s - x)))=x+y - s:=by
 have sr:Rep s:=hs ▸ R_rep _
 by_cases hr:Rep (s - x)
 ·exact two_sum_exact hx hy hs hr
 rcases Int.lt_or_le x 0 with hx0 | hx0
 ·rcases Int.lt_or_le y (-x) with hc | hc
  ·-- y below the size of x: s - x would be a number
   exfalso;apply hr
   have a1:s<=0:=by rw [hs];exact R_nonpos (by omega)
   rcases Int.lt_or_le (-x) (2*y) with h2 | h2
   ·have e:s=x+y:=by
     rw [hs];refine R_of_rep (rep_add hx hy (by omega) (by omega))
    rw [e,show x+y - x=y from by omega];exact hy
   ·-- 2 s is at or below x
    have a2:2*s<=x:=by
     rw [hs,<- R_two];exact R_le hx (by omega)
    have a3:x<=s:=by rw [hs];exact le_R hx (by omega)
    exact rep_sub sr hx (by omega) (by omega)
  ·have a1:0<=s:=by rw [hs];exact R_nonneg (by omega)
   have a0:s<=y:=by rw [hs];exact R_le hy (by omega)
   rcases Int.lt_or_le y (-2*x) with h2 | h2
   ·exfalso;apply hr
    have e:s=x+y:=by
     rw [hs];refine R_of_rep (rep_add hx hy (by omega) (by omega))
    rw [e,show x+y - x=y from by omega];exact hy
   ·have a2:y<=2*s:=by
     rw [hs,<- R_two];exact le_R hy (by omega)
    have tr:Rep (R (s - x)):=R_rep _;have t1:s<=R (s - x):=le_R sr (by omega);have t2:R (s - x)<=2*s:=R_le sr.two (by omega)
    have b1:R (s - x)<=2*y:=by omega
    have b2:y<=2*R (s - x):=by omega
    exact two_sum_steps hx hy hs rfl (rep_sub sr tr (by omega) (by omega)) (rep_sub hy tr (by omega) (by omega))
 ·have a1:x<=s:=by rw [hs];exact le_R hx (by omega)
  have a2:y<=s:=by rw [hs];exact le_R hy (by omega)
  rcases Int.lt_or_le s (2*x) with h2 | h2
  ·exfalso;exact hr (rep_sub sr hx (by omega) (by omega))
  ·have tr:Rep (R (s - x)):=R_rep _;have t1:R (s - x)<=s:=R_le sr (by omega)
   have t2:s<=2*R (s - x):=by rw [<- R_two];exact le_R sr (by omega)
   -- x is not above y here
   rcases Int.lt_or_le y x with h3 | h3
   ·exfalso
    have:s<=2*x:=by rw [hs];exact R_le hx.two (by omega)
    have e:s=2*x:=by omega
    apply hr;rw [e,show 2*x - x=x from by omega];exact hx
   ·have a3:s<=2*y:=by rw [hs];exact R_le hy.two (by omega)
    exact two_sum_steps hx hy hs rfl (rep_sub sr tr (by omega) (by omega)) (rep_sub hy tr (by omega) (by omega))
theorem two_sum{x y s:Int}(hx:Rep x)(hy:Rep y)(hs:s=R (x+y)):
  R (R (x - R (s - R (s - x)))+R (y - R (s - x)))=x+y - s:=by
 rcases Int.lt_or_le y 0 with h | h
 ·have h1:=two_sum_pos (s:=-s) hx.neg hy.neg (by rw [hs,<- R_neg];congr 1;omega) (by omega);rw [show -s - -x=-(s - x) from by omega,R_neg,show -s - -R (s - x)=-(s - R (s - x)) from by omega,R_neg,show -x - -R (s - R (s - x))=-(x - R (s - R (s - x))) from by omega,R_neg,show -y - -R (s - x)=-(y - R (s - x)) from by omega,R_neg,<- Int.neg_add,R_neg] at h1
  omega
 ·exact two_sum_pos hx hy hs h
end
theorem mul_le_pos{a b c:Rat}(h:0<c):a*c<=b*c↔a<=b:=by
 constructor
 ·intro h1;exact Rat.le_of_mul_le_mul_right h1 h
 ·intro h1;exact Rat.mul_le_mul_of_nonneg_right h1 (by grind)
theorem fl_le_units{j n:Int}:fl j<=(n:Rat)*2^(-1074:Int)↔val j<=n:=by
 unfold fl;rw [mul_le_pos (zpow_pos _),Rat.intCast_le_intCast]
theorem units_le_fl{j n:Int}:(n:Rat)*2^(-1074:Int)<=fl j↔n<=val j:=by
 unfold fl;rw [mul_le_pos (zpow_pos _),Rat.intCast_le_intCast]
theorem fl_add(i j:Int):fl i+fl j=((val i+val j:Int):Rat)*2^(-1074:Int):=by
 unfold fl;rw [Rat.intCast_add,Rat.add_mul]
theorem near_down{n k:Int}(hk:val k=R n)(h1:-(M:Int)<k)(h2:k<M):rndI (-1) ((n:Rat)*2^(-1074:Int))=if n<R n then k - 1 else k:=by
 refine (Rnd.eq (.inl ⟨rfl,by split<;>omega,by split<;>omega,fun j hj hj'=>?_⟩)).symm;rw [fl_le_units]
 by_cases hc:n<R n
 ·rw [if_pos hc]
  constructor
  ·intro h
   by_cases h3:val j<=n
   ·exact h3
   ·have h4:R n<=val j:=R_le (Rep.val j) (by omega);rw [<- hk,val_le_iff] at h4;omega
  ·intro h
   have h4:val j<val k:=by omega
   rw [val_lt_iff] at h4;omega
 ·rw [if_neg hc]
  constructor
  ·intro h;have:=val_le_iff.2 h;omega
  ·intro h;have h4:val j<=R n:=le_R (Rep.val j) h;rw [<- hk,val_le_iff] at h4;omega
theorem near_up{n k:Int}(hk:val k=R n)(h1:-(M:Int)<k)(h2:k<M):rndI 1 ((n:Rat)*2^(-1074:Int))=if R n<n then k+1 else k:=by
 refine (Rnd.eq (.inr ⟨rfl,by split<;>omega,by split<;>omega,fun j hj hj'=>?_⟩)).symm;rw [units_le_fl]
 by_cases hc:R n<n
 ·rw [if_pos hc]
  constructor
  ·intro h
   by_cases h3:n<=val j
   ·exact h3
   ·have h4:val j<=R n:=le_R (Rep.val j) (by omega);rw [<- hk,val_le_iff] at h4;omega
  ·intro h
   have h4:val k<val j:=by omega
   rw [val_lt_iff] at h4;omega
 ·rw [if_neg hc]
  constructor
  ·intro h;have:=val_le_iff.2 h;omega
  ·intro h;have h4:R n<=val j:=R_le (Rep.val j) h;rw [<- hk,val_le_iff] at h4;omega
theorem mag_two_pow(t:Nat):mag ((t+1)*2^52)=2^52*2^t:=by
 have:=mag_form t (2^52) (.inr (Nat.le_refl _)) (by omega);rw [show (t+1)*2^52=t*2^52+2^52 from by rw [Nat.add_mul,Nat.one_mul]];exact this
theorem rep_two_pow(t:Nat):Rep ((2:Int)^t):=rep_of_dvd t (Int.dvd_refl _) (by rw [Int.natAbs_pow];exact Nat.le_mul_of_pos_left _ (by decide))
theorem R_bound{n:Int}{t:Nat}(h:n.natAbs<=2^t):(R n).natAbs<=2^t:=by
 have h0:((2^t:Nat):Int)=(2:Int)^t:=by rw [Int.natCast_pow];rfl
 have h1:R n<=(2:Int)^t:=R_le (rep_two_pow t) (by omega);have h2:-(2:Int)^t<=R n:=le_R (rep_two_pow t).neg (by omega)
 omega
theorem near_R{n:Int}{Q:Nat}(hQ:Q<=2000)(h:n.natAbs<=2^Q):val (near n 0)=R n/\-(M:Int)<near n 0/\near n 0<M:=by
 have hM:M=2047*2^52:=rfl
 obtain⟨r,hr⟩:∃ r,mag r=2^Q*2^0/\r<M:=by
  by_cases hq:Q<52
  ·have h1:2^Q<2^52:=Nat.pow_lt_pow_right (by omega) hq
   exact⟨2^Q,by rw [mag_small h1,Nat.pow_zero,Nat.mul_one],by omega⟩
  ·obtain⟨t,rfl⟩:∃ t,Q=52+t:=⟨Q - 52,by omega⟩
   refine⟨(t+1)*2^52,by rw [mag_two_pow,Nat.pow_zero,Nat.mul_one,Nat.pow_add],?_⟩;have:(t+1)*2^52<=2000*2^52:=Nat.mul_le_mul_right _ (by omega)
   omega
 have h1:nearRung n.natAbs 0<=r:=nearRung_le (by rw [Nat.pow_zero,Nat.mul_one];rw [Nat.pow_zero,Nat.mul_one] at hr;rw [hr.1];exact h)
 have h2:min (nearRung n.natAbs 0) M=nearRung n.natAbs 0:=by omega
 unfold near R;rw [h2];refine⟨?_,by split<;>omega,by split<;>omega⟩
 split
 ·rw [val_neg,val_nat]
 ·rw [val_nat]
structure Fl (b:Nat) (n:Int):Prop where
 lt:b<18446744073709551616
 fin:fin b
 val:val (idx b)=n
theorem Fl.of_is{b:Nat}{n:Int}{Q:Nat}(hQ:Q<=2000)(h:Is b (near n 0))(hn:n.natAbs<=2^Q):Fl b (R n):=by
 obtain⟨h1,h2,h3⟩:=near_R hQ hn;refine⟨h.lt,?_,by rw [h.idx,h1]⟩;have:=idx_natAbs b;rw [h.idx] at this
 show rungOf b<M
 omega
theorem Fl.add{x y:Nat}{m n:Int}{Q:Nat}(hQ:Q<=2000)(hx:Fl x m)(hy:Fl y n)(h:(m+n).natAbs<=2^Q):∃ r,FloatKind.f64.format.add x y=some r/\Fl r (R (m+n)):=by
 obtain⟨r,h1,h2⟩:=add_fin hx.fin hy.fin;rw [hx.val,hy.val] at h2
 exact⟨r,h1,Fl.of_is hQ h2 h⟩
theorem Fl.sub{x y:Nat}{m n:Int}{Q:Nat}(hQ:Q<=2000)(hx:Fl x m)(hy:Fl y n)(h:(m - n).natAbs<=2^Q):∃ r,FloatKind.f64.format.sub x y=some r/\Fl r (R (m - n)):=by
 obtain⟨r,h1,h2⟩:=sub_fin hx.fin hy.fin;rw [hx.val,hy.val] at h2
 exact⟨r,h1,Fl.of_is hQ h2 h⟩
theorem quick_sum{x y:Nat}{m n:Int}{T:Nat}(hT:T<=1990)(hx:Fl x m)(hy:Fl y n)(bx:m.natAbs<=2^T)(by_:n.natAbs<=2^T):
  ∃ s t a b c e:Nat,FloatKind.f64.format.add x y=some s/\FloatKind.f64.format.sub s x=some t/\FloatKind.f64.format.sub s t=some a/\FloatKind.f64.format.sub x a=some b /\
   FloatKind.f64.format.sub y t=some c/\FloatKind.f64.format.add b c=some e/\Fl s (R (m+n))/\Fl e (m+n - R (m+n)):=by
 have p1:2^(T+1)=2*2^T:=by rw [Nat.pow_succ,Nat.mul_comm]
 have p2:2^(T+2)=4*2^T:=by rw [Nat.pow_add,Nat.mul_comm]
 have p3:2^(T+3)=8*2^T:=by rw [Nat.pow_add,Nat.mul_comm]
 have p4:2^(T+4)=16*2^T:=by rw [Nat.pow_add,Nat.mul_comm]
 have p5:2^(T+10)=1024*2^T:=by rw [Nat.pow_add,Nat.mul_comm]
 have hQ:T+10<=2000:=by omega
 have rx:Rep m:=by rw [<- hx.val];exact Rep.val _
 have ry:Rep n:=by rw [<- hy.val];exact Rep.val _
 have h2:=two_sum rx ry rfl;obtain⟨s,e1,f1⟩:=Fl.add hQ hx hy (by omega);have b1:(R (m+n)).natAbs<=2^(T+1):=R_bound (by omega);obtain⟨t,e2,f2⟩:=Fl.sub hQ f1 hx (by omega);have b2:(R (R (m+n) - m)).natAbs<=2^(T+2):=R_bound (by omega);obtain⟨a,e3,f3⟩:=Fl.sub hQ f1 f2 (by omega);have b3:(R (R (m+n) - R (R (m+n) - m))).natAbs<=2^(T+3):=R_bound (by omega);obtain⟨b,e4,f4⟩:=Fl.sub hQ hx f3 (by omega);have b4:(R (m - R (R (m+n) - R (R (m+n) - m)))).natAbs<=2^(T+4):=R_bound (by omega);obtain⟨c,e5,f5⟩:=Fl.sub hQ hy f2 (by omega);have b5:(R (n - R (R (m+n) - m))).natAbs<=2^(T+3):=R_bound (by omega);obtain⟨e,e6,f6⟩:=Fl.add hQ f4 f5 (by omega);rw [h2] at f6
 exact⟨s,t,a,b,c,e,e1,e2,e3,e4,e5,e6,f1,f6⟩
theorem or_one(v:Nat):v ||| 1=2*(v / 2)+1:=by
 have h1:v=2*(v / 2)+v % 2:=by omega
 apply Nat.eq_of_testBit_eq
 intro i;rw [Nat.testBit_or]
 cases i with
 | zero=>simp
 | succ i=>rw [Nat.testBit_succ,Nat.testBit_succ,Nat.testBit_succ,show (2*(v / 2)+1) / 2=v / 2 from by omega];simp
def marked(w:Nat)(lost:Bool):Nat:=if lost then 2*(w / 2)+1 else w
theorem marked_div(w:Nat)(lost:Bool):marked w lost / 4=w / 4:=by unfold marked;split<;>omega
theorem marked_mod(w:Nat)(lost:Bool):marked w lost % 4=0↔w % 4=0/\lost=false:=by unfold marked;split<;>simp_all;omega
def Dg(S p q:Nat)(exp:Int)(more:Bool):Prop:=
 ∃ U:Nat,0<=exp+U/\3000<=U/\S*2^(exp+U).toNat*q<=p*2^U/\p*2^U<(S+1)*2^(exp+U).toNat*q/\(more=false↔p*2^U=S*2^(exp+U).toNat*q)
theorem Dg.exact(S:Nat)(exp:Int):Dg S (S*2^exp.toNat) (2^(-exp).toNat) exp false:=by
 refine⟨3000+exp.natAbs,by omega,by omega,?_⟩
 have e:S*2^exp.toNat*2^(3000+exp.natAbs)=S*2^(exp+(3000+exp.natAbs:Nat)).toNat*2^(-exp).toNat:=by
  rw [Nat.mul_assoc,Nat.mul_assoc,<- Nat.pow_add,<- Nat.pow_add];congr 2;omega
 refine⟨by omega,?_,by simp [e]⟩;rw [e,Nat.add_mul,Nat.add_mul,Nat.one_mul];have:0<2^(exp+(3000+exp.natAbs:Nat)).toNat*2^(-exp).toNat:=Nat.mul_pos (Nat.two_pow_pos _) (Nat.two_pow_pos _)
 omega
theorem Dg.sc{S p q:Nat}{exp:Int}{more:Bool}(h:Dg S p q exp more)(hS:0<S):Sc p q ((blen S:Int) - 1+exp):=by
 obtain⟨U,h0,-,h1,h2,-⟩:=h;obtain⟨L,e,b1,b2⟩:=blen_bounds hS;rw [e];have c1:2^(L+(exp+U).toNat)*q<=p*2^U:=Nat.le_trans (by rw [Nat.pow_add];exact Nat.mul_le_mul_right _ (Nat.mul_le_mul_right _ b1)) h1;have c2:p*2^U<2^(L+1+(exp+U).toNat)*q:=Nat.lt_of_lt_of_le h2 (by rw [Nat.pow_add];exact Nat.mul_le_mul_right _ (Nat.mul_le_mul_right _ (by omega)))
 have eg:((L+1:Nat):Int) - 1+exp=(L:Int)+exp:=by omega
 rw [eg]
 constructor
 ·intro hf
  have a1:L+(exp+U).toNat=((L:Int)+exp).toNat+U:=by omega
  have a2:L+1+(exp+U).toNat=((L:Int)+exp).toNat+1+U:=by omega
  rw [a1,Nat.pow_add] at c1;rw [a2,Nat.pow_add] at c2
  constructor
  ·refine Nat.le_of_mul_le_mul_right (c:=2^U) ?_ (Nat.two_pow_pos U)
   calc q*2^((L:Int)+exp).toNat*2^U=2^((L:Int)+exp).toNat*2^U*q:=by ac_rfl
    _<=_:=c1
  ·refine Nat.lt_of_mul_lt_mul_right (a:=2^U) ?_
   calc p*2^U<_:=c2
    _=q*2^(((L:Int)+exp).toNat+1)*2^U:=by ac_rfl
 ·intro hf
  have a1:U=L+(exp+U).toNat+(-((L:Int)+exp)).toNat:=by omega
  have c3:2^(L+(exp+U).toNat)*q<=2^(L+(exp+U).toNat)*(p*2^(-((L:Int)+exp)).toNat):=by
   calc _<=_:=c1
    _=p*(2^(L+(exp+U).toNat)*2^(-((L:Int)+exp)).toNat):=by rw [<- Nat.pow_add,<- a1]
    _=_:=by ac_rfl
  have c4:2^(L+(exp+U).toNat)*(p*2^(-((L:Int)+exp)).toNat)<2^(L+(exp+U).toNat)*(2*q):=by
   calc _=p*(2^(L+(exp+U).toNat)*2^(-((L:Int)+exp)).toNat):=by ac_rfl
    _=p*2^U:=by rw [<- Nat.pow_add,<- a1]
    _<_:=c2
    _=_:=by rw [show L+1+(exp+U).toNat=L+(exp+U).toNat+1 from by omega,Nat.pow_succ];ac_rfl
  exact⟨Nat.le_of_mul_le_mul_left c3 (Nat.two_pow_pos _),Nat.lt_of_mul_lt_mul_left c4⟩
theorem or_false_split{a b:Bool}(h:(a || b)=false):a=false/\b=false:=by revert h;cases a<;>cases b<;>simp
theorem bracket{P C W W':Nat}(h1:W*C<=P)(h2:P<(W+1)*C)(h3:W'*C<=P)(h4:P<(W'+1)*C):W=W':=by
 have a:W<W'+1:=Nat.lt_of_mul_lt_mul_right (Nat.lt_of_le_of_lt h1 h4);have b:W'<W+1:=Nat.lt_of_mul_lt_mul_right (Nat.lt_of_le_of_lt h3 h2)
 omega
theorem digits_at{S p q w:Nat}{exp e:Int}{more lost:Bool}(h:Dg S p q exp more)(hq:0<q)(he:-1074<=e)
  (hdn:0<=e - 2 - exp->w=S / 2^(e - 2 - exp).toNat/\(lost=true↔S % 2^(e - 2 - exp).toNat≠0))(hup:e - 2 - exp<0->w=S*2^(-(e - 2 - exp)).toNat/\lost=false/\more=false):
  marked w (lost || more) / 4=upN p e / upM q e/\(marked w (lost || more) % 4=0↔upN p e % upM q e=0):=by
 obtain⟨U,h0,hU,h1,h2,h3⟩:=h;obtain⟨u1,u2,u3,u4⟩:=units (n:=p) (m:=q) (U:=U) (e:=e) hq (by omega);rw [marked_div,marked_mod]
 obtain⟨P,hP⟩:∃ P,p*2^U=P:=⟨_,rfl⟩
 obtain⟨W,hW⟩:∃ W,upN p e / upM q e=W:=⟨_,rfl⟩
 rw [hP] at h1 h2 h3 u1 u2 u3 u4;rw [hW] at u1 u2 u3 u4 ⊢
 obtain⟨C,hC⟩:∃ C,2^(e+U).toNat*q=C:=⟨_,rfl⟩
 rw [Nat.mul_assoc,hC] at u1 u2 u3 u4
 have hC0:0<C:=by rw [<- hC];exact Nat.mul_pos (Nat.two_pow_pos _) hq
 -- the bracket of w / 4,and when P is it
 have key:w / 4*C<=P/\P<(w / 4+1)*C/\(P=w / 4*C↔w % 4=0/\(lost || more)=false):=by
  rcases Int.lt_or_le (e - 2 - exp) 0 with hc | hc
  ·obtain⟨ew,rfl,rfl⟩:=hup hc;have eq:=h3.1 rfl
   obtain⟨k,hk⟩:∃ k,(-(e - 2 - exp)).toNat=k:=⟨_,rfl⟩
   obtain⟨B,hB⟩:∃ B,2^(e - 2+U).toNat*q=B:=⟨_,rfl⟩
   have hB0:0<B:=by rw [<- hB];exact Nat.mul_pos (Nat.two_pow_pos _) hq
   have e4:C=4*B:=by
    rw [<- hC,<- hB,show (e+U).toNat=(e - 2+U).toNat+2 from by omega,Nat.pow_add];have:2^2=4:=rfl;rw [this];ac_rfl
   have eP:P=w*B:=by
    rw [eq,ew,hk,<- hB,show (exp+U).toNat=k+(e - 2+U).toNat from by omega,Nat.pow_add];ac_rfl
   have ew4:w=4*(w / 4)+w % 4:=by omega
   have lt4:w % 4<4:=Nat.mod_lt _ (by omega);generalize w / 4=a at *;generalize w % 4=b at *
   have eP2:P=a*C+b*B:=by rw [eP,ew4,e4,Nat.add_mul];congr 1;ac_rfl
   refine⟨by omega,?_,?_⟩
   ·rw [Nat.add_mul,Nat.one_mul,eP2];have:b*B<4*B:=Nat.mul_lt_mul_of_pos_right lt4 hB0
    omega
   ·constructor
    ·intro h
     have:b*B=0:=by omega
     rcases Nat.mul_eq_zero.1 this with h | h
     ·exact⟨h,rfl⟩
     ·omega
    ·rintro⟨h,-⟩;rw [h] at eP2;omega
  ·obtain⟨ew,hl⟩:=hdn hc
   obtain⟨k,hk⟩:∃ k,(e - 2 - exp).toNat=k:=⟨_,rfl⟩
   rw [hk] at ew hl
   obtain⟨A,hA⟩:∃ A,2^(exp+U).toNat*q=A:=⟨_,rfl⟩
   have hA0:0<A:=by rw [<- hA];exact Nat.mul_pos (Nat.two_pow_pos _) hq
   rw [Nat.mul_assoc,hA] at h1 h2 h3
   have e4:C=4*2^k*A:=by
    rw [<- hC,<- hA,show (e+U).toNat=(exp+U).toNat+k+2 from by omega,Nat.pow_add,Nat.pow_add];have:2^2=4:=rfl;rw [this];ac_rfl
   have eS:S=2^k*w+S % 2^k:=by rw [ew];exact (Nat.div_add_mod S (2^k)).symm
   have lS:S % 2^k<2^k:=Nat.mod_lt _ (Nat.two_pow_pos k)
   have ew4:w=4*(w / 4)+w % 4:=by omega
   have lt4:w % 4<4:=Nat.mod_lt _ (by omega);generalize S % 2^k=l at *;generalize w / 4=a at *;generalize w % 4=b at *;generalize 2^k=K at *
   have eS2:S=a*(4*K)+(K*b+l):=by
    rw [eS,ew4,Nat.mul_add]
    have:K*(4*a)=a*(4*K):=by ac_rfl
    omega
   have hr:K*b+l<4*K:=by
    have:K*b<=K*3:=Nat.mul_le_mul_left _ (by omega)
    omega
   generalize hR:K*b+l=r at *
   have c1:S*A=a*C+r*A:=by rw [eS2,e4,Nat.add_mul];congr 1;ac_rfl
   have c2:(S+1)*A=a*C+(r+1)*A:=by rw [Nat.add_mul,c1,Nat.add_mul];omega
   have c3:(r+1)*A<=C:=by rw [e4];exact Nat.mul_le_mul_right _ (by omega)
   refine⟨by omega,?_,?_⟩
   ·rw [Nat.add_mul,Nat.one_mul];omega
   ·constructor
    ·intro h
     have h5:r*A=0:=by omega
     have h6:r=0:=by rcases Nat.mul_eq_zero.1 h5 with h | h<;>omega
     have h7:l=0:=by omega
     have h8:K*b=0:=by omega
     have h9:b=0:=by rcases Nat.mul_eq_zero.1 h8 with h | h<;>omega
     have h10:lost=false:=by
      cases lost with
      | false=>rfl
      | true=>exact absurd h7 (hl.1 rfl)
     have h11:more=false:=h3.2 (by omega)
     exact⟨h9,by rw [h10,h11];rfl⟩
    ·rintro⟨h5,h6⟩;obtain⟨h7,h8⟩:=or_false_split h6
     have h9:l=0:=by
      by_cases hl0:l=0
      ·exact hl0
      ·have:=hl.2 hl0;rw [h7] at this;cases this
     have h10:r=0:=by rw [<- hR,h5,h9];simp
     have:=h3.1 h8;rw [this,c1,h10];omega
 obtain⟨k1,k2,k3⟩:=key;have hWW:w / 4=W:=bracket k1 k2 u1 u2;refine⟨hWW,?_⟩;rw [<- k3,hWW]
 constructor
 ·intro h
  by_cases h0:upN p e % upM q e=0
  ·exact h0
  ·have:=u4 h0;omega
 ·intro h;exact u3 h
section
attribute [local go_sem] run_store_float run_frombits run_bitsof run_negf
theorem ord_lt{a b:Nat}(ha:rungOf a<=M)(hb:rungOf b<=M)(h:idx a<idx b):FloatKind.f64.format.order a b=some .lt:=by
 have:=order_real ha hb;rw [Int.compare_eq_lt.2 h] at this;exact this
theorem ord_eq{a b:Nat}(ha:rungOf a<=M)(hb:rungOf b<=M)(h:idx a=idx b):FloatKind.f64.format.order a b=some .eq:=by
 have:=order_real ha hb;rw [Int.compare_eq_eq.2 h] at this;exact this
theorem ord_gt{a b:Nat}(ha:rungOf a<=M)(hb:rungOf b<=M)(h:idx b<idx a):FloatKind.f64.format.order a b=some .gt:=by
 have:=order_real ha hb;rw [Int.compare_eq_gt.2 h] at this;exact this
theorem real_zero:rungOf 0<=M:=by decide
theorem idx_zero:idx 0=0:=by decide
theorem real_max:rungOf 9218868437227405312<=M:=by decide
theorem real_min:rungOf 18442240474082181120<=M:=by decide
theorem idx_max:idx 9218868437227405312=M:=by decide
theorem idx_min:idx 18442240474082181120=-(M:Int):=by decide
theorem real_top:rungOf 9218868437227405311<=M:=by decide
theorem idx_top:idx 9218868437227405311=(M:Int) - 1:=by decide
theorem abs_any(b:Nat)(w:World)(hb:L64 b):Calls prog 117 #[.float .f64 b] w fun e w'=>e=.returned (.float .f64 (rungOf b))/\w=w':=by
 have h:=size_i hb;have hf:=fun W=>run_frombits (rungOf b) W
 go_enter func117,ntmps117
 go_wp2
 go_ret
 exact⟨rfl,rfl⟩
theorem isnanf(b:Nat)(w:World)(hr:rungOf b<=M):Calls prog 221 #[.float .f64 b] w fun e w'=>e=.returned (.bool false)/\w=w':=by
 have h:=ord_eq hr hr rfl
 go_enter func221,ntmps221
 go_wp2
 go_ret
 exact⟨rfl,rfl⟩
theorem rung_idx{b:Nat}(h:b<9223372036854775808):rungOf b=b/\idx b=(b:Int):=by
 have:=pat_cases (b:=b) (by omega)
 omega
theorem isinff(b:Nat)(w:World)(hb:L64 b)(hr:rungOf b<=M):Calls prog 161 #[.float .f64 b,.int .i64 0] w fun e w'=>e=.returned (.bool (decide (rungOf b=M)))/\w=w':=by
 have HA:=Hd (abs_any b w hb);have hM:M=9218868437227405312:=rfl
 obtain⟨r,hrr⟩:∃ r,rungOf b=r:=⟨_,rfl⟩
 rw [hrr] at HA hr ⊢;have h1:=rung_idx (b:=r) (by omega)
 by_cases h:r=M
 ·have ho:=ord_gt (a:=r) (b:=9218868437227405311) (by omega) real_top (by rw [h1.2,idx_top];omega);rw [decide_eq_true h];clear h1 h hrr hr hM
  go_enter func161,ntmps161
  go_wp2_with fail;refine HA.out.mono ?_;rintro e w' ⟨rfl,rfl⟩;go_wp2
  go_ret
  exact⟨rfl,rfl⟩
 ·have ho:FloatKind.f64.format.order r 9218868437227405311=some .lt\/FloatKind.f64.format.order r 9218868437227405311=some .eq:=by
   by_cases h2:r=M - 1
   ·exact .inr (ord_eq (by omega) real_top (by rw [h1.2,idx_top];omega))
   ·exact .inl (ord_lt (by omega) real_top (by rw [h1.2,idx_top];omega))
  rw [decide_eq_false h];clear h1 h hrr hr hM
  rcases ho with ho | ho
  all_goals
   go_enter func161,ntmps161
   go_wp2_with fail;refine HA.out.mono ?_;rintro e w' ⟨rfl,rfl⟩;go_wp2
   go_ret
   exact⟨rfl,rfl⟩
theorem rplain(b:Nat)(w:World)(hb:L64 b)(hr:rungOf b<=M):Calls prog 184 #[.float .f64 b] w fun e w'=>e=.returned (.float .f64 (pat (idx b)))/\w=w':=by
 have hp:=pl_real hb hr
 by_cases h:idx b=0
 ·have ho:=ord_eq hr real_zero (by rw [idx_zero];exact h);rw [h,pat_zero];clear hp h hr
  go_enter func184,ntmps184
  go_wp2
  go_ret
  exact⟨rfl,rfl⟩
 ·have ho:FloatKind.f64.format.order b 0=some .lt\/FloatKind.f64.format.order b 0=some .gt:=by
   rcases Int.lt_trichotomy (idx b) 0 with h1 | h1 | h1
   ·exact .inl (ord_lt hr real_zero (by rw [idx_zero];exact h1))
   ·exact absurd h1 h
   ·exact .inr (ord_gt hr real_zero (by rw [idx_zero];exact h1))
  have e:pat (idx b)=b:=by
   rw [<- hp];unfold pl;have:=pat_cases hb;rw [if_neg (by omega),if_neg (by omega)]
  rw [e];clear hp h hr e
  rcases ho with ho | ho
  all_goals
   go_enter func184,ntmps184
   go_wp2
   go_ret
   exact⟨rfl,rfl⟩
def NextTo(w:World)(k:Int)(e:Ending)(w':World):Prop:=∃ r,e=.returned (.float .f64 r)/\r<18446744073709551616/\rungOf r<=M/\idx r=k/\w=w'
theorem copy_pos(w:World):Calls prog 167 (Zv 1 9218868437227405312) w fun e w'=>e=.returned (.float .f64 1)/\w=w':=by
 have h1:bits .andNot .u64 (1:Int) 9223372036854775808=1:=by decide
 have h2:bits .and .u64 (9218868437227405312:Int) 9223372036854775808=0:=by decide
 have h3:bits .or .u64 (1:Int) 0=1:=by decide
 have f1:∀ W:World,(callFunc 73 #[.float .f64 1]).run prog W=.ok (.value (.int .u64 1)) W:=fun W=>run_bitsof 1 W;have f2:∀ W:World,(callFunc 73 #[.float .f64 9218868437227405312]).run prog W=.ok (.value (.int .u64 9218868437227405312)) W:=fun W=>run_bitsof 9218868437227405312 W;have f3:∀ W:World,(callFunc 74 #[.int .u64 1]).run prog W=.ok (.value (.float .f64 1)) W:=fun W=>run_frombits 1 W
 go_enter func167,ntmps167
 go_wp2
 go_ret
 exact⟨rfl,rfl⟩
theorem copy_neg(w:World):Calls prog 167 (Zv 1 18442240474082181120) w fun e w'=>e=.returned (.float .f64 9223372036854775809)/\w=w':=by
 have h1:bits .andNot .u64 (1:Int) 9223372036854775808=1:=by decide
 have h2:bits .and .u64 (18442240474082181120:Int) 9223372036854775808=9223372036854775808:=by decide
 have h3:bits .or .u64 (1:Int) 9223372036854775808=9223372036854775809:=by decide
 have f1:∀ W:World,(callFunc 73 #[.float .f64 1]).run prog W=.ok (.value (.int .u64 1)) W:=fun W=>run_bitsof 1 W;have f2:∀ W:World,(callFunc 73 #[.float .f64 18442240474082181120]).run prog W=.ok (.value (.int .u64 18442240474082181120)) W:=fun W=>run_bitsof 18442240474082181120 W;have f3:∀ W:World,(callFunc 74 #[.int .u64 9223372036854775809]).run prog W=.ok (.value (.float .f64 9223372036854775809)) W:=fun W=>run_frombits 9223372036854775809 W
 go_enter func167,ntmps167
 go_wp2
 go_ret
 exact⟨rfl,rfl⟩
end
section
open Go.RowKit Ieee
attribute [local go_sem] run_store_float run_frombits run_bitsof run_negf
theorem fsmall(w:World):Calls prog 243 #[] w fun e w'=>e=.returned (.bool false)/\w=w':=by
 have h1:floatOfInt .f64 16777216=4715268809856909312:=by kernel_rfl
 have h2:=fun W=>run_float_arith (P:=prog) W .add 26 .f64 4715268809856909312 4607182418800017408 4715268810125344768 (by kernel_rfl)
 have h3:FloatKind.f64.format.order 4715268810125344768 4715268809856909312=some .gt:=by kernel_rfl
 go_enter func243,ntmps243
 go_wp2
 go_ret
 exact⟨rfl,rfl⟩
theorem pattern_any(b:Nat)(w:World):Calls prog 218 #[.float .f64 b] w fun e w'=>e=.returned (.int .u64 (b:Int))/\w=w':=by
 have HS:=Hd fsmall;have ff:=fun W=>run_bitsof b W
 go_enter func218,ntmps218
 go_wp2_with fail;refine cy (HS.out _) ?_;go_wp2
 go_ret
 exact⟨rfl,rfl⟩
theorem format_any(w:World):Rt 217 #[] (.agg #[.int .i64 52,.int .i64 (-1074),.int .i64 971,.int .u64 9218868437227405312,.int .u64 9223372036854775808]) w:=by
 have HS:=Hd fsmall;have HB:=Hd (below_alloc w (.cells #[.int .i64 52,.int .i64 (-1074),.int .i64 971,.int .u64 9218868437227405312,.int .u64 9223372036854775808] 185))
 go_enter func217,ntmps217
 go_wp2_with fail;refine cy (HS.out _) ?_;go_wp2;refine bodyPost_ret (v:=.agg #[.int .i64 52,.int .i64 (-1074),.int .i64 971,.int .u64 9218868437227405312,.int .u64 9223372036854775808]) (by simp [results,results217,go_sem]) rfl ?_
 exact⟨rfl,HB.out⟩
def SplitTo(w:World)(neg:Bool)(S:Nat)(x:Int)(e:Ending)(w':World):Prop:=
 e=.returned (.tuple #[.bool neg,.int .u64 (S:Int),.int .i64 x,.bool true])/\Below w.heap.size w w'
set_option maxRecDepth 100000 in
theorem split_walk(b m e f S:Nat)(neg:Bool)(w:World)(hb:L64 b)(hm:rungOf b=m)(hm2:m<9218868437227405312)(he:m / 4503599627370496=e)(hff:m % 4503599627370496=f)(hn:(FloatKind.f64.format.order b 0 == some Ordering.lt)=neg)(hS:S=if e=0 then f else f+4503599627370496):
  Calls prog 168 #[.float .f64 b] w (SplitTo w neg S (if e=0 then -1074 else -1074+((e:Int) - 1))):=by
 have hsz:=size_i hb;rw [hm] at hsz;have m1:=mask52_u64 (x:=m) (by omega);rw [hff] at m1
 have m2:(m:Int) / 4503599627370496=(e:Int):=by omega
 have hf2:f<4503599627370496:=by omega
 have he2:e<2047:=by omega
 have hge:¬ (9218868437227405312:Int)<=(m:Int):=by omega
 have hor:=or_join' (i:=52) (x:=1) (y:=f) (by omega) (by omega) (by omega);rw [show ((1*2^52:Nat):Int)=4503599627370496 from rfl,show (f+1*2^52:Nat)=f+4503599627370496 from rfl] at hor;have HF0:=format_any
 obtain⟨I,hI⟩:∃ I:Int,I=9218868437227405312:=⟨_,rfl⟩
 rw [<- hI] at HF0 hge;have HF:=Hd HF0;clear hI HF0
 have HP:=Hd fun W=>(pattern_any b W).mono (R':=fun e w'=>e=.returned (.int .u64 (b:Int))/\w'=W) fun _ _ h=>⟨h.1,h.2.symm⟩
 obtain⟨bi,hbi⟩:∃ z:Int,z=(b:Int):=⟨_,rfl⟩
 rw [<- hbi] at hsz HP;clear hff he hb hm hbi hm2
 by_cases h0:e=0
 ·subst h0;rw [if_pos rfl] at hS ⊢;subst hS;rw [show ((0:Nat):Int)=0 from rfl] at m2;clear hor he2
  go_enter func168,ntmps168
  go_wp2_with fail;refine (HF.out _).mono ?_;rintro e' w1 ⟨rfl,hb1⟩;have LB1:=Hd (hb1.alloc hb1.size (.cells #[.int .i64 52,.int .i64 (-1074),.int .i64 971,.int .u64 I,.int .u64 9223372036854775808] 185));clear hb1 HF;go_wp2_with fail
  go_quiet ((first | (go_at_call 218;exact Calls.quiet_of_same (HP.out _))))
  have LB2:=Hd (below_drewN LB1.out nq);have BK2:=Hd ((Blk.new w1 185 #[.int .i64 52,.int .i64 (-1074),.int .i64 971,.int .u64 I,.int .u64 9223372036854775808]).drewN nq)
  obtain⟨g,hg⟩:∃ g,w1.heap.size=g:=⟨_,rfl⟩
  rw [hg] at BK2
  obtain⟨W2,hW2⟩:∃ W,(w1.alloc (.cells #[.int .i64 52,.int .i64 (-1074),.int .i64 971,.int .u64 I,.int .u64 9223372036854775808] 185)).drewN nq=W:=⟨_,rfl⟩
  rw [hW2] at LB2 BK2;rw [hg,hW2];clear hg hW2 LB1 HP hsz;have q0:=BK2.out.cell 0;have q1:=BK2.out.cell 1;have q3:=BK2.out.cell 3
  simp at q0 q1 q3
  go_wp2_with fail
  go_quiet (fail)
  obtain⟨nr,hnr⟩:∃ n,nq=n:=⟨_,rfl⟩
  clear q0 q1 q3 m1;have LB3:=Hd (below_drewN LB2.out nq);have BK3:=Hd (BK2.out.drewN nq)
  obtain⟨W3,hW3⟩:∃ W,W2.drewN nq=W:=⟨_,rfl⟩
  rw [hW3] at LB3 BK3;rw [hW3];clear hW3 LB2 BK2 hnr;have q0:=BK3.out.cell 0
  simp at q0
  go_wp2;refine bodyPost_ret (v:=.tuple #[.bool neg,.int .u64 (S:Int),.int .i64 (-1074),.bool true]) (by simp [results,results168,go_sem]) rfl ?_
  exact⟨rfl,LB3.out⟩
 ·rw [if_neg h0] at hS ⊢
  obtain⟨S',hS'⟩:∃ z,f+4503599627370496=z:=⟨_,rfl⟩
  rw [hS'] at hS hor;subst hS
  have hei:(0:Int)<(e:Int):=by omega
  clear h0 hS'
  go_enter func168,ntmps168
  go_wp2_with fail;refine (HF.out _).mono ?_;rintro e' w1 ⟨rfl,hb1⟩;have LB1:=Hd (hb1.alloc hb1.size (.cells #[.int .i64 52,.int .i64 (-1074),.int .i64 971,.int .u64 I,.int .u64 9223372036854775808] 185));clear hb1 HF;go_wp2_with fail
  go_quiet ((first | (go_at_call 218;exact Calls.quiet_of_same (HP.out _))))
  have LB2:=Hd (below_drewN LB1.out nq);have BK2:=Hd ((Blk.new w1 185 #[.int .i64 52,.int .i64 (-1074),.int .i64 971,.int .u64 I,.int .u64 9223372036854775808]).drewN nq)
  obtain⟨g,hg⟩:∃ g,w1.heap.size=g:=⟨_,rfl⟩
  rw [hg] at BK2
  obtain⟨W2,hW2⟩:∃ W,(w1.alloc (.cells #[.int .i64 52,.int .i64 (-1074),.int .i64 971,.int .u64 I,.int .u64 9223372036854775808] 185)).drewN nq=W:=⟨_,rfl⟩
  rw [hW2] at LB2 BK2;rw [hg,hW2];clear hg hW2 LB1 HP hsz;have q0:=BK2.out.cell 0;have q1:=BK2.out.cell 1;have q3:=BK2.out.cell 3
  simp at q0 q1 q3
  go_wp2_with fail
  go_quiet (fail)
  obtain⟨nr,hnr⟩:∃ n,nq=n:=⟨_,rfl⟩
  clear q0 q1 q3 m1;have LB3:=Hd (below_drewN LB2.out nq);have BK3:=Hd (BK2.out.drewN nq)
  obtain⟨W3,hW3⟩:∃ W,W2.drewN nq=W:=⟨_,rfl⟩
  rw [hW3] at LB3 BK3;rw [hW3];clear hW3 LB2 BK2 hnr;have q0:=BK3.out.cell 0
  simp at q0
  go_wp2;refine bodyPost_ret (v:=.tuple #[.bool neg,.int .u64 (S:Int),.int .i64 (-1074+((e:Int) - 1)),.bool true]) (by simp [results,results168,go_sem]) rfl ?_
  exact⟨rfl,LB3.out⟩
theorem split_any(b:Nat)(hb:L64 b)(hf:fin b):∃ (S:Nat) (x:Int),S<9007199254740992/\-1074<=x/\x<=971/\fl (idx b)=rv (decide (idx b<0)) S 1*2^x/\∀ w,Calls prog 168 #[.float .f64 b] w (SplitTo w (decide (idx b<0)) S x):=by
 have hr:rungOf b<=M:=Nat.le_of_lt hf;have hM:M=9218868437227405312:=rfl;have hm2:rungOf b<9218868437227405312:=hf;have hp:=fl_parts (b:=b) hf rfl rfl rfl;have hc:=pat_cases hb
 have e1:rungOf b / 4503599627370496=b / 4503599627370496 % 2048:=by omega
 have e2:rungOf b % 4503599627370496=b % 4503599627370496:=by omega
 have hn:(FloatKind.f64.format.order b 0 == some Ordering.lt)=decide (idx b<0):=by
  rcases Int.lt_trichotomy (idx b) 0 with h | h | h
  ·rw [ord_lt hr real_zero (by rw [idx_zero];exact h),decide_eq_true h];rfl
  ·rw [ord_eq hr real_zero (by rw [idx_zero];exact h),decide_eq_false (by omega)];rfl
  ·rw [ord_gt hr real_zero (by rw [idx_zero];exact h),decide_eq_false (by omega)];rfl
 refine⟨_,_,?_,?_,?_,?_,fun w=>split_walk b _ _ _ _ _ w hb rfl hm2 e1 e2 hn rfl⟩
 ·split<;>omega
 ·split<;>omega
 ·split<;>omega
 ·have hs:∀ (S:Nat) (x:Int),(S=0\/sgn b=decide (idx b<0))->rv (sgn b) S 1*2^x=rv (decide (idx b<0)) S 1*2^x:=by
   rintro S x (rfl | h)
   ·rw [rv_zero,rv_zero]
   ·rw [h]
  have hsd:rungOf b=0\/sgn b=decide (idx b<0):=by
   rcases hc with ⟨a,h1,h2,h3⟩ | ⟨a,h1,h2,h3⟩
   ·right;rw [h2,decide_eq_false (by omega)]
   ·by_cases h0:rungOf b=0
    ·exact .inl h0
    ·right;rw [h2,decide_eq_true (by omega)]
  by_cases h0:b / 4503599627370496 % 2048=0
  ·rw [if_pos h0,if_pos h0,<- hs _ _ (hsd.imp (fun h=>by omega) id)];have:=hp.2.2.2 h0;rw [this,h0];rfl
  ·rw [if_neg h0,if_neg h0,<- hs _ _ (hsd.imp (fun h=>by omega) id)];rw [hp.2.2.1 (by omega)]
   congr 2;omega
end
theorem nwords_any(A:Option Addr)(n c:Nat)(xs:List Nat)(w:World)(h:U32s w A n c xs):
  Calls prog 203 #[.slice A n c] w fun e w'=>e=.returned (.int .i64 (wlen xs))/\w=w':=by
 have hn:=h.small;have H:=Hd h;clear h
 go_enter func203,ntmps203
 go_wp2
 go_loop [3] (fun v=>∃ k:Nat,k<=n/\v=.int .i64 k/\∀ j:Nat,k<=j->xs[j]?.getD 0=0) (fun v=>(intOf v).toNat)
 case atStart=>exact⟨n,by omega,rfl,fun j hj=>by
  have:=H.out.len
  rw [List.getElem?_eq_none (by omega)];rfl⟩
 case round=>
  obtain⟨k,hk,rfl,hz⟩:=hrel;have Hz:=Hd hz;clear hz
  rcases Nat.eq_zero_or_pos k with h0 | h0
  ·subst h0;go_wp2
   go_ret
   exact⟨by have:=wlen_of (l:=xs) (Nat.zero_le _) Hz.out (.inl rfl);rw [this];rfl,rfl⟩
  ·obtain⟨ad,rfl,hc⟩:=H.out.cell (j:=k - 1) (by omega);go_wp2
   ·have ht:((xs[k - 1]?.getD 0:Nat):Int)=0:=by simpa using ‹(((xs[k - 1]?.getD 0:Nat):Int) == 0)=true›
    go_round
    case rel=>
     refine⟨k - 1,by omega,by go_num,fun j hj=>?_⟩
     rcases Nat.lt_or_ge j k with h1 | h1
     ·obtain rfl:j=k - 1:=by omega
      omega
     ·exact Hz.out j h1
    case measure=>simp [intOf];omega
   ·have ht:¬ ((xs[k - 1]?.getD 0:Nat):Int)=0:=by simpa using ‹(((xs[k - 1]?.getD 0:Nat):Int) == 0)=false›
    go_ret
    exact⟨by have:=wlen_of (l:=xs) (n:=k) (by rw [H.out.len];omega) Hz.out (.inr (by omega));rw [this];rfl,rfl⟩
theorem cut_any(A:Option Addr)(n c:Nat)(xs:List Nat)(w:World)(h:U32s w A n c xs):
  Calls prog 219 #[.slice A n c] w fun e w'=>e=.returned (.slice A (wlen xs) (wlen xs))/\w=w':=by
 have HW:=Hd (nwords_any A n c xs w h);have hn:=h.small;have hc:=h.cap;have hl:=wlen_le xs;rw [h.len] at hl;clear h
 go_enter func219,ntmps219
 go_wp2_with fail;refine HW.out.mono ?_;rintro e w' ⟨rfl,rfl⟩;go_wp2_with fail;refine HW.out.mono ?_;rintro e w' ⟨rfl,rfl⟩;go_wp2
 go_ret
 exact⟨rfl,rfl⟩
theorem long_one(g:Nat)(A:Option Addr)(n c:Nat)(xs:List Nat)(w:World)(h0:U32s w A n c xs)(c0:w.cell? ⟨g,0,none⟩=some (.slice A n c))(l0:wlen xs<=16384):
  Calls prog 212 #[.slice (some ⟨g,0,none⟩) 1 1] w fun e w'=>e=.returned (.bool false)/\w=w':=by
 have W0:=Hd (nwords_any A n c xs w h0)
 obtain⟨p0,e0⟩:∃ p,wlen xs=p:=⟨_,rfl⟩
 rw [e0] at W0 l0;clear h0 e0
 go_enter func212,ntmps212
 go_wp2
 go_loop [4,7] (fun _ v=>∃ k:Nat,k<=1/\v=.int .i64 k) (fun _ v=>1 - (intOf v).toNat)
 case atStart=>exact⟨0,by omega,rfl⟩
 case round=>
  obtain⟨k,hk,rfl⟩:=hrel
  match k,hk with
  | 0,_=>
   go_wp2_with fail;refine W0.out.mono ?_;rintro e w' ⟨rfl,rfl⟩;go_wp2
   go_round
   case rel=>exact⟨1,by omega,rfl⟩
   case measure=>simp [intOf]
  | 1,_=>
   go_wp2
   go_ret
   exact⟨rfl,rfl⟩
theorem long_two(g:Nat)(A:Option Addr)(n c:Nat)(xs:List Nat)(B:Option Addr)(m d:Nat)(ys:List Nat)(w:World)(h0:U32s w A n c xs)(c0:w.cell? ⟨g,0,none⟩=some (.slice A n c))(l0:wlen xs<=16384)(h1:U32s w B m d ys)(c1:w.cell? ⟨g,1,none⟩=some (.slice B m d))(l1:wlen ys<=16384):
  Calls prog 212 #[.slice (some ⟨g,0,none⟩) 2 2] w fun e w'=>e=.returned (.bool false)/\w=w':=by
 have W0:=Hd (nwords_any A n c xs w h0)
 obtain⟨p0,e0⟩:∃ p,wlen xs=p:=⟨_,rfl⟩
 rw [e0] at W0 l0;clear h0 e0;have W1:=Hd (nwords_any B m d ys w h1)
 obtain⟨p1,e1⟩:∃ p,wlen ys=p:=⟨_,rfl⟩
 rw [e1] at W1 l1;clear h1 e1
 go_enter func212,ntmps212
 go_wp2
 go_loop [4,7] (fun _ v=>∃ k:Nat,k<=2/\v=.int .i64 k) (fun _ v=>2 - (intOf v).toNat)
 case atStart=>exact⟨0,by omega,rfl⟩
 case round=>
  obtain⟨k,hk,rfl⟩:=hrel
  match k,hk with
  | 0,_=>
   go_wp2_with fail;refine W0.out.mono ?_;rintro e w' ⟨rfl,rfl⟩;go_wp2
   go_round
   case rel=>exact⟨1,by omega,rfl⟩
   case measure=>simp [intOf]
  | 1,_=>
   go_wp2_with fail;refine W1.out.mono ?_;rintro e w' ⟨rfl,rfl⟩;go_wp2
   go_round
   case rel=>exact⟨2,by omega,rfl⟩
   case measure=>simp [intOf]
  | 2,_=>
   go_wp2
   go_ret
   exact⟨rfl,rfl⟩
theorem U32s.cutd{w:World}{A:Option Addr}{n c:Nat}{xs:List Nat}(h:U32s w A n c xs):U32s w A (wlen xs) (wlen xs) (digs (num xs)):=by
 have h1:=h.take (k:=wlen xs) (by have:=wlen_le xs;rw [h.len] at this;exact this);rw [<- trim_eq_take,trim_eq_digs h.w32] at h1
 exact h1.recap (Nat.le_refl _)
theorem wlen_lt{xs:List Nat}{K:Nat}(hw:W32 xs)(h:num xs<2^(32*K)):wlen xs<=K:=by
 have:=digs_length_le h
 rwa [<- trim_eq_digs hw] at this
theorem fit_any(A:Option Addr)(n c:Nat)(xs:List Nat)(w:World)(h:U32s w A n c xs)(hl:wlen xs<=16384):
  Calls prog 214 #[.slice A n c] w fun e w'=>e=.returned (.tuple #[.slice A (wlen xs) (wlen xs),.int .i64 0])/\w=w':=by
 have HC:=Hd (cut_any A n c xs w h);clear h
 obtain⟨p,e⟩:∃ p,wlen xs=p:=⟨_,rfl⟩
 rw [e] at HC hl ⊢;clear e
 go_enter func214,ntmps214
 go_wp2_with fail;refine HC.out.mono ?_;rintro e w' ⟨rfl,rfl⟩;go_wp2
 go_ret2
 exact⟨rfl,rfl⟩
def NewArr(w:World)(xs:List Nat)(e:Ending)(w':World):Prop:=
 ∃ g n,e=.returned (.slice (some ⟨g,0,none⟩) n n)/\xs.length=n/\Arr w' g xs/\w.heap.size<=g/\Below w.heap.size w w'
theorem nnorm_any(A:Option Addr)(n c:Nat)(xs:List Nat)(w:World)(h:U32s w A n c xs):
  Calls prog 215 #[.slice A n c] w (NewArr w (digs (num xs))):=by
 have HW:=Hd (nwords_any A n c xs w h);have HX:=Hd h;have hn:=h.small;have hl:=wlen_le xs;rw [h.len] at hl;have ht:=trim_eq_take xs;rw [trim_eq_digs h.w32] at ht
 obtain⟨k,e⟩:∃ p,wlen xs=p:=⟨_,rfl⟩
 rw [e] at HW hl ht;rw [ht];clear h e ht;have hmk:=fun W=>make_u32 (N:=(k:Int)) (n:=k) rfl (by omega) W;have hmk0:=fun W=>make_u32 (N:=0) (n:=0) rfl (by omega) W
 go_enter func215,ntmps215
 go_wp2_with fail;refine HW.out.mono ?_;rintro e w' ⟨rfl,rfl⟩
 rcases Nat.eq_zero_or_pos k with h0 | h0
 ·subst h0
  go_wp2_with (with_reducible refine wpList_copy_nothing rfl (.tmp 7) (.tmp 8) 40 40 rfl 117 Tryz.underlying40 (by kernel_rfl) _ _ _ _ _ _ rfl rfl (by simp) ?_)
  go_wp2
  go_ret
  exact⟨_,0,rfl,by simp,Arr.zeros w 0,Nat.le_refl _,below_alloc _ _⟩
 ·obtain⟨ad,rfl,hlt,hc⟩:=HX.out.at_ (by omega)
  have hlen:(xs.take k).length=k:=by rw [List.length_take,HX.out.len];omega
  obtain⟨ys,hys⟩:∃ ys,xs.take k=ys:=⟨_,rfl⟩
  rw [hys] at hlen ⊢
  have hcs:∀ j u,(ys.map wd)[j]?=some u->(w.alloc (.cells (Array.replicate k (wd 0)) 117)).cell? (ad.add j)=some u:=by
   intro j u hu;rw [List.getElem?_map] at hu
   have hj:j<ys.length:=by
    by_cases hj:j<ys.length
    ·exact hj
    ·rw [List.getElem?_eq_none (by omega)] at hu;simp at hu
   have hU:=HX.out.alloc (.cells (Array.replicate k (wd 0)) 117);have h1:=hU.cellAt (j:=j) (by omega);rw [h1];rw [<- hys,List.getElem?_take_of_lt (by omega)] at hu
   have h2:j<xs.length:=by rw [HX.out.len];omega
   rw [List.getElem?_eq_getElem h2] at hu ⊢
   simpa using hu
  have HCS:=Hd hcs;have HA:=Hd (Arr.zeros w k);clear hc hcs
  go_wp2_with (with_reducible refine wpList_copy_own rfl (.tmp 7) (.tmp 8) 40 40 rfl 117 Tryz.underlying40 (by kernel_rfl) w.heap.size 0 k k ad n c rfl rfl (Array.replicate k (wd 0)) 117 ?c1 (ys.map wd) ?c2 HCS.out ?c3 ?c4 ?_)
  case c1=>have:=HA.out;unfold Arr at this;simpa using this
  case c2=>rw [List.length_map,hlen];exact (Nat.min_eq_right hl).symm
  case c3=>simp [hlen]
  case c4=>intro u hu;simp at hu;obtain⟨_,_,rfl⟩:=hu;rfl
  have HR:=Hd (show Arr ((w.alloc (.cells (Array.replicate k (wd 0)) 117)).setRow w.heap.size (ys.map wd).toArray) w.heap.size ys from by
   have h1:=HA.out;unfold Arr at h1 ⊢
   rw [setRow_heap _ _ _ _ _ _ h1])
  have HB:=Hd (below_setRow (below_alloc w (.cells (Array.replicate k (wd 0)) 117)) (Nat.le_refl _) (ys.map wd).toArray);have HY:=Hd hys;clear hys HA HCS;go_wp2
  go_ret
  exact⟨_,k,rfl,by rw [HY.out];exact hlen,by rw [HY.out];exact HR.out,Nat.le_refl _,HB.out⟩
theorem ncmp_any(A B:Option Addr)(n c m d:Nat)(xs ys:List Nat)(w:World)(hx:U32s w A n c xs)(hy:U32s w B m d ys):
  Calls prog 142 #[.slice A n c,.slice B m d] w (QuietRet w (.int .i64 (cmp3 (num xs) (num ys)))):=by
 have HX:=Hd hx;have HY:=Hd hy;have n1:=hx.small;have n2:=hy.small;have l1:=wlen_le xs;have l2:=wlen_le ys;rw [hx.len] at l1;rw [hy.len] at l2;have W1:=Hd (nwords_any A n c xs w hx);have W2:=Hd (nwords_any B m d ys w hy);clear hx hy
 obtain⟨p,hp⟩:∃ p,wlen xs=p:=⟨_,rfl⟩
 obtain⟨q,hq⟩:∃ p,wlen ys=p:=⟨_,rfl⟩
 rw [hp] at W1 l1;rw [hq] at W2 l2;have HP:=Hd hp;have HQ:=Hd hq;clear hp hq
 go_enter func142,ntmps142
 go_wp2_with fail;refine W1.out.mono ?_;rintro e w' ⟨rfl,rfl⟩;go_wp2_with fail;refine W2.out.mono ?_;rintro e w' ⟨rfl,rfl⟩
 rcases Nat.lt_trichotomy p q with hl | hl | hl
 ·go_wp2
  go_ret
  exact⟨by rw [cmp3_lt (num_lt_of_wlen HX.out.w32 (by rw [HP.out,HQ.out];exact hl))];rfl,0,rfl⟩
 ·subst hl;go_wp2
  go_loopw [7,8,9,21] (fun _ _ _ v wr=>∃ i:Nat,i<=p/\v=.int .i64 (i:Int)/\(∀ j:Nat,p - i<=j->xs[j]?.getD 0=ys[j]?.getD 0)/\∃ z,wr=w.drewN z) (fun _ _ _ v _=>p - (intOf v).toNat)
  case atStart=>exact⟨0,by omega,rfl,fun j hj=>by rw [(wlen_spec xs).1 j (by rw [HP.out];exact hj),(wlen_spec ys).1 j (by rw [HQ.out];exact hj)],0,rfl⟩
  case round=>
   obtain⟨i,hi,rfl,hz,z,rfl⟩:=hrel;have Hz:=Hd hz;clear hz
   by_cases h0:i=p
   ·subst h0;go_wp2
    go_ret
    exact⟨by rw [cmp3_eq (num_ext fun j=>Hz.out j (by omega))];rfl,z,rfl⟩
   ·obtain⟨j,hj⟩:∃ j,p=i+1+j:=⟨p - i - 1,by omega⟩
    obtain⟨ad,rfl,hc⟩:=HX.out.cell (j:=j) (by omega);obtain⟨ad',rfl,hc'⟩:=HY.out.cell (j:=j) (by omega)
    have e1:(p:Int) - 1 - (i:Int)=(j:Int):=by omega
    have hi1:(j:Int)<(n:Int):=by omega
    have hi2:(j:Int)<(m:Int):=by omega
    have hi3:(i:Int)<(p:Int):=by omega
    have HJ:=Hd hj;clear hj
    obtain⟨x,hx⟩:∃ x,xs[j]?.getD 0=x:=⟨_,rfl⟩
    obtain⟨y,hy⟩:∃ x,ys[j]?.getD 0=x:=⟨_,rfl⟩
    rw [hx] at hc;rw [hy] at hc';have HXX:=Hd hx;have HYY:=Hd hy;clear hx hy
    rcases Nat.lt_trichotomy x y with hl | hl | hl
    ·have hne:((x:Int) == (y:Int))=false:=by simp;omega
     go_wp2_with fail
     go_quiet (fail)
     go_wp2
     go_ret
     exact⟨by rw [cmp3_lt (num_lt_of HX.out.w32 j (fun k hk=>Hz.out k (by have:=HJ.out;omega)) (by rw [HXX.out,HYY.out];exact hl))];rfl,_,rfl⟩
    ·subst hl;go_wp2_with fail
     go_quiet (fail)
     go_wp2
     go_roundw
     case rel=>
      refine⟨i+1,by omega,by go_num,fun k hk=>?_,_,rfl⟩
      rcases Nat.lt_or_ge j k with h1 | h1
      ·exact Hz.out k (by have:=HJ.out;omega)
      ·obtain rfl:k=j:=by have:=HJ.out;omega
       rw [HXX.out,HYY.out]
     case measure=>simp [intOf];omega
    ·have hne:((x:Int) == (y:Int))=false:=by simp;omega
     go_wp2_with fail
     go_quiet (fail)
     go_wp2
     go_ret
     exact⟨by rw [cmp3_gt (num_lt_of HY.out.w32 j (fun k hk=>(Hz.out k (by have:=HJ.out;omega)).symm) (by rw [HXX.out,HYY.out];exact hl))];rfl,_,rfl⟩
 ·go_wp2
  go_ret
  exact⟨by rw [cmp3_gt (num_lt_of_wlen HY.out.w32 (by rw [HP.out,HQ.out];exact hl))];rfl,0,rfl⟩
theorem aux_blen:∀ (f x:Nat),x<2^f->Lib.bitLenAux f x=blen x
 | 0,x,h=>by
  obtain rfl:x=0:=by omega
  rfl
 | f+1,x,h=>by
  unfold Lib.bitLenAux
  by_cases h0:x=0
  ·subst h0;rfl
  ·have e:=blen_half (n:=x) (by omega);rw [if_neg h0,aux_blen f (x / 2) (by rw [Nat.pow_succ] at h;omega)];omega
theorem lib_blen(x:Nat)(h:x<4294967296):Lib.bitLen x=blen x:=aux_blen 64 x (by omega)
theorem tab_get(i:Nat)(h:i<Lib.len8tab.size):(Lib.len8tab[i]'h).toNat=blen i/\blen i<=8:=by
 have h1:i<256:=by rw [Lib.len8tab_size] at h;exact h
 have e:=Lib.len8_eq ⟨i,h1⟩;have l:=Lib.bitLen_le8 ⟨i,h1⟩
 simp only [Lib.len8,Int.toNat_natCast] at e
 rw [ByteArray.getElem?_lt' _ _ h,Option.getD_some,lib_blen i (by omega)] at e
 simp only [lib_blen i (by omega)] at l
 exact⟨by omega,l⟩
theorem blen_shift(x k:Nat)(h:0<x / 2^k):blen x=k+blen (x / 2^k):=by
 have h1:=blen_high (hi:=x / 2^k) (lo:=x % 2^k) (k:=k) h (Nat.mod_lt _ (Nat.two_pow_pos k))
 rwa [Nat.mod_add_div] at h1
set_option maxRecDepth 100000 in
theorem len32_int(x:Int)(w:World)(h0:0<=x)(h1:x<=4294967295):
  Calls prog 257 #[.int .u32 x] w fun e w'=>e=.returned (.int .i64 (blen x.toNat:Int))/\w=w':=by
 have hs:=Lib.len8tab_size
 go_enter func257,ntmps257
 go_wp2
 all_goals (go_ret;refine⟨congrArg Ending.returned (congrArg (Value.int IntKind.i64) ?_),rfl⟩)
 ·obtain⟨e,l⟩:=tab_get (x / 65536 / 256).toNat (by omega);have s:=blen_shift x.toNat 24 (by omega);rw [show x.toNat / 2^24=(x / 65536 / 256).toNat from by omega] at s;rw [e,wrap64,wrap64];omega
 ·obtain⟨e,l⟩:=tab_get (x / 65536).toNat (by omega);have s:=blen_shift x.toNat 16 (by omega);rw [show x.toNat / 2^16=(x / 65536).toNat from by omega] at s;rw [e,wrap64,wrap64];omega
 ·obtain⟨e,l⟩:=tab_get (x / 256).toNat (by omega);have s:=blen_shift x.toNat 8 (by omega);rw [show x.toNat / 2^8=(x / 256).toNat from by omega] at s;rw [e,wrap64,wrap64];omega
 ·obtain⟨e,l⟩:=tab_get x.toNat (by omega);rw [e,wrap64,wrap64];omega
theorem len32_any(x:Nat)(w:World)(hx:x<4294967296):
  Calls prog 257 #[.int .u32 (x:Int)] w fun e w'=>e=.returned (.int .i64 (blen x:Int))/\w=w':=by
 have h:=len32_int (x:Int) w (by omega) (by omega);rw [Int.toNat_natCast] at h
 exact h
theorem nlen_any(A:Option Addr)(n c:Nat)(xs:List Nat)(w:World)(hx:U32s w A n c xs):
  Calls prog 232 #[.slice A n c] w fun e w'=>e=.returned (.int .i64 (blen (num xs):Int))/\w=w':=by
 have HW:=Hd (nwords_any A n c xs w hx);have HX:=Hd hx;have n1:=hx.small;have l1:=wlen_le xs;rw [hx.len] at l1;clear hx
 rcases Nat.eq_zero_or_pos (wlen xs) with h0 | h0
 ·have e0:blen (num xs)=0:=by rw [wlen_eq_zero.1 h0];rfl
  rw [e0];rw [h0] at HW
  go_enter func232,ntmps232
  go_wp2_with fail;refine HW.out.mono ?_;rintro e w' ⟨rfl,rfl⟩;go_wp2
  go_ret
  exact⟨rfl,rfl⟩
 ·have e0:=blen_num HX.out.w32 h0
  obtain⟨l,hl⟩:∃ l,wlen xs=l+1:=⟨wlen xs - 1,by omega⟩
  rw [hl,Nat.add_sub_cancel] at e0;rw [hl] at l1 HW;obtain⟨ad,rfl,hc⟩:=HX.out.cell (j:=l) (by omega);have hlt:=HX.out.lt l
  obtain⟨t,ht⟩:∃ t,xs[l]?.getD 0=t:=⟨_,rfl⟩
  rw [ht] at hc hlt e0;rw [e0];have HT:=Hd fun W=>len32_any t W hlt;have b0:blen t<=32:=blen_le_iff.2 (by omega)
  obtain⟨b,hb⟩:∃ b,blen t=b:=⟨_,rfl⟩
  rw [hb] at HT b0 ⊢;clear hl h0 ht e0 hb
  have hq:(((l+1:Nat):Int) == 0)=false:=by simp;omega
  have e1:((l+1:Nat):Int) - 1=(l:Int):=by omega
  have e2:(l:Int)<(n:Int):=by omega
  obtain⟨z,hz⟩:∃ z:Int,((l+1:Nat):Int)=z:=⟨_,rfl⟩
  rw [hz] at HW hq e1;clear hz
  go_enter func232,ntmps232
  go_wp2_with fail;refine HW.out.mono ?_;rintro e w' ⟨rfl,rfl⟩;go_wp2_with fail;refine cy (HT.out _) ?_;go_wp2
  go_ret
  exact⟨by first | rfl | (congr 2;omega),rfl⟩
theorem nword_any(A:Option Addr)(n c:Nat)(xs:List Nat)(w:World)(hx:U32s w A n c xs)(hv:wlen xs<=2):
  Calls prog 255 #[.slice A n c] w (QuietRet w (.tuple #[.int .u64 (num xs:Int),.bool true])):=by
 have HW:=Hd (nwords_any A n c xs w hx);have HX:=Hd hx;have n1:=hx.small;have l1:=wlen_le xs;rw [hx.len] at l1;have ht:=num_trim xs;rw [trim_eq_take] at ht;clear hx
 rcases show wlen xs=0\/wlen xs=1\/wlen xs=2 by omega with h | h | h
 ·rw [h] at HW ht;rw [<- ht]
  go_enter func255,ntmps255
  go_wp2_with fail;refine HW.out.mono ?_;rintro e w' ⟨rfl,rfl⟩;go_wp2
  go_ret2
  exact⟨by simp [num],0,rfl⟩
 ·rw [h] at HW ht l1;rw [show (1:Nat)=0+1 from rfl,num_take_next] at ht
  simp only [List.take_zero,num_nil,Nat.mul_zero,Nat.pow_zero,Nat.one_mul,Nat.zero_add] at ht
  obtain⟨ad,rfl,hc⟩:=HX.out.cell (j:=0) (by omega);have hlt:=HX.out.lt 0;rw [ht] at hc hlt
  obtain⟨v,hv⟩:∃ v,num xs=v:=⟨_,rfl⟩
  rw [hv] at hc hlt ⊢
  have e0:ad.add 0=ad:=by simp [Addr.add]
  rw [e0] at hc
  have e2:(0:Int)<(n:Int):=by omega
  clear ht hv h
  go_enter func255,ntmps255
  go_wp2_with fail;refine HW.out.mono ?_;rintro e w' ⟨rfl,rfl⟩;go_wp2
  go_ret2
  exact⟨rfl,0,rfl⟩
 ·rw [h] at HW ht l1;rw [show (2:Nat)=(0+1)+1 from rfl,num_take_next,num_take_next] at ht
  simp only [List.take_zero,num_nil,Nat.mul_zero,Nat.pow_zero,Nat.one_mul,Nat.zero_add,Nat.mul_one] at ht
  obtain⟨ad,rfl,hc⟩:=HX.out.cell (j:=0) (by omega);have hc1:=HX.out.cellAt (j:=1) (by omega);have hlt:=HX.out.lt 0;have hlt1:=HX.out.lt 1
  obtain⟨x,hx⟩:∃ v,xs[0]?.getD 0=v:=⟨_,rfl⟩
  obtain⟨y,hy⟩:∃ v,xs[1]?.getD 0=v:=⟨_,rfl⟩
  rw [hx] at hc hlt ht;rw [hy] at hc1 hlt1 ht
  have hc2:w.cell? ⟨ad.block,ad.off+1,none⟩=some (wd y):=by simpa [Addr.add] using hc1
  have e0:ad.add 0=ad:=by simp [Addr.add]
  rw [e0] at hc
  have e2:(0:Int)<(n:Int):=by omega
  have e3:(1:Int)<(n:Int):=by omega
  have eo:=or_join (i:=32) (x:=y) (y:=x) (by omega) (by omega) (by omega);rw [show (2:Nat)^32=4294967296 from rfl] at eo ht;rw [show ((y*4294967296:Nat):Int)=(y:Int)*4294967296 from by omega] at eo;rw [<- ht];clear ht hx hy h
  go_enter func255,ntmps255
  go_wp2_with fail;refine HW.out.mono ?_;rintro e w' ⟨rfl,rfl⟩;go_wp2_with fail
  go_quiet (fail)
  go_wp2
  go_ret2
  refine⟨?_,_,rfl⟩
  show Ending.returned (.tuple #[.int .u64 ((y:Int)*4294967296+(x:Int)),.bool true])=_
  rw [show (y:Int)*4294967296+(x:Int)=((x+4294967296*y:Nat):Int) from by omega]
theorem digs_two{v:Nat}(h:L64 v):num [v % 4294967296,v / 4294967296]=v:=by
 simp [num];omega
theorem nsmall_any(v:Nat)(w:World)(hv:L64 v):
  Calls prog 169 #[.int .u64 (v:Int)] w (NewU32 w (digs v)):=by
 have HU:=Hd (U32s.lit2 w 117 (a:=v % 4294967296) (b:=v / 4294967296) (by omega) (by omega));have HC:=Hd (cut_any _ _ _ _ _ HU.out);have HD:=Hd HU.out.cutd;rw [digs_two hv] at HD
 obtain⟨k,hk⟩:∃ k,wlen [v % 4294967296,v / 4294967296]=k:=⟨_,rfl⟩
 rw [hk] at HC HD;clear hk HU
 go_enter func169,ntmps169
 go_wp2_with fail;rw [show (v:Int) % 4294967296=((v % 4294967296:Nat):Int) from by omega,show (v:Int) / 4294967296=((v / 4294967296:Nat):Int) from by omega];refine HC.out.mono ?_;rintro e w' ⟨rfl,rfl⟩;go_wp2
 go_ret
 exact⟨_,k,k,rfl,HD.out,below_alloc _ _⟩
end Go.Proofs.YthlmlmfebpjgdaaGreatDoor
