/-
Lemmas for the statement: PartT RootT.
-/
import Derived.Test.YthlmlmfebpjgdaaGreatDoorM03
import Derived.Test.YthlmlmfebpjgdaaGreatDoorM20
import Derived.Test.YthlmlmfebpjgdaaGreatDoorM04
import Derived.Test.YthlmlmfebpjgdaaGreatDoorM11
import Derived.Test.YthlmlmfebpjgdaaGreatDoorPWholeT
import Derived.Test.YthlmlmfebpjgdaaGreatDoorM09
import Derived.Test.YthlmlmfebpjgdaaGreatDoorM10
import Derived.Deep.DeepCutAuto
set_option linter.unusedSimpArgs false
set_option linter.unusedVariables false
set_option maxHeartbeats 12800000
namespace Go.Proofs.YthlmlmfebpjgdaaGreatDoor
section
open Go.RowKit
attribute [local go_sem] run_store_float run_frombits run_bitsof run_negf
def NewDy(w:World)(neg:Bool)(S:Nat)(x:Int)(e:Ending)(w':World):Prop:=
 ∃ A n c,e=.returned (.agg #[.bool neg,.slice A n c,.int .i64 x])∧U32s w' A n c (digs S)∧Below w.heap.size w w'
theorem part_walk(b e f S:Nat)(neg:Bool)(w:World)(hb:b<18446744073709551616)(he:b / 4503599627370496 % 2048=e)(hff:b % 4503599627370496=f)(hn:(b / 9223372036854775808 == 1)=neg)(hS:S=if e=0 then f else f+4503599627370496):
  Calls Tryz.prog 189 #[.float .f64 b] w (NewDy w neg S ((if e=0 then (e:Int) else (e:Int) - 1) - 1074)):=by
 have m1:=mask52_u64 hb;rw [hff] at m1
 have m2:bits .and .u64 ((b:Int) / 4503599627370496) 2047=(e:Int):=by
  have h:=mask11_u64 (x:=b / 4503599627370496) (by omega);rw [he,show ((b / 4503599627370496:Nat):Int)=(b:Int) / 4503599627370496 from by omega] at h
  exact h
 have m3:((b:Int) / 9223372036854775808 == 1)=neg:=by
  rw [← hn,Bool.eq_iff_iff]
  simp only [beq_iff_eq]
  omega
 have ff:=fun W=>run_bitsof b W
 have hf2:f<4503599627370496:=by omega
 have he2:e<2048:=by omega
 have hor:=or_join' (i:=52) (x:=1) (y:=f) (by omega) (by omega) (by omega);rw [show ((1*2^52:Nat):Int)=4503599627370496 from rfl,show (f+1*2^52:Nat)=f+4503599627370496 from rfl] at hor;clear hff hn he
 by_cases h0:e=0
 ·subst h0;rw [if_pos rfl] at hS ⊢;subst hS;have HS:=Hd fun W=>nsmall_any S W (by omega);clear hor;obtain⟨LB0,LR⟩:=bx1 w #[.bool false,.slice none 0 0,.int .i64 0] 168;have LR0:=Hd (HasBlk.of (n:=3) LR.out rfl rfl);clear LR
  go_enter Tryz.func189,Tryz.ntmps189
  go_wp2_with fail;refine (HS.out _).mono ?_;rintro e w1 ⟨A,n,c,rfl,hu,hb1⟩;have LB1:=stB LB0 hb1 LB0.out.size;have LR1:=stR LR0 hb1;clear LB0 LR0;obtain⟨ha0,hf0,ha1,hf1,ha2,hf2⟩:=LR1.out.sf3;obtain⟨hk0,hk1,hk2⟩:=LR1.out.sc3 (.bool neg) (.slice A n c) (.int .i64 (-1074));have F:=Hd (below_sets (w0:=w) (r:=w.heap.size) (by omega) [.bool neg,.slice A n c,.int .i64 (-1074)] 0 _ LB1.out)
  simp [sets] at hk0 hk1 hk2
  have FU:=Hd (LR1.out.u32s hu [.bool neg,.slice A n c,.int .i64 (-1074)]);clear hu hb1 HS;go_wp2;refine bodyPost_ret (v:=.agg #[.bool neg,.slice A n c,.int .i64 (-1074)]) (by simp [results,Tryz.results189,go_sem,hk0,hk1,hk2]) rfl ?_
  exact⟨A,n,c,rfl,FU.out,F.out⟩
 ·rw [if_neg h0] at hS ⊢;subst hS;have HS:=Hd fun W=>nsmall_any (f+4503599627370496) W (by omega)
  obtain⟨S,hS⟩:∃ S,f+4503599627370496=S:=⟨_,rfl⟩
  rw [hS] at HS hor ⊢
  have hei:(0:Int)<(e:Int):=by omega
  clear h0 hS;obtain⟨LB0,LR⟩:=bx1 w #[.bool false,.slice none 0 0,.int .i64 0] 168;have LR0:=Hd (HasBlk.of (n:=3) LR.out rfl rfl);clear LR
  go_enter Tryz.func189,Tryz.ntmps189
  go_wp2_with fail;refine (HS.out _).mono ?_;rintro e w1 ⟨A,n,c,rfl,hu,hb1⟩;have LB1:=stB LB0 hb1 LB0.out.size;have LR1:=stR LR0 hb1;clear LB0 LR0;obtain⟨ha0,hf0,ha1,hf1,ha2,hf2⟩:=LR1.out.sf3;obtain⟨hk0,hk1,hk2⟩:=LR1.out.sc3 (.bool neg) (.slice A n c) (.int .i64 ((e:Int) - 1 - 1074));have F:=Hd (below_sets (w0:=w) (r:=w.heap.size) (by omega) [.bool neg,.slice A n c,.int .i64 ((e:Int) - 1 - 1074)] 0 _ LB1.out)
  simp [sets] at hk0 hk1 hk2
  have FU:=Hd (LR1.out.u32s hu [.bool neg,.slice A n c,.int .i64 ((e:Int) - 1 - 1074)]);clear hu hb1 HS;go_wp2;refine bodyPost_ret (v:=.agg #[.bool neg,.slice A n c,.int .i64 ((e:Int) - 1 - 1074)]) (by simp [results,Tryz.results189,go_sem,hk0,hk1,hk2]) rfl ?_
  exact⟨A,n,c,rfl,FU.out,F.out⟩
theorem part_any(b:Nat)(hb:b<18446744073709551616)(hf:fin b):∃ (S:Nat) (x:Int),S<9007199254740992∧-1074≤x∧x≤971∧fl (idx b)=rv (sgn b) S 1*2^x∧∀ w,Calls Tryz.prog 189 #[.float .f64 b] w (NewDy w (sgn b) S x):=by
 have hp:=fl_parts (b:=b) hf rfl rfl rfl
 have hn:(b / 9223372036854775808 == 1)=sgn b:=by
  unfold sgn;rw [Bool.eq_iff_iff]
  simp only [beq_iff_eq]
  omega
 refine⟨_,_,?_,?_,?_,?_,fun w=>part_walk b _ _ _ (sgn b) w hb rfl rfl hn rfl⟩
 ·split<;>omega
 ·split<;>omega
 ·split<;>omega
 ·by_cases h0:b / 4503599627370496 % 2048=0
  ·rw [if_pos h0,if_pos h0];exact hp.2.2.2 h0
  ·rw [if_neg h0,if_neg h0];exact hp.2.2.1 (by omega)
end
section
open Go.RowKit
theorem cmp_b{A B:Option Addr}{n c m d x y:Nat}{w:World}{cc:Int}(hx:U32s w A n c (digs x))(hy:U32s w B m d (digs y))(h:cmp3 x y=cc):Calls Tryz.prog 142 #[.slice A n c,.slice B m d] w fun e w'=>e=.returned (.int .i64 cc)∧Below w.heap.size w w':=by
 rw [← h];refine (cmp_d hx hy).mono ?_;rintro e w' ⟨he,k,hk⟩
 exact⟨he,by rw [hk];exact below_drewN (Below.refl _ _) k⟩
theorem run_max_int{a b E:Int}(h:max a b=E)(W:World)(ts:Array TypeId)(t:TypeId):(Builtin.max_ ts t #[.int .i64 a,.int .i64 b]).run Tryz.prog W=.ok (.int .i64 E) W:=by
 have e:(Builtin.max_ ts t #[.int .i64 a,.int .i64 b])=Builtin.max2 (.int .i64 a) (.int .i64 b):=by simp [Builtin.max_]
 rw [e];unfold Builtin.max2;subst h
 simp [Int.max_def]
 split<;>split<;>omega
set_option maxRecDepth 8000 in
theorem root_walk(d:Int)(neg more:Bool)(S n k0 J r s z:Nat)(e E cc:Int)(A:Option Addr)(m c:Nat)(w:World)(hu:U32s w A m c (digs S))(hS:blen S≤64)(hn:1≤n)(hn2:n≤1024)(he:-2000≤e∧e≤2000)(hk0:max 0 (58*(n:Int) - (blen S:Int))=(k0:Int))(hJ:J≤1024)
  (hj1:∀ i:Nat,i<J→¬ (e - ((k0+i:Nat):Int)).tmod (n:Int)=0)(hj2:(e - ((k0+J:Nat):Int)).tmod (n:Int)=0)(hE:(e - ((k0+J:Nat):Int)).tdiv (n:Int)=E)(hEb:-100000≤E∧E≤100000)(hs:S*2 ^ (k0+J)=s)(hs0:0<s)(hr:IsR s n r)(hcc:cmp3 (r ^ n) s=cc)(hm:(!(cc == 0))=more)
  (hof:∀ W B m' c',U32s W B m' c' (digs r)→Calls Tryz.prog 230 #[.int .i64 d,.bool neg,.slice B m' c',.int .i64 E,.bool more] W fun e w'=>e=.returned (.float .f64 z)∧Below W.heap.size W w'):
  Calls Tryz.prog 223 #[.int .i64 d,.agg #[.bool neg,.slice A m c,.int .i64 e],.int .i64 (n:Int)] w fun e w'=>e=.returned (.float .f64 z)∧Below w.heap.size w w':=by
 have hb1:k0≤58*1024:=by omega
 have hsb:blen s≤70000:=by rw [← hs];have:=blen_mul S (2 ^ (k0+J));have:blen (2 ^ (k0+J))≤k0+J+1:=blen_le_iff.2 (Nat.pow_lt_pow_right (by omega) (by omega));omega
 have hrb:blen r≤70000:=by
  refine Nat.le_trans (blen_mono ?_) hsb;refine Nat.le_trans ?_ hr.1
  rcases Nat.eq_zero_or_pos r with h | h
  ·omega
  ·calc r=r ^ 1:=(Nat.pow_one r).symm
    _≤r ^ n:=Nat.pow_le_pow_right h hn
 have hrn:blen r*n≤200000:=by
  have h1:=hr.1
  rcases Nat.eq_zero_or_pos r with h | h
  ·subst h;rw [blen_zero];omega
  ·have h2:2 ^ (blen r - 1)≤r:=by
    rcases Nat.lt_or_ge r (2 ^ (blen r - 1)) with q | q
    ·have:=blen_le_iff.2 q
     have:blen r≠0:=fun h0=>by have:=blen_eq_zero.1 h0;omega
     omega
    ·exact q
   have h3:=Nat.pow_le_pow_left h2 n;rw [← Nat.pow_mul] at h3;have h4:2 ^ ((blen r - 1)*n)<2 ^ blen s:=Nat.lt_of_le_of_lt (Nat.le_trans h3 h1) (blen_le_iff.1 (Nat.le_refl _));have h5:=(Nat.pow_lt_pow_iff_right (show 1<2 by omega)).1 h4;rw [Nat.sub_mul] at h5
   omega
 have HU:=Hd hu;have HLN:=Hd fun W (h:U32s W A m c (digs S))=>len_d h
 obtain⟨b,hb⟩:∃ b,blen S=b:=⟨_,rfl⟩
 rw [hb] at hk0 hS HLN;have HMX:=Hd fun (W:World) (ts:Array TypeId) (t:TypeId)=>run_max_int hk0 W ts t
 have hw1:wrap64 (58*(n:Int))=58*(n:Int):=by unfold wrap64;omega
 have hw2:wrap64 (58*(n:Int) - (b:Int))=58*(n:Int) - (b:Int):=by unfold wrap64;omega
 have HSL:=Hd fun W (h:U32s W A m c (digs S))=>shl_d (k0+J) h (by rw [hb];omega);rw [hs] at HSL;have HWH:=Hd fun W B m' c' (h:U32s W B m' c' (digs s))=>whole_any n hn hn2 140000 s r B m' c' W (by omega) (by omega) hs0 h hr;have HPW:=Hd fun W B m' c' (h:U32s W B m' c' (digs r))=>pow_d (w:=W) n h (by omega) (by omega) (by omega);have HCM:=Hd fun W B m' c' C p q (h:U32s W B m' c' (digs (r ^ n))) (h2:U32s W C p q (digs s))=>cmp_b h h2 hcc;have HJ1:=Hd hj1;have HJ2:=Hd hj2;have HE:=Hd hE;have HOF:=Hd hof;have HM:=Hd hm
 have hn0:¬ (n:Int)=0:=by omega
 clear hu hs hr hcc hof hj1 hj2 hE hsb hrb hrn hb hs0 hm;have LL:=li1 w #[.bool neg,.slice A m c,.int .i64 e] 168;have HU0:=Hd (HU.out.below LL.out.b);clear HU
 go_enter Tryz.func223,Tryz.ntmps223
 obtain⟨q1_0,q1_1,q1_2⟩:=(LL.out.blk 0 rfl).c3;have hmx:=HMX.out;go_wp2_with fail;refine (HLN.out _ HU0.out).mono ?_;rintro e1 w1 ⟨rfl,rfl⟩;clear HLN q1_0 q1_1 q1_2
 obtain⟨wa,hwa⟩:∃ X,(w.alloc (.cells #[.bool neg,.slice A m c,.int .i64 e] 168))=X:=⟨_,rfl⟩
 rw [hwa] at HU0 LL ⊢;clear hwa;obtain⟨q2_0,q2_1,q2_2⟩:=(LL.out.blk 0 rfl).c3;go_wp2;clear hmx HMX hw1 hw2 q2_0 q2_1 q2_2
 go_loopw [7] (fun kv wr=>∃ i:Nat,kv=.int .i64 ((k0+i:Nat):Int)∧i≤J∧wr=wa) (fun kv _=>k0+J - (intOf kv).toNat)
 case atStart=>exact⟨0,rfl,by omega,rfl⟩
 case round=>
  obtain⟨i,rfl,hi,hwr⟩:=hrel;subst hwr
  have hk:(0:Int)≤((k0+i:Nat):Int)∧((k0+i:Nat):Int)≤61000:=by omega
  obtain⟨kk,hkk⟩:∃ z:Int,((k0+i:Nat):Int)=z:=⟨_,rfl⟩
  have hw3:wrap64 (e - kk)=e - kk:=by unfold wrap64;omega
  by_cases hlt:i<J
  ·skip;obtain⟨q3_0,q3_1,q3_2⟩:=(LL.out.blk 0 rfl).c3;have t1:=HJ1.out i hlt;rw [hkk] at t1 hk ⊢
   have t2:((e - kk).tmod (n:Int) == 0)=false:=by simpa using t1
   go_wp2
   exact⟨⟨i+1,by rw [← hkk,show k0+(i+1)=k0+i+1 from by omega];rfl,by omega,trivial⟩,by simp [intOf];omega⟩
  ·skip
   obtain rfl:i=J:=by omega
   have t1:=HJ2.out;have te:=HE.out;rw [hkk] at t1 te hk ⊢;have HT1:=Hd t1;have HSK:=Hd (HSL.out _ HU0.out);rw [hkk] at HSK;have hkh:=Hd hkk;clear HJ1 HJ2 HE HSL hlt hi hkk;obtain⟨q4_0,q4_1,q4_2⟩:=(LL.out.blk 0 rfl).c3;go_wp2_with fail;refine HSK.out.mono ?_;rintro e2 w2 ⟨A2,m2,c2,rfl,hu2,hb2⟩;have HU2:=Hd hu2;replace LL:=stL LL hb2;clear hu2 hb2 HSK HU0 q4_0 q4_1 q4_2;have HW2:=Hd (HWH.out _ A2 m2 c2 HU2.out);go_wp2_with fail;refine HW2.out.mono ?_;rintro e2 w3 ⟨A3,m3,c3,rfl,hu3,hb3⟩;have HU3:=Hd hu3;replace HU2:=Hd (HU2.out.below hb3);replace LL:=stL LL hb3;clear hu3 hb3 HW2 HWH;have HW3:=Hd (HPW.out _ A3 m3 c3 HU3.out);go_wp2_with fail;refine HW3.out.mono ?_;rintro e2 w4 ⟨A4,m4,c4,rfl,hu4,hb4⟩;have HU4:=Hd hu4;replace HU2:=Hd (HU2.out.below hb4);replace HU3:=Hd (HU3.out.below hb4);replace LL:=stL LL hb4;clear hu4 hb4 HW3 HPW
   have hn1:¬ n=0:=by omega
   have f1:IntKind.i64.wrap (e - kk)=e - kk:=by rw [IntKind.wrap_i64];omega
   have f2:IntKind.i64.wrap E=E:=by rw [IntKind.wrap_i64];omega
   have hm1:(cc != 0)=more:=HM.out;have hm2:(!(cc == 0))=more:=HM.out
   have hm3:(!decide (cc=0))=more:=by rw [← HM.out];rfl
   have hm4:decide (¬ cc=0)=more:=by rw [← hm3];simp
   go_wp2_with fail;refine regL LL (fun hHeld=>?_);clear LL;replace HU2:=Hd (HU2.out.below (Below.refl _ _).drew);replace HU3:=Hd (HU3.out.below (Below.refl _ _).drew);replace HU4:=Hd (HU4.out.below (Below.refl _ _).drew);generalize World.drew _=wk at hHeld HU2 HU3 HU4 ⊢;refine tk 0 ?_;(try simp only [Act.put,lay]);refine tk 1 ?_;(try simp only [Act.put,lay]);refine tk 2 ?_ (hv:=by intro W2 hSw;obtain⟨q0,q1,q2⟩:=(hSw.blk 0 rfl).c3;go_simp;(try with_reducible rfl));(try simp only [Act.put,lay]);refine tk 3 ?_;(try simp only [Act.put,lay]);refine tk 4 ?_;(try simp only [Act.put,lay]);refine tk 5 ?_ (hv:=by intro W2 hSw;obtain⟨q0,q1,q2⟩:=(hSw.blk 0 rfl).c3;go_simp;(try with_reducible rfl));(try simp only [Act.put,lay]);refine tk 6 ?_;(try simp only [Act.put,lay]);refine tk 7 ?_;(try simp only [Act.put,lay]);refine tk 8 ?_;(try simp only [Act.put,lay]);refine tk 9 ?_;(try simp only [Act.put,lay]);refine tk 10 ?_;(try simp only [Act.put,lay]);refine tk 11 ?_;(try simp only [Act.put,lay]);refine rdy 12 (fun KK hKK=>?_);go_simp;refine (HCM.out _ A4 m4 c4 A2 m2 c2 HU4.out HU2.out).mono ?_;rintro e wk ⟨rfl,hb5⟩;go_wp2_with fail;refine hKK.out _ _ (hHeld.keep hb5) (fun _=>?_);clear hKK KK hHeld;rename_i hHeld;(try simp only [Act.put,lay]);replace HU2:=Hd (HU2.out.below hb5);replace HU3:=Hd (HU3.out.below hb5);replace HU4:=Hd (HU4.out.below hb5);clear hb5;refine tk 13 ?_;(try simp only [Act.put,lay]);refine rdy 14 (fun KK hKK=>?_);go_simp;refine (HOF.out _ A3 m3 c3 HU3.out).mono ?_
   rintro e wk ⟨rfl,hb6⟩;go_wp2_with fail;refine hKK.out _ _ (hHeld.keep hb6) (fun _=>?_);clear hKK KK hHeld;rename_i hHeld;(try simp only [Act.put,lay]);replace HU2:=Hd (HU2.out.below hb6);replace HU3:=Hd (HU3.out.below hb6);replace HU4:=Hd (HU4.out.below hb6);clear hb6;refine tk 15 ?_;(try simp only [Act.put,lay]);refine wpAnyH_done (by kernel_rfl) ?_ _;have LL:=Hd hHeld;clear hHeld;go_wp2
   go_ret
   exact⟨rfl,LL.out.b⟩
end
end Go.Proofs.YthlmlmfebpjgdaaGreatDoor
