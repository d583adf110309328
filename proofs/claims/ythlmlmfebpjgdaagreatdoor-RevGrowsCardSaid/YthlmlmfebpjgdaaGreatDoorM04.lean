/-
Lemmas for the statement: SplitT NwT NcmpT NlenT NwoT NatD NaddT NsubT Nsub2T NshlT ExactT Inf1T Kn.
-/
import Derived.Test.YthlmlmfebpjgdaaGreatDoorM03
import Derived.Test.YthlmlmfebpjgdaaGreatDoorM02
import Derived.Test.YthlmlmfebpjgdaaGreatDoorM01
import Derived.Laws.FloatArith
import Derived.Laws.CopyOwn
import Derived.BigQuiet
import Derived.Deep.QuietTactic
import Derived.Outline
import Derived.Lib.Strings
import Derived.Lib.Slices
import Derived.Lib.Small
import Derived.Lib.Walk
import Derived.Lib.BitFns
import Derived.Deep.DeepAppendRoom
import Derived.Deep.DeepCutAuto
set_option linter.unusedSimpArgs false
set_option linter.unusedVariables false
set_option maxHeartbeats 12800000
namespace Go.Proofs.YthlmlmfebpjgdaaGreatDoor
section
open Go.RowKit Ieee
attribute [local go_sem] run_store_float run_frombits run_bitsof run_negf
theorem fsmall(w:World):Calls Tryz.prog 243 #[] w fun e w'=>e=.returned (.bool false)/\w=w':=by
 have h1:floatOfInt .f64 16777216=4715268809856909312:=by kernel_rfl
 have h2:=fun W=>run_float_arith (P:=Tryz.prog) W .add 26 .f64 4715268809856909312 4607182418800017408 4715268810125344768 (by kernel_rfl)
 have h3:FloatKind.f64.format.order 4715268810125344768 4715268809856909312=some .gt:=by kernel_rfl
 go_enter Tryz.func243,Tryz.ntmps243
 go_wp2
 go_ret
 exact⟨rfl,rfl⟩
theorem pattern_any(b:Nat)(w:World):Calls Tryz.prog 218 #[.float .f64 b] w fun e w'=>e=.returned (.int .u64 (b:Int))/\w=w':=by
 have HS:=Hd fsmall;have ff:=fun W=>run_bitsof b W
 go_enter Tryz.func218,Tryz.ntmps218
 go_wp2_with fail;refine cy (HS.out _) ?_;go_wp2
 go_ret
 exact⟨rfl,rfl⟩
theorem format_any(w:World):Rt 217 #[] (.agg #[.int .i64 52,.int .i64 (-1074),.int .i64 971,.int .u64 9218868437227405312,.int .u64 9223372036854775808]) w:=by
 have HS:=Hd fsmall;have HB:=Hd (below_alloc w (.cells #[.int .i64 52,.int .i64 (-1074),.int .i64 971,.int .u64 9218868437227405312,.int .u64 9223372036854775808] 185))
 go_enter Tryz.func217,Tryz.ntmps217
 go_wp2_with fail;refine cy (HS.out _) ?_;go_wp2;refine bodyPost_ret (v:=.agg #[.int .i64 52,.int .i64 (-1074),.int .i64 971,.int .u64 9218868437227405312,.int .u64 9223372036854775808]) (by simp [results,Tryz.results217,go_sem]) rfl ?_
 exact⟨rfl,HB.out⟩
def SplitTo(w:World)(neg:Bool)(S:Nat)(x:Int)(e:Ending)(w':World):Prop:=
 e=.returned (.tuple #[.bool neg,.int .u64 (S:Int),.int .i64 x,.bool true])/\Below w.heap.size w w'
set_option maxRecDepth 100000 in
theorem split_walk(b m e f S:Nat)(neg:Bool)(w:World)(hb:b<18446744073709551616)(hm:rungOf b=m)(hm2:m<9218868437227405312)(he:m / 4503599627370496=e)(hff:m % 4503599627370496=f)(hn:(FloatKind.f64.format.order b 0 == some Ordering.lt)=neg)(hS:S=if e=0 then f else f+4503599627370496):
  Calls Tryz.prog 168 #[.float .f64 b] w (SplitTo w neg S (if e=0 then -1074 else -1074+((e:Int) - 1))):=by
 have hsz:=size_i hb;rw [hm] at hsz;have m1:=mask52_u64 (x:=m) (by omega);rw [hff] at m1
 have m2:(m:Int) / 4503599627370496=(e:Int):=by omega
 have hf2:f<4503599627370496:=by omega
 have he2:e<2047:=by omega
 have hge:¬ (9218868437227405312:Int)<=(m:Int):=by omega
 have hor:=or_join' (i:=52) (x:=1) (y:=f) (by omega) (by omega) (by omega);rw [show ((1*2^52:Nat):Int)=4503599627370496 from rfl,show (f+1*2^52:Nat)=f+4503599627370496 from rfl] at hor;have HF0:=format_any
 obtain⟨I,hI⟩:∃ I:Int,I=9218868437227405312:=⟨_,rfl⟩
 rw [<- hI] at HF0 hge;have HF:=Hd HF0;clear hI HF0
 have HP:=Hd fun W=>(pattern_any b W).mono (R':=fun e w'=>e=.returned (.int .u64 (b:Int))/\w'=W) fun _ _ h=>⟨h.1,h.2.symm⟩
 obtain⟨bi,hbi⟩:∃ z:Int,z=(b:Int):=⟨_,rfl⟩
 rw [<- hbi] at hsz HP;clear hff he hb hm hbi hm2
 by_cases h0:e=0
 ·subst h0;rw [if_pos rfl] at hS ⊢;subst hS;rw [show ((0:Nat):Int)=0 from rfl] at m2;clear hor he2
  go_enter Tryz.func168,Tryz.ntmps168
  go_wp2_with fail;refine (HF.out _).mono ?_;rintro e' w1 ⟨rfl,hb1⟩;have LB1:=Hd (hb1.alloc hb1.size (.cells #[.int .i64 52,.int .i64 (-1074),.int .i64 971,.int .u64 I,.int .u64 9223372036854775808] 185));clear hb1 HF;go_wp2_with fail
  go_quiet ((first | (go_at_call 218;exact Calls.quiet_of_same (HP.out _))))
  have LB2:=Hd (below_drewN LB1.out nq);have BK2:=Hd ((Blk.new w1 185 #[.int .i64 52,.int .i64 (-1074),.int .i64 971,.int .u64 I,.int .u64 9223372036854775808]).drewN nq)
  obtain⟨g,hg⟩:∃ g,w1.heap.size=g:=⟨_,rfl⟩
  rw [hg] at BK2
  obtain⟨W2,hW2⟩:∃ W,(w1.alloc (.cells #[.int .i64 52,.int .i64 (-1074),.int .i64 971,.int .u64 I,.int .u64 9223372036854775808] 185)).drewN nq=W:=⟨_,rfl⟩
  rw [hW2] at LB2 BK2;rw [hg,hW2];clear hg hW2 LB1 HP hsz;have q0:=BK2.out.cell 0;have q1:=BK2.out.cell 1;have q3:=BK2.out.cell 3
  simp at q0 q1 q3
  go_wp2_with fail
  go_quiet (fail)
  obtain⟨nr,hnr⟩:∃ n,nq=n:=⟨_,rfl⟩
  clear q0 q1 q3 m1;have LB3:=Hd (below_drewN LB2.out nq);have BK3:=Hd (BK2.out.drewN nq)
  obtain⟨W3,hW3⟩:∃ W,W2.drewN nq=W:=⟨_,rfl⟩
  rw [hW3] at LB3 BK3;rw [hW3];clear hW3 LB2 BK2 hnr;have q0:=BK3.out.cell 0
  simp at q0
  go_wp2;refine bodyPost_ret (v:=.tuple #[.bool neg,.int .u64 (S:Int),.int .i64 (-1074),.bool true]) (by simp [results,Tryz.results168,go_sem]) rfl ?_
  exact⟨rfl,LB3.out⟩
 ·rw [if_neg h0] at hS ⊢
  obtain⟨S',hS'⟩:∃ z,f+4503599627370496=z:=⟨_,rfl⟩
  rw [hS'] at hS hor;subst hS
  have hei:(0:Int)<(e:Int):=by omega
  clear h0 hS'
  go_enter Tryz.func168,Tryz.ntmps168
  go_wp2_with fail;refine (HF.out _).mono ?_;rintro e' w1 ⟨rfl,hb1⟩;have LB1:=Hd (hb1.alloc hb1.size (.cells #[.int .i64 52,.int .i64 (-1074),.int .i64 971,.int .u64 I,.int .u64 9223372036854775808] 185));clear hb1 HF;go_wp2_with fail
  go_quiet ((first | (go_at_call 218;exact Calls.quiet_of_same (HP.out _))))
  have LB2:=Hd (below_drewN LB1.out nq);have BK2:=Hd ((Blk.new w1 185 #[.int .i64 52,.int .i64 (-1074),.int .i64 971,.int .u64 I,.int .u64 9223372036854775808]).drewN nq)
  obtain⟨g,hg⟩:∃ g,w1.heap.size=g:=⟨_,rfl⟩
  rw [hg] at BK2
  obtain⟨W2,hW2⟩:∃ W,(w1.alloc (.cells #[.int .i64 52,.int .i64 (-1074),.int .i64 971,.int .u64 I,.int .u64 9223372036854775808] 185)).drewN nq=W:=⟨_,rfl⟩
  rw [hW2] at LB2 BK2;rw [hg,hW2];clear hg hW2 LB1 HP hsz;have q0:=BK2.out.cell 0;have q1:=BK2.out.cell 1;have q3:=BK2.out.cell 3
  simp at q0 q1 q3
  go_wp2_with fail
  go_quiet (fail)
  obtain⟨nr,hnr⟩:∃ n,nq=n:=⟨_,rfl⟩
  clear q0 q1 q3 m1;have LB3:=Hd (below_drewN LB2.out nq);have BK3:=Hd (BK2.out.drewN nq)
  obtain⟨W3,hW3⟩:∃ W,W2.drewN nq=W:=⟨_,rfl⟩
  rw [hW3] at LB3 BK3;rw [hW3];clear hW3 LB2 BK2 hnr;have q0:=BK3.out.cell 0
  simp at q0
  go_wp2;refine bodyPost_ret (v:=.tuple #[.bool neg,.int .u64 (S:Int),.int .i64 (-1074+((e:Int) - 1)),.bool true]) (by simp [results,Tryz.results168,go_sem]) rfl ?_
  exact⟨rfl,LB3.out⟩
theorem split_any(b:Nat)(hb:b<18446744073709551616)(hf:fin b):∃ (S:Nat) (x:Int),S<9007199254740992/\-1074<=x/\x<=971/\fl (idx b)=rv (decide (idx b<0)) S 1*2^x/\∀ w,Calls Tryz.prog 168 #[.float .f64 b] w (SplitTo w (decide (idx b<0)) S x):=by
 have hr:rungOf b<=M:=Nat.le_of_lt hf;have hM:M=9218868437227405312:=rfl;have hm2:rungOf b<9218868437227405312:=hf;have hp:=fl_parts (b:=b) hf rfl rfl rfl;have hc:=pat_cases hb
 have e1:rungOf b / 4503599627370496=b / 4503599627370496 % 2048:=by omega
 have e2:rungOf b % 4503599627370496=b % 4503599627370496:=by omega
 have hn:(FloatKind.f64.format.order b 0 == some Ordering.lt)=decide (idx b<0):=by
  rcases Int.lt_trichotomy (idx b) 0 with h | h | h
  ·rw [ord_lt hr real_zero (by rw [idx_zero];exact h),decide_eq_true h];rfl
  ·rw [ord_eq hr real_zero (by rw [idx_zero];exact h),decide_eq_false (by omega)];rfl
  ·rw [ord_gt hr real_zero (by rw [idx_zero];exact h),decide_eq_false (by omega)];rfl
 refine⟨_,_,?_,?_,?_,?_,fun w=>split_walk b _ _ _ _ _ w hb rfl hm2 e1 e2 hn rfl⟩
 ·split<;>omega
 ·split<;>omega
 ·split<;>omega
 ·have hs:∀ (S:Nat) (x:Int),(S=0\/sgn b=decide (idx b<0))->rv (sgn b) S 1*2^x=rv (decide (idx b<0)) S 1*2^x:=by
   rintro S x (rfl | h)
   ·rw [rv_zero,rv_zero]
   ·rw [h]
  have hsd:rungOf b=0\/sgn b=decide (idx b<0):=by
   rcases hc with ⟨a,h1,h2,h3⟩ | ⟨a,h1,h2,h3⟩
   ·right;rw [h2,decide_eq_false (by omega)]
   ·by_cases h0:rungOf b=0
    ·exact .inl h0
    ·right;rw [h2,decide_eq_true (by omega)]
  by_cases h0:b / 4503599627370496 % 2048=0
  ·rw [if_pos h0,if_pos h0,<- hs _ _ (hsd.imp (fun h=>by omega) id)];have:=hp.2.2.2 h0;rw [this,h0];rfl
  ·rw [if_neg h0,if_neg h0,<- hs _ _ (hsd.imp (fun h=>by omega) id)];rw [hp.2.2.1 (by omega)]
   congr 2;omega
end
section
open Go.RowKit
theorem nwords_any(A:Option Addr)(n c:Nat)(xs:List Nat)(w:World)(h:U32s w A n c xs):
  Calls Tryz.prog 203 #[.slice A n c] w fun e w'=>e=.returned (.int .i64 (wlen xs))/\w=w':=by
 have hn:=h.small;have H:=Hd h;clear h
 go_enter Tryz.func203,Tryz.ntmps203
 go_wp2
 go_loop [3] (fun v=>∃ k:Nat,k<=n/\v=.int .i64 k/\∀ j:Nat,k<=j->xs[j]?.getD 0=0) (fun v=>(intOf v).toNat)
 case atStart=>exact⟨n,by omega,rfl,fun j hj=>by
  have:=H.out.len
  rw [List.getElem?_eq_none (by omega)];rfl⟩
 case round=>
  obtain⟨k,hk,rfl,hz⟩:=hrel;have Hz:=Hd hz;clear hz
  rcases Nat.eq_zero_or_pos k with h0 | h0
  ·subst h0;go_wp2
   go_ret
   exact⟨by have:=wlen_of (l:=xs) (Nat.zero_le _) Hz.out (.inl rfl);rw [this];rfl,rfl⟩
  ·obtain⟨ad,rfl,hc⟩:=H.out.cell (j:=k - 1) (by omega);go_wp2
   ·have ht:((xs[k - 1]?.getD 0:Nat):Int)=0:=by simpa using ‹(((xs[k - 1]?.getD 0:Nat):Int) == 0)=true›
    go_round
    case rel=>
     refine⟨k - 1,by omega,by go_num,fun j hj=>?_⟩
     rcases Nat.lt_or_ge j k with h1 | h1
     ·obtain rfl:j=k - 1:=by omega
      omega
     ·exact Hz.out j h1
    case measure=>simp [intOf];omega
   ·have ht:¬ ((xs[k - 1]?.getD 0:Nat):Int)=0:=by simpa using ‹(((xs[k - 1]?.getD 0:Nat):Int) == 0)=false›
    go_ret
    exact⟨by have:=wlen_of (l:=xs) (n:=k) (by rw [H.out.len];omega) Hz.out (.inr (by omega));rw [this];rfl,rfl⟩
theorem cut_any(A:Option Addr)(n c:Nat)(xs:List Nat)(w:World)(h:U32s w A n c xs):
  Calls Tryz.prog 219 #[.slice A n c] w fun e w'=>e=.returned (.slice A (wlen xs) (wlen xs))/\w=w':=by
 have HW:=Hd (nwords_any A n c xs w h);have hn:=h.small;have hc:=h.cap;have hl:=wlen_le xs;rw [h.len] at hl;clear h
 go_enter Tryz.func219,Tryz.ntmps219
 go_wp2_with fail;refine HW.out.mono ?_;rintro e w' ⟨rfl,rfl⟩;go_wp2_with fail;refine HW.out.mono ?_;rintro e w' ⟨rfl,rfl⟩;go_wp2
 go_ret
 exact⟨rfl,rfl⟩
theorem long_one(g:Nat)(A:Option Addr)(n c:Nat)(xs:List Nat)(w:World)(h0:U32s w A n c xs)(c0:w.cell? ⟨g,0,none⟩=some (.slice A n c))(l0:wlen xs<=16384):
  Calls Tryz.prog 212 #[.slice (some ⟨g,0,none⟩) 1 1] w fun e w'=>e=.returned (.bool false)/\w=w':=by
 have W0:=Hd (nwords_any A n c xs w h0)
 obtain⟨p0,e0⟩:∃ p,wlen xs=p:=⟨_,rfl⟩
 rw [e0] at W0 l0;clear h0 e0
 go_enter Tryz.func212,Tryz.ntmps212
 go_wp2
 go_loop [4,7] (fun _ v=>∃ k:Nat,k<=1/\v=.int .i64 k) (fun _ v=>1 - (intOf v).toNat)
 case atStart=>exact⟨0,by omega,rfl⟩
 case round=>
  obtain⟨k,hk,rfl⟩:=hrel
  match k,hk with
  | 0,_=>
   go_wp2_with fail;refine W0.out.mono ?_;rintro e w' ⟨rfl,rfl⟩;go_wp2
   go_round
   case rel=>exact⟨1,by omega,rfl⟩
   case measure=>simp [intOf]
  | 1,_=>
   go_wp2
   go_ret
   exact⟨rfl,rfl⟩
theorem long_two(g:Nat)(A:Option Addr)(n c:Nat)(xs:List Nat)(B:Option Addr)(m d:Nat)(ys:List Nat)(w:World)(h0:U32s w A n c xs)(c0:w.cell? ⟨g,0,none⟩=some (.slice A n c))(l0:wlen xs<=16384)(h1:U32s w B m d ys)(c1:w.cell? ⟨g,1,none⟩=some (.slice B m d))(l1:wlen ys<=16384):
  Calls Tryz.prog 212 #[.slice (some ⟨g,0,none⟩) 2 2] w fun e w'=>e=.returned (.bool false)/\w=w':=by
 have W0:=Hd (nwords_any A n c xs w h0)
 obtain⟨p0,e0⟩:∃ p,wlen xs=p:=⟨_,rfl⟩
 rw [e0] at W0 l0;clear h0 e0;have W1:=Hd (nwords_any B m d ys w h1)
 obtain⟨p1,e1⟩:∃ p,wlen ys=p:=⟨_,rfl⟩
 rw [e1] at W1 l1;clear h1 e1
 go_enter Tryz.func212,Tryz.ntmps212
 go_wp2
 go_loop [4,7] (fun _ v=>∃ k:Nat,k<=2/\v=.int .i64 k) (fun _ v=>2 - (intOf v).toNat)
 case atStart=>exact⟨0,by omega,rfl⟩
 case round=>
  obtain⟨k,hk,rfl⟩:=hrel
  match k,hk with
  | 0,_=>
   go_wp2_with fail;refine W0.out.mono ?_;rintro e w' ⟨rfl,rfl⟩;go_wp2
   go_round
   case rel=>exact⟨1,by omega,rfl⟩
   case measure=>simp [intOf]
  | 1,_=>
   go_wp2_with fail;refine W1.out.mono ?_;rintro e w' ⟨rfl,rfl⟩;go_wp2
   go_round
   case rel=>exact⟨2,by omega,rfl⟩
   case measure=>simp [intOf]
  | 2,_=>
   go_wp2
   go_ret
   exact⟨rfl,rfl⟩
theorem U32s.cutd{w:World}{A:Option Addr}{n c:Nat}{xs:List Nat}(h:U32s w A n c xs):U32s w A (wlen xs) (wlen xs) (digs (num xs)):=by
 have h1:=h.take (k:=wlen xs) (by have:=wlen_le xs;rw [h.len] at this;exact this);rw [<- trim_eq_take,trim_eq_digs h.w32] at h1
 exact h1.recap (Nat.le_refl _)
theorem wlen_lt{xs:List Nat}{K:Nat}(hw:W32 xs)(h:num xs<2^(32*K)):wlen xs<=K:=by
 have:=digs_length_le h
 rwa [<- trim_eq_digs hw] at this
theorem fit_any(A:Option Addr)(n c:Nat)(xs:List Nat)(w:World)(h:U32s w A n c xs)(hl:wlen xs<=16384):
  Calls Tryz.prog 214 #[.slice A n c] w fun e w'=>e=.returned (.tuple #[.slice A (wlen xs) (wlen xs),.int .i64 0])/\w=w':=by
 have HC:=Hd (cut_any A n c xs w h);clear h
 obtain⟨p,e⟩:∃ p,wlen xs=p:=⟨_,rfl⟩
 rw [e] at HC hl ⊢;clear e
 go_enter Tryz.func214,Tryz.ntmps214
 go_wp2_with fail;refine HC.out.mono ?_;rintro e w' ⟨rfl,rfl⟩;go_wp2
 go_ret2
 exact⟨rfl,rfl⟩
def NewArr(w:World)(xs:List Nat)(e:Ending)(w':World):Prop:=
 ∃ g n,e=.returned (.slice (some ⟨g,0,none⟩) n n)/\xs.length=n/\Arr w' g xs/\w.heap.size<=g/\Below w.heap.size w w'
theorem nnorm_any(A:Option Addr)(n c:Nat)(xs:List Nat)(w:World)(h:U32s w A n c xs):
  Calls Tryz.prog 215 #[.slice A n c] w (NewArr w (digs (num xs))):=by
 have HW:=Hd (nwords_any A n c xs w h);have HX:=Hd h;have hn:=h.small;have hl:=wlen_le xs;rw [h.len] at hl;have ht:=trim_eq_take xs;rw [trim_eq_digs h.w32] at ht
 obtain⟨k,e⟩:∃ p,wlen xs=p:=⟨_,rfl⟩
 rw [e] at HW hl ht;rw [ht];clear h e ht;have hmk:=fun W=>make_u32 (N:=(k:Int)) (n:=k) rfl (by omega) W;have hmk0:=fun W=>make_u32 (N:=0) (n:=0) rfl (by omega) W
 go_enter Tryz.func215,Tryz.ntmps215
 go_wp2_with fail;refine HW.out.mono ?_;rintro e w' ⟨rfl,rfl⟩
 rcases Nat.eq_zero_or_pos k with h0 | h0
 ·subst h0
  go_wp2_with (with_reducible refine wpList_copy_nothing rfl (.tmp 7) (.tmp 8) 40 40 rfl 117 Tryz.underlying40 (by kernel_rfl) _ _ _ _ _ _ rfl rfl (by simp) ?_)
  go_wp2
  go_ret
  exact⟨_,0,rfl,by simp,Arr.zeros w 0,Nat.le_refl _,below_alloc _ _⟩
 ·obtain⟨ad,rfl,hlt,hc⟩:=HX.out.at_ (by omega)
  have hlen:(xs.take k).length=k:=by rw [List.length_take,HX.out.len];omega
  obtain⟨ys,hys⟩:∃ ys,xs.take k=ys:=⟨_,rfl⟩
  rw [hys] at hlen ⊢
  have hcs:∀ j u,(ys.map wd)[j]?=some u->(w.alloc (.cells (Array.replicate k (wd 0)) 117)).cell? (ad.add j)=some u:=by
   intro j u hu;rw [List.getElem?_map] at hu
   have hj:j<ys.length:=by
    by_cases hj:j<ys.length
    ·exact hj
    ·rw [List.getElem?_eq_none (by omega)] at hu;simp at hu
   have hU:=HX.out.alloc (.cells (Array.replicate k (wd 0)) 117);have h1:=hU.cellAt (j:=j) (by omega);rw [h1];rw [<- hys,List.getElem?_take_of_lt (by omega)] at hu
   have h2:j<xs.length:=by rw [HX.out.len];omega
   rw [List.getElem?_eq_getElem h2] at hu ⊢
   simpa using hu
  have HCS:=Hd hcs;have HA:=Hd (Arr.zeros w k);clear hc hcs
  go_wp2_with (with_reducible refine wpList_copy_own rfl (.tmp 7) (.tmp 8) 40 40 rfl 117 Tryz.underlying40 (by kernel_rfl) w.heap.size 0 k k ad n c rfl rfl (Array.replicate k (wd 0)) 117 ?c1 (ys.map wd) ?c2 HCS.out ?c3 ?c4 ?_)
  case c1=>have:=HA.out;unfold Arr at this;simpa using this
  case c2=>rw [List.length_map,hlen];exact (Nat.min_eq_right hl).symm
  case c3=>simp [hlen]
  case c4=>intro u hu;simp at hu;obtain⟨_,_,rfl⟩:=hu;rfl
  have HR:=Hd (show Arr ((w.alloc (.cells (Array.replicate k (wd 0)) 117)).setRow w.heap.size (ys.map wd).toArray) w.heap.size ys from by
   have h1:=HA.out;unfold Arr at h1 ⊢
   rw [setRow_heap _ _ _ _ _ _ h1])
  have HB:=Hd (below_setRow (below_alloc w (.cells (Array.replicate k (wd 0)) 117)) (Nat.le_refl _) (ys.map wd).toArray);have HY:=Hd hys;clear hys HA HCS;go_wp2
  go_ret
  exact⟨_,k,rfl,by rw [HY.out];exact hlen,by rw [HY.out];exact HR.out,Nat.le_refl _,HB.out⟩
end
section
open Go.RowKit
theorem ncmp_any(A B:Option Addr)(n c m d:Nat)(xs ys:List Nat)(w:World)(hx:U32s w A n c xs)(hy:U32s w B m d ys):
  Calls Tryz.prog 142 #[.slice A n c,.slice B m d] w (QuietRet w (.int .i64 (cmp3 (num xs) (num ys)))):=by
 have HX:=Hd hx;have HY:=Hd hy;have n1:=hx.small;have n2:=hy.small;have l1:=wlen_le xs;have l2:=wlen_le ys;rw [hx.len] at l1;rw [hy.len] at l2;have W1:=Hd (nwords_any A n c xs w hx);have W2:=Hd (nwords_any B m d ys w hy);clear hx hy
 obtain⟨p,hp⟩:∃ p,wlen xs=p:=⟨_,rfl⟩
 obtain⟨q,hq⟩:∃ p,wlen ys=p:=⟨_,rfl⟩
 rw [hp] at W1 l1;rw [hq] at W2 l2;have HP:=Hd hp;have HQ:=Hd hq;clear hp hq
 go_enter Tryz.func142,Tryz.ntmps142
 go_wp2_with fail;refine W1.out.mono ?_;rintro e w' ⟨rfl,rfl⟩;go_wp2_with fail;refine W2.out.mono ?_;rintro e w' ⟨rfl,rfl⟩
 rcases Nat.lt_trichotomy p q with hl | hl | hl
 ·go_wp2
  go_ret
  exact⟨by rw [cmp3_lt (num_lt_of_wlen HX.out.w32 (by rw [HP.out,HQ.out];exact hl))];rfl,0,rfl⟩
 ·subst hl;go_wp2
  go_loopw [7,8,9,21] (fun _ _ _ v wr=>∃ i:Nat,i<=p/\v=.int .i64 (i:Int)/\(∀ j:Nat,p - i<=j->xs[j]?.getD 0=ys[j]?.getD 0)/\∃ z,wr=w.drewN z) (fun _ _ _ v _=>p - (intOf v).toNat)
  case atStart=>exact⟨0,by omega,rfl,fun j hj=>by rw [(wlen_spec xs).1 j (by rw [HP.out];exact hj),(wlen_spec ys).1 j (by rw [HQ.out];exact hj)],0,rfl⟩
  case round=>
   obtain⟨i,hi,rfl,hz,z,rfl⟩:=hrel;have Hz:=Hd hz;clear hz
   by_cases h0:i=p
   ·subst h0;go_wp2
    go_ret
    exact⟨by rw [cmp3_eq (num_ext fun j=>Hz.out j (by omega))];rfl,z,rfl⟩
   ·obtain⟨j,hj⟩:∃ j,p=i+1+j:=⟨p - i - 1,by omega⟩
    obtain⟨ad,rfl,hc⟩:=HX.out.cell (j:=j) (by omega);obtain⟨ad',rfl,hc'⟩:=HY.out.cell (j:=j) (by omega)
    have e1:(p:Int) - 1 - (i:Int)=(j:Int):=by omega
    have hi1:(j:Int)<(n:Int):=by omega
    have hi2:(j:Int)<(m:Int):=by omega
    have hi3:(i:Int)<(p:Int):=by omega
    have HJ:=Hd hj;clear hj
    obtain⟨x,hx⟩:∃ x,xs[j]?.getD 0=x:=⟨_,rfl⟩
    obtain⟨y,hy⟩:∃ x,ys[j]?.getD 0=x:=⟨_,rfl⟩
    rw [hx] at hc;rw [hy] at hc';have HXX:=Hd hx;have HYY:=Hd hy;clear hx hy
    rcases Nat.lt_trichotomy x y with hl | hl | hl
    ·have hne:((x:Int) == (y:Int))=false:=by simp;omega
     go_wp2_with fail
     go_quiet (fail)
     go_wp2
     go_ret
     exact⟨by rw [cmp3_lt (num_lt_of HX.out.w32 j (fun k hk=>Hz.out k (by have:=HJ.out;omega)) (by rw [HXX.out,HYY.out];exact hl))];rfl,_,rfl⟩
    ·subst hl;go_wp2_with fail
     go_quiet (fail)
     go_wp2
     go_roundw
     case rel=>
      refine⟨i+1,by omega,by go_num,fun k hk=>?_,_,rfl⟩
      rcases Nat.lt_or_ge j k with h1 | h1
      ·exact Hz.out k (by have:=HJ.out;omega)
      ·obtain rfl:k=j:=by have:=HJ.out;omega
       rw [HXX.out,HYY.out]
     case measure=>simp [intOf];omega
    ·have hne:((x:Int) == (y:Int))=false:=by simp;omega
     go_wp2_with fail
     go_quiet (fail)
     go_wp2
     go_ret
     exact⟨by rw [cmp3_gt (num_lt_of HY.out.w32 j (fun k hk=>(Hz.out k (by have:=HJ.out;omega)).symm) (by rw [HXX.out,HYY.out];exact hl))];rfl,_,rfl⟩
 ·go_wp2
  go_ret
  exact⟨by rw [cmp3_gt (num_lt_of_wlen HY.out.w32 (by rw [HP.out,HQ.out];exact hl))];rfl,0,rfl⟩
end
section
open Go.RowKit
theorem aux_blen:∀ (f x:Nat),x<2^f->Lib.bitLenAux f x=blen x
 | 0,x,h=>by
  obtain rfl:x=0:=by omega
  rfl
 | f+1,x,h=>by
  unfold Lib.bitLenAux
  by_cases h0:x=0
  ·subst h0;rfl
  ·have e:=blen_half (n:=x) (by omega);rw [if_neg h0,aux_blen f (x / 2) (by rw [Nat.pow_succ] at h;omega)];omega
theorem lib_blen(x:Nat)(h:x<4294967296):Lib.bitLen x=blen x:=aux_blen 64 x (by omega)
theorem tab_get(i:Nat)(h:i<Lib.len8tab.size):(Lib.len8tab[i]'h).toNat=blen i/\blen i<=8:=by
 have h1:i<256:=by rw [Lib.len8tab_size] at h;exact h
 have e:=Lib.len8_eq ⟨i,h1⟩;have l:=Lib.bitLen_le8 ⟨i,h1⟩
 simp only [Lib.len8,Int.toNat_natCast] at e
 rw [ByteArray.getElem?_lt' _ _ h,Option.getD_some,lib_blen i (by omega)] at e
 simp only [lib_blen i (by omega)] at l
 exact⟨by omega,l⟩
theorem blen_shift(x k:Nat)(h:0<x / 2^k):blen x=k+blen (x / 2^k):=by
 have h1:=blen_high (hi:=x / 2^k) (lo:=x % 2^k) (k:=k) h (Nat.mod_lt _ (Nat.two_pow_pos k))
 rwa [Nat.mod_add_div] at h1
set_option maxRecDepth 100000 in
theorem len32_int(x:Int)(w:World)(h0:0<=x)(h1:x<=4294967295):
  Calls Tryz.prog 257 #[.int .u32 x] w fun e w'=>e=.returned (.int .i64 (blen x.toNat:Int))/\w=w':=by
 have hs:=Lib.len8tab_size
 go_enter Tryz.func257,Tryz.ntmps257
 go_wp2
 all_goals (go_ret;refine⟨congrArg Ending.returned (congrArg (Value.int IntKind.i64) ?_),rfl⟩)
 ·obtain⟨e,l⟩:=tab_get (x / 65536 / 256).toNat (by omega);have s:=blen_shift x.toNat 24 (by omega);rw [show x.toNat / 2^24=(x / 65536 / 256).toNat from by omega] at s;rw [e,wrap64,wrap64];omega
 ·obtain⟨e,l⟩:=tab_get (x / 65536).toNat (by omega);have s:=blen_shift x.toNat 16 (by omega);rw [show x.toNat / 2^16=(x / 65536).toNat from by omega] at s;rw [e,wrap64,wrap64];omega
 ·obtain⟨e,l⟩:=tab_get (x / 256).toNat (by omega);have s:=blen_shift x.toNat 8 (by omega);rw [show x.toNat / 2^8=(x / 256).toNat from by omega] at s;rw [e,wrap64,wrap64];omega
 ·obtain⟨e,l⟩:=tab_get x.toNat (by omega);rw [e,wrap64,wrap64];omega
theorem len32_any(x:Nat)(w:World)(hx:x<4294967296):
  Calls Tryz.prog 257 #[.int .u32 (x:Int)] w fun e w'=>e=.returned (.int .i64 (blen x:Int))/\w=w':=by
 have h:=len32_int (x:Int) w (by omega) (by omega);rw [Int.toNat_natCast] at h
 exact h
theorem nlen_any(A:Option Addr)(n c:Nat)(xs:List Nat)(w:World)(hx:U32s w A n c xs):
  Calls Tryz.prog 232 #[.slice A n c] w fun e w'=>e=.returned (.int .i64 (blen (num xs):Int))/\w=w':=by
 have HW:=Hd (nwords_any A n c xs w hx);have HX:=Hd hx;have n1:=hx.small;have l1:=wlen_le xs;rw [hx.len] at l1;clear hx
 rcases Nat.eq_zero_or_pos (wlen xs) with h0 | h0
 ·have e0:blen (num xs)=0:=by rw [wlen_eq_zero.1 h0];rfl
  rw [e0];rw [h0] at HW
  go_enter Tryz.func232,Tryz.ntmps232
  go_wp2_with fail;refine HW.out.mono ?_;rintro e w' ⟨rfl,rfl⟩;go_wp2
  go_ret
  exact⟨rfl,rfl⟩
 ·have e0:=blen_num HX.out.w32 h0
  obtain⟨l,hl⟩:∃ l,wlen xs=l+1:=⟨wlen xs - 1,by omega⟩
  rw [hl,Nat.add_sub_cancel] at e0;rw [hl] at l1 HW;obtain⟨ad,rfl,hc⟩:=HX.out.cell (j:=l) (by omega);have hlt:=HX.out.lt l
  obtain⟨t,ht⟩:∃ t,xs[l]?.getD 0=t:=⟨_,rfl⟩
  rw [ht] at hc hlt e0;rw [e0];have HT:=Hd fun W=>len32_any t W hlt;have b0:blen t<=32:=blen_le_iff.2 (by omega)
  obtain⟨b,hb⟩:∃ b,blen t=b:=⟨_,rfl⟩
  rw [hb] at HT b0 ⊢;clear hl h0 ht e0 hb
  have hq:(((l+1:Nat):Int) == 0)=false:=by simp;omega
  have e1:((l+1:Nat):Int) - 1=(l:Int):=by omega
  have e2:(l:Int)<(n:Int):=by omega
  obtain⟨z,hz⟩:∃ z:Int,((l+1:Nat):Int)=z:=⟨_,rfl⟩
  rw [hz] at HW hq e1;clear hz
  go_enter Tryz.func232,Tryz.ntmps232
  go_wp2_with fail;refine HW.out.mono ?_;rintro e w' ⟨rfl,rfl⟩;go_wp2_with fail;refine cy (HT.out _) ?_;go_wp2
  go_ret
  exact⟨by first | rfl | (congr 2;omega),rfl⟩
end
section
open Go.RowKit
theorem nword_any(A:Option Addr)(n c:Nat)(xs:List Nat)(w:World)(hx:U32s w A n c xs)(hv:wlen xs<=2):
  Calls Tryz.prog 255 #[.slice A n c] w (QuietRet w (.tuple #[.int .u64 (num xs:Int),.bool true])):=by
 have HW:=Hd (nwords_any A n c xs w hx);have HX:=Hd hx;have n1:=hx.small;have l1:=wlen_le xs;rw [hx.len] at l1;have ht:=num_trim xs;rw [trim_eq_take] at ht;clear hx
 rcases show wlen xs=0\/wlen xs=1\/wlen xs=2 by omega with h | h | h
 ·rw [h] at HW ht;rw [<- ht]
  go_enter Tryz.func255,Tryz.ntmps255
  go_wp2_with fail;refine HW.out.mono ?_;rintro e w' ⟨rfl,rfl⟩;go_wp2
  go_ret2
  exact⟨by simp [num],0,rfl⟩
 ·rw [h] at HW ht l1;rw [show (1:Nat)=0+1 from rfl,num_take_next] at ht
  simp only [List.take_zero,num_nil,Nat.mul_zero,Nat.pow_zero,Nat.one_mul,Nat.zero_add] at ht
  obtain⟨ad,rfl,hc⟩:=HX.out.cell (j:=0) (by omega);have hlt:=HX.out.lt 0;rw [ht] at hc hlt
  obtain⟨v,hv⟩:∃ v,num xs=v:=⟨_,rfl⟩
  rw [hv] at hc hlt ⊢
  have e0:ad.add 0=ad:=by simp [Addr.add]
  rw [e0] at hc
  have e2:(0:Int)<(n:Int):=by omega
  clear ht hv h
  go_enter Tryz.func255,Tryz.ntmps255
  go_wp2_with fail;refine HW.out.mono ?_;rintro e w' ⟨rfl,rfl⟩;go_wp2
  go_ret2
  exact⟨rfl,0,rfl⟩
 ·rw [h] at HW ht l1;rw [show (2:Nat)=(0+1)+1 from rfl,num_take_next,num_take_next] at ht
  simp only [List.take_zero,num_nil,Nat.mul_zero,Nat.pow_zero,Nat.one_mul,Nat.zero_add,Nat.mul_one] at ht
  obtain⟨ad,rfl,hc⟩:=HX.out.cell (j:=0) (by omega);have hc1:=HX.out.cellAt (j:=1) (by omega);have hlt:=HX.out.lt 0;have hlt1:=HX.out.lt 1
  obtain⟨x,hx⟩:∃ v,xs[0]?.getD 0=v:=⟨_,rfl⟩
  obtain⟨y,hy⟩:∃ v,xs[1]?.getD 0=v:=⟨_,rfl⟩
  rw [hx] at hc hlt ht;rw [hy] at hc1 hlt1 ht
  have hc2:w.cell? ⟨ad.block,ad.off+1,none⟩=some (wd y):=by simpa [Addr.add] using hc1
  have e0:ad.add 0=ad:=by simp [Addr.add]
  rw [e0] at hc
  have e2:(0:Int)<(n:Int):=by omega
  have e3:(1:Int)<(n:Int):=by omega
  have eo:=or_join (i:=32) (x:=y) (y:=x) (by omega) (by omega) (by omega);rw [show (2:Nat)^32=4294967296 from rfl] at eo ht;rw [show ((y*4294967296:Nat):Int)=(y:Int)*4294967296 from by omega] at eo;rw [<- ht];clear ht hx hy h
  go_enter Tryz.func255,Tryz.ntmps255
  go_wp2_with fail;refine HW.out.mono ?_;rintro e w' ⟨rfl,rfl⟩;go_wp2_with fail
  go_quiet (fail)
  go_wp2
  go_ret2
  refine⟨?_,_,rfl⟩
  show Ending.returned (.tuple #[.int .u64 ((y:Int)*4294967296+(x:Int)),.bool true])=_
  rw [show (y:Int)*4294967296+(x:Int)=((x+4294967296*y:Nat):Int) from by omega]
theorem digs_two{v:Nat}(h:v<18446744073709551616):num [v % 4294967296,v / 4294967296]=v:=by
 simp [num];omega
theorem nsmall_any(v:Nat)(w:World)(hv:v<18446744073709551616):
  Calls Tryz.prog 169 #[.int .u64 (v:Int)] w (NewU32 w (digs v)):=by
 have HU:=Hd (U32s.lit2 w 117 (a:=v % 4294967296) (b:=v / 4294967296) (by omega) (by omega));have HC:=Hd (cut_any _ _ _ _ _ HU.out);have HD:=Hd HU.out.cutd;rw [digs_two hv] at HD
 obtain⟨k,hk⟩:∃ k,wlen [v % 4294967296,v / 4294967296]=k:=⟨_,rfl⟩
 rw [hk] at HC HD;clear hk HU
 go_enter Tryz.func169,Tryz.ntmps169
 go_wp2_with fail;rw [show (v:Int) % 4294967296=((v % 4294967296:Nat):Int) from by omega,show (v:Int) / 4294967296=((v / 4294967296:Nat):Int) from by omega];refine HC.out.mono ?_;rintro e w' ⟨rfl,rfl⟩;go_wp2
 go_ret
 exact⟨_,k,k,rfl,HD.out,below_alloc _ _⟩
end
theorem set_mid{ls r:List Nat}{i x:Nat}(hi:ls.length=i)(h:0<r.length):(ls ++ r).set i x=(ls ++ [x]) ++ r.tail:=by
 subst hi
 cases r with
 | nil=>simp at h
 | cons a l=>simp [List.set_append]
theorem tail_replicate(n:Nat):(List.replicate n 0).tail=List.replicate (n - 1) 0:=by cases n<;>simp [List.replicate_succ]
theorem tail_drop(xs:List Nat)(i:Nat):(xs.drop i).tail=xs.drop (i+1):=by simp
def AddArr(xs ys cur:List Nat)(N i c:Nat):Prop:=∃ ls,PlusInv xs ys ls i c/\cur=ls ++ List.replicate (N - i) 0
theorem AddArr.start(xs ys:List Nat)(N:Nat):AddArr xs ys (List.replicate N 0) N 0 0:=⟨[],PlusInv.start _ _,by simp⟩
theorem AddArr.len{xs ys cur:List Nat}{N i c:Nat}(h:AddArr xs ys cur N i c)(hi:i<=N):cur.length=N:=by
 obtain⟨ls,h1,rfl⟩:=h;have:=h1.len
 simp;omega
theorem AddArr.w32{xs ys cur:List Nat}{N i c:Nat}(h:AddArr xs ys cur N i c):W32 cur:=by
 obtain⟨ls,h1,rfl⟩:=h
 exact h1.1.append (W32.replicate _)
theorem AddArr.carry{xs ys cur:List Nat}{N i c:Nat}(h:AddArr xs ys cur N i c):c<=1:=by
 obtain⟨ls,h1,rfl⟩:=h
 exact h1.carry
theorem AddArr.zero{xs ys cur:List Nat}{N i c:Nat}(h:AddArr xs ys cur N i c):cur[i]?.getD 0=0:=by
 obtain⟨ls,h1,rfl⟩:=h;rw [List.getElem?_append_right (by rw [h1.len];omega),h1.len,List.getElem?_replicate]
 split<;>rfl
theorem AddArr.step{xs ys cur:List Nat}{N i c t:Nat}(h:AddArr xs ys cur N i c)(hi:i<N)(hx:W32 xs)(hy:W32 ys)(ht:t=c+xs[i]?.getD 0+ys[i]?.getD 0):
  AddArr xs ys (cur.set i (t % 4294967296)) N (i+1) (t / 4294967296):=by
 obtain⟨ls,h1,rfl⟩:=h;refine⟨ls ++ [t % 4294967296],h1.step hx hy ht,?_⟩;rw [set_mid h1.len (by simp;omega),tail_replicate]
 congr 2
theorem AddArr.done{xs ys cur:List Nat}{n c:Nat}(h:AddArr xs ys cur (n+1) n c)(hx:xs.length<=n)(hy:ys.length<=n):
  num (cur.set n c)=num xs+num ys/\W32 (cur.set n c):=by
 obtain⟨ls,h1,rfl⟩:=h;have h2:=h1.done hx hy;have h3:=h1.carry;rw [set_mid h1.len (by simp),tail_replicate]
 simp only [Nat.add_sub_cancel_left,Nat.sub_self,List.replicate_zero,List.append_nil]
 refine⟨?_,h2.2⟩;have:=h2.1;rw [trim_eq_digs h2.2] at this;have h4:=congrArg num this
 rwa [num_digs,num_digs] at h4
def LessArr(xs ys cur:List Nat)(i c:Nat):Prop:=∃ ls,MinusInv xs ys ls i c/\cur=ls ++ xs.drop i
theorem LessArr.start(xs ys:List Nat):LessArr xs ys xs 0 0:=⟨[],MinusInv.start _ _,by simp⟩
theorem LessArr.len{xs ys cur:List Nat}{i c:Nat}(h:LessArr xs ys cur i c)(hi:i<=xs.length):cur.length=xs.length:=by
 obtain⟨ls,h1,rfl⟩:=h;have:=h1.len
 simp;omega
theorem LessArr.w32{xs ys cur:List Nat}{i c:Nat}(h:LessArr xs ys cur i c)(hx:W32 xs):W32 cur:=by
 obtain⟨ls,h1,rfl⟩:=h
 exact h1.1.append (hx.drop _)
theorem LessArr.carry{xs ys cur:List Nat}{i c:Nat}(h:LessArr xs ys cur i c):c<=1:=by
 obtain⟨ls,h1,rfl⟩:=h
 exact h1.carry
theorem LessArr.at{xs ys cur:List Nat}{i c:Nat}(h:LessArr xs ys cur i c):cur[i]?.getD 0=xs[i]?.getD 0:=by
 obtain⟨ls,h1,rfl⟩:=h;rw [List.getElem?_append_right (by rw [h1.len];omega),h1.len,List.getElem?_drop,Nat.sub_self,Nat.add_zero]
theorem LessArr.step{xs ys cur:List Nat}{i c d c':Nat}(h:LessArr xs ys cur i c)(hi:i<xs.length)(hd:d<4294967296)(hc':c'<=1)
  (ht:d+ys[i]?.getD 0+c=xs[i]?.getD 0+4294967296*c'):LessArr xs ys (cur.set i d) (i+1) c':=by
 obtain⟨ls,h1,rfl⟩:=h;refine⟨ls ++ [d],h1.step hd hc' ht,?_⟩;rw [set_mid h1.len (by simp;omega),tail_drop]
theorem LessArr.done{xs ys cur:List Nat}{c:Nat}(h:LessArr xs ys cur xs.length c)(hx:W32 xs)(hy:W32 ys)(hle:num ys<=num xs):num cur=num xs - num ys:=by
 obtain⟨ls,h1,rfl⟩:=h;rw [List.drop_length,List.append_nil]
 exact h1.done rfl hx hy hle
theorem LessArr.early{xs ys cur:List Nat}{i:Nat}(h:LessArr xs ys cur i 0)(hi:i<=xs.length)(hy:ys.length<=i):num cur=num xs - num ys:=by
 obtain⟨ls,h1,rfl⟩:=h;obtain⟨hw,hl,-,hs⟩:=h1;rw [List.take_of_length_le hy,Nat.mul_zero,Nat.add_zero] at hs;have e:=num_take_drop xs i;rw [Nat.min_eq_left hi] at e;rw [num_append,hl]
 omega
def ShiftArr(xs cur:List Nat)(N s i c:Nat):Prop:=
 ∃ ls,W32 ls/\ls.length=i/\c<2^s/\num ls+2^(32*i)*c=num (xs.take i)*2^s/\cur=ls ++ List.replicate (N - i) 0
theorem ShiftArr.start(xs:List Nat)(N s:Nat):ShiftArr xs (List.replicate N 0) N s 0 0:=⟨[],W32.nil,rfl,Nat.two_pow_pos s,by simp [num],by simp⟩
theorem ShiftArr.len{xs cur:List Nat}{N s i c:Nat}(h:ShiftArr xs cur N s i c)(hi:i<=N):cur.length=N:=by
 obtain⟨ls,_,h1,_,_,rfl⟩:=h
 simp;omega
theorem ShiftArr.w32{xs cur:List Nat}{N s i c:Nat}(h:ShiftArr xs cur N s i c):W32 cur:=by
 obtain⟨ls,h0,h1,_,_,rfl⟩:=h
 exact h0.append (W32.replicate _)
theorem ShiftArr.carry{xs cur:List Nat}{N s i c:Nat}(h:ShiftArr xs cur N s i c):c<2^s:=by
 obtain⟨ls,h0,h1,h2,_,rfl⟩:=h
 exact h2
theorem ShiftArr.step{xs cur:List Nat}{N s i c t:Nat}(h:ShiftArr xs cur N s i c)(hi:i<N)(hx:W32 xs)(ht:t=xs[i]?.getD 0*2^s+c):
  ShiftArr xs (cur.set i (t % 4294967296)) N s (i+1) (t / 4294967296):=by
 obtain⟨ls,h0,h1,h2,h3,rfl⟩:=h;have h4:=hx.get i;refine⟨ls ++ [t % 4294967296],h0.append (W32.cons (by omega) W32.nil),by simp [h1],?_,?_,?_⟩
 ·refine Nat.div_lt_of_lt_mul ?_;rw [ht];have h5:(xs[i]?.getD 0+1)*2^s<=4294967296*2^s:=Nat.mul_le_mul_right _ h4;rw [Nat.add_mul,Nat.one_mul] at h5
  omega
 ·rw [num_snoc,h1,num_take_next,Nat.add_mul,<- h3,pow32]
  have e1:2^(32*i)*xs[i]?.getD 0*2^s+2^(32*i)*c=2^(32*i)*t:=by rw [ht,Nat.mul_add,Nat.mul_assoc]
  have e2:2^(32*i)*(t % 4294967296)+2^32*2^(32*i)*(t / 4294967296)=2^(32*i)*t:=by
   rw [Nat.mul_comm (2^32),Nat.mul_assoc,<- Nat.mul_add];congr 1;omega
  omega
 ·rw [set_mid h1 (by simp;omega),tail_replicate];congr 2
theorem ShiftArr.done{xs cur:List Nat}{n s c:Nat}(h:ShiftArr xs cur (n+1) s n c)(hx:xs.length<=n)(hs:s<=32):num (cur.set n c)=num xs*2^s/\W32 (cur.set n c):=by
 obtain⟨ls,h0,h1,h2,h3,rfl⟩:=h;have h4:2^s<=2^32:=Nat.pow_le_pow_right (by omega) hs;rw [set_mid h1 (by simp),tail_replicate]
 simp only [Nat.add_sub_cancel_left,Nat.sub_self,List.replicate_zero,List.append_nil]
 refine⟨?_,h0.append (W32.cons (by omega) W32.nil)⟩;rw [num_snoc,h1,h3,List.take_of_length_le hx]
def BackArr(xs cur:List Nat)(s i:Nat):Prop:=∃ ls,RightInv xs ls 0 s i/\cur=ls ++ xs.drop i
theorem BackArr.start(xs:List Nat)(s:Nat):BackArr xs xs s 0:=⟨[],RightInv.start _ _ _,by simp⟩
theorem BackArr.len{xs cur:List Nat}{s i:Nat}(h:BackArr xs cur s i)(hi:i<=xs.length):cur.length=xs.length:=by
 obtain⟨ls,⟨_,h1,_⟩,rfl⟩:=h
 simp;omega
theorem BackArr.w32{xs cur:List Nat}{s i:Nat}(h:BackArr xs cur s i)(hx:W32 xs):W32 cur:=by
 obtain⟨ls,⟨h1,_⟩,rfl⟩:=h
 exact h1.append (hx.drop _)
theorem BackArr.at{xs cur:List Nat}{s i k:Nat}(h:BackArr xs cur s i)(hk:i<=k):cur[k]?.getD 0=xs[k]?.getD 0:=by
 obtain⟨ls,⟨_,h1,_⟩,rfl⟩:=h;rw [List.getElem?_append_right (by omega),h1,List.getElem?_drop]
 congr 2;omega
theorem BackArr.step{xs cur:List Nat}{s i v:Nat}(h:BackArr xs cur s i)(hi:i<xs.length)(hx:W32 xs)(hs:s<32)(hv:v=xs[i]?.getD 0+4294967296*xs[i+1]?.getD 0):
  BackArr xs (cur.set i (v / 2^s % 4294967296)) s (i+1):=by
 obtain⟨ls,h1,rfl⟩:=h;refine⟨ls ++ [v / 2^s % 4294967296],h1.step hx hs (by simpa using hv),?_⟩;rw [set_mid h1.2.1 (by simp;omega),tail_drop]
theorem BackArr.done{xs cur:List Nat}{s:Nat}(h:BackArr xs cur s xs.length)(hx:W32 xs):num cur=num xs / 2^s:=by
 obtain⟨ls,h1,rfl⟩:=h;rw [List.drop_length,List.append_nil];have:=h1.done hx (by have:=wlen_le xs;omega)
 simpa using this
section
open Go.RowKit
def NewU32E(w:World)(xs:List Nat)(e:Ending)(w':World):Prop:=
 ∃ A n c,e=.returned (.tuple #[.slice A n c,.int .i64 0])/\U32s w' A n c xs/\Below w.heap.size w w'
theorem words_q(A:Option Addr)(n c:Nat)(xs:List Nat)(w:World)(h:U32s w A n c xs)(k:Nat):
  Calls Tryz.prog 203 #[.slice A n c] (w.drewN k) fun e w'=>e=.returned (.int .i64 (wlen xs))/\w'=w.drewN k:=
 (nwords_any A n c xs (w.drewN k) (h.keep (Nat.le_refl _) fun _ _ _=>rfl)).mono fun _ _ h=>⟨h.1,h.2.symm⟩
theorem nadd_any(A B:Option Addr)(n c m d:Nat)(xs ys:List Nat)(w:World)(hx:U32s w A n c xs)(hy:U32s w B m d ys)(hl1:wlen xs<=16383)(hl2:wlen ys<=16383):
  Calls Tryz.prog 159 #[.slice A n c,.slice B m d] w (NewU32E w (digs (num xs+num ys))):=by
 obtain⟨w1,hw1⟩:∃ w1,w.alloc (.cells #[.slice A n c,.slice B m d] 40)=w1:=⟨_,rfl⟩
 have hb1:Below w.heap.size w w1:=by rw [<- hw1];exact below_alloc w _
 have hx1:=hx.below hb1;have hy1:=hy.below hb1;have hlong:=long_two w.heap.size A n c xs B m d ys w1 hx1 (by rw [<- hw1];simp [World.cell?_alloc_new]) (by omega) hy1 (by rw [<- hw1];simp [World.cell?_alloc_new]) (by omega);have HLG:=Hd hlong;have HQ1:=Hd (words_q A n c xs w1 hx1);have HQ2:=Hd (words_q B m d ys w1 hy1);have n1:=hx.small;have n2:=hy.small;have cc1:=hx.cap;have cc2:=hy.cap;have l1:=wlen_le xs;have l2:=wlen_le ys;rw [hx.len] at l1;rw [hy.len] at l2;have e1:=num_trim xs;have e2:=num_trim ys;rw [trim_eq_take] at e1 e2;have HX0:=hx1.take l1;have HY0:=hy1.take l2
 obtain⟨p,hp⟩:∃ p,wlen xs=p:=⟨_,rfl⟩
 obtain⟨q,hq⟩:∃ p,wlen ys=p:=⟨_,rfl⟩
 rw [hp] at HQ1 l1 hl1 e1 HX0;rw [hq] at HQ2 l2 hl2 e2 HY0
 obtain⟨us,hus⟩:∃ l,xs.take p=l:=⟨_,rfl⟩
 obtain⟨vs,hvs⟩:∃ l,ys.take q=l:=⟨_,rfl⟩
 rw [hus] at e1 HX0;rw [hvs] at e2 HY0;rw [<- e1,<- e2];have HX:=Hd HX0;have HY:=Hd HY0;have HB1:=Hd hb1;have HW1:=Hd hw1;clear hx hy hx1 hy1 hlong hb1 hp hq e1 e2 HX0 HY0 hus hvs hw1
 go_enter Tryz.func159,Tryz.ntmps159
 go_wp2_with fail;rw [HW1.out];refine HLG.out.mono ?_;rintro e w' ⟨rfl,rfl⟩;go_wp2_with fail
 go_quiet ((first | (go_at_call_of 203 (Value.slice A n c);exact Calls.quiet_of_same (HQ1.out _)) | (go_at_call_of 203 (Value.slice B m d);exact Calls.quiet_of_same (HQ2.out _))))
 obtain⟨w2,hw2⟩:∃ w2,w1.drewN nq=w2:=⟨_,rfl⟩
 have HB2:=Hd (show Below w.heap.size w w2 from by rw [<- hw2];exact below_drewN HB1.out nq);have HX2:=Hd (show U32s w2 A p c us from by rw [<- hw2];exact HX.out.keep (Nat.le_refl _) fun _ _ _=>rfl);have HY2:=Hd (show U32s w2 B q d vs from by rw [<- hw2];exact HY.out.keep (Nat.le_refl _) fun _ _ _=>rfl);rw [hw2];clear hw2 HQ1 HQ2 HLG HX HY HB1 HW1
 by_cases hsw:p<q
 ·have hmk:=fun W=>make_u32 (N:=(q:Int)+1) (n:=q+1) (by omega) (by omega) W;go_wp2
  go_loopw [7,8,9,35] (fun cv _ _ iv wr=>∃ (i k:Nat) (cur:List Nat),iv=.int .i64 i/\cv=.int .u32 k/\i<=q/\AddArr vs us cur (q+1) i k/\Arr wr w2.heap.size cur/\Below w2.heap.size w2 wr) (fun _ _ _ iv _=>q - (intOf iv).toNat)
  case atStart=>exact⟨0,0,_,rfl,rfl,Nat.zero_le _,AddArr.start _ _ _,Arr.zeros _ _,below_alloc _ _⟩
  case round=>
   obtain⟨i,k,cur,rfl,rfl,hi,hinv,harr,hb⟩:=hrel;have HI:=Hd hinv;have HA:=Hd harr;have hk1:=hinv.carry;clear hinv harr hmk
   by_cases hlt:i<q
   ·obtain⟨ad,e,hc⟩:=(HY2.out.below hb).cell (j:=i) hlt
    cases e
    have hx1:=HY2.out.lt i;have hf:=HA.out.frozen i;have hcc:=HA.out.cell (j:=i) (by rw [HI.out.len (by omega)];omega);rw [HI.out.zero] at hcc
    obtain⟨x,hx⟩:∃ x,vs[i]?.getD 0=x:=⟨_,rfl⟩
    rw [hx] at hc hx1;have HXX:=Hd hx;clear hx
    have i1:(i:Int)<(((q+1:Nat)):Int):=by omega
    by_cases hlq:i<p
    ·obtain⟨ad',e,hc'⟩:=(HX2.out.below hb).cell (j:=i) hlq
     cases e
     have hy1:=HX2.out.lt i
     obtain⟨y,hy⟩:∃ x,us[i]?.getD 0=x:=⟨_,rfl⟩
     rw [hy] at hc' hy1;have HYY:=Hd hy;clear hy;go_wp2
     go_roundw
     case rel=>
      refine⟨i+1,(k+x+y) / 4294967296,cur.set i ((k+x+y) % 4294967296),by go_num,by go_num,by omega,HI.out.step (by omega) HY2.out.w32 HX2.out.w32 (by rw [HXX.out,HYY.out]),?_,hb.setCell (Nat.le_refl _) _⟩;rw [show ((x:Int)+(y:Int)+(k:Int)) % 4294967296=(((k+x+y) % 4294967296:Nat):Int) from by omega]
      exact HA.out.set i ((k+x+y) % 4294967296)
     case measure=>simp [intOf];omega
    ·have HYY:=Hd (show us[i]?.getD 0=0 by rw [List.getElem?_eq_none (by rw [HX2.out.len];omega)];rfl);go_wp2
     go_roundw
     case rel=>
      refine⟨i+1,(k+x+0) / 4294967296,cur.set i ((k+x+0) % 4294967296),by go_num,by go_num,by omega,HI.out.step (by omega) HY2.out.w32 HX2.out.w32 (by rw [HXX.out,HYY.out]),?_,hb.setCell (Nat.le_refl _) _⟩;rw [show ((x:Int)+(k:Int)) % 4294967296=(((k+x+0) % 4294967296:Nat):Int) from by omega]
      exact HA.out.set i ((k+x+0) % 4294967296)
     case measure=>simp [intOf];omega
   ·obtain rfl:i=q:=by omega
    have hd:=HI.out.done (by rw [HY2.out.len];omega) (by rw [HX2.out.len];omega);have hl:=HI.out.len (by omega);have hcc:=HA.out.cell (j:=i) (by rw [hl];omega);rw [HI.out.zero] at hcc;have hf:=HA.out.frozen i;have hA:=HA.out.set i k;have hb3:=hb.setCell (p:=⟨w2.heap.size,i,none⟩) (Nat.le_refl _) (wd k);have hu:=hA.u32s' (n:=i+1) hd.2 (by simp [hl]) (by omega)
    have hb4:num vs<2^(32*i):=by have:=num_lt HY2.out.w32;rwa [HY2.out.len] at this
    have hb5:num us<2^(32*i):=by
     have:=num_lt HX2.out.w32;rw [HX2.out.len] at this
     exact Nat.lt_of_lt_of_le this (Nat.pow_le_pow_right (by omega) (by omega))
    have hwl:wlen (cur.set i k)<=16384:=Nat.le_trans (wlen_lt hd.2 (K:=i+1) (by rw [hd.1,pow32];omega)) (by omega);have HF:=Hd (fit_any _ _ _ _ _ hu hwl);have HD:=Hd hu.cutd;rw [hd.1] at HD
    obtain⟨kk,hkk⟩:∃ kk,wlen (cur.set i k)=kk:=⟨_,rfl⟩
    rw [hkk] at HF HD;have HBB:=Hd (HB2.out.trans (hb3.mono HB2.out.size))
    have i1:(i:Int)<((i+1:Nat):Int):=by omega
    clear hkk hwl hd hl hA hb3 hu hb HI HA hb4 hb5;go_wp2_with fail;refine HF.out.mono ?_;rintro e w' ⟨rfl,rfl⟩;go_wp2
    go_ret2
    exact⟨_,kk,kk,rfl,by rw [Nat.add_comm];exact HD.out,HBB.out⟩
 ·have hmk:=fun W=>make_u32 (N:=(p:Int)+1) (n:=p+1) (by omega) (by omega) W;go_wp2
  go_loopw [7,8,9,35] (fun cv _ _ iv wr=>∃ (i k:Nat) (cur:List Nat),iv=.int .i64 i/\cv=.int .u32 k/\i<=p/\AddArr us vs cur (p+1) i k/\Arr wr w2.heap.size cur/\Below w2.heap.size w2 wr) (fun _ _ _ iv _=>p - (intOf iv).toNat)
  case atStart=>exact⟨0,0,_,rfl,rfl,Nat.zero_le _,AddArr.start _ _ _,Arr.zeros _ _,below_alloc _ _⟩
  case round=>
   obtain⟨i,k,cur,rfl,rfl,hi,hinv,harr,hb⟩:=hrel;have HI:=Hd hinv;have HA:=Hd harr;have hk1:=hinv.carry;clear hinv harr hmk
   by_cases hlt:i<p
   ·obtain⟨ad,e,hc⟩:=(HX2.out.below hb).cell (j:=i) hlt
    cases e
    have hx1:=HX2.out.lt i;have hf:=HA.out.frozen i;have hcc:=HA.out.cell (j:=i) (by rw [HI.out.len (by omega)];omega);rw [HI.out.zero] at hcc
    obtain⟨x,hx⟩:∃ x,us[i]?.getD 0=x:=⟨_,rfl⟩
    rw [hx] at hc hx1;have HXX:=Hd hx;clear hx
    have i1:(i:Int)<(((p+1:Nat)):Int):=by omega
    by_cases hlq:i<q
    ·obtain⟨ad',e,hc'⟩:=(HY2.out.below hb).cell (j:=i) hlq
     cases e
     have hy1:=HY2.out.lt i
     obtain⟨y,hy⟩:∃ x,vs[i]?.getD 0=x:=⟨_,rfl⟩
     rw [hy] at hc' hy1;have HYY:=Hd hy;clear hy;go_wp2
     go_roundw
     case rel=>
      refine⟨i+1,(k+x+y) / 4294967296,cur.set i ((k+x+y) % 4294967296),by go_num,by go_num,by omega,HI.out.step (by omega) HX2.out.w32 HY2.out.w32 (by rw [HXX.out,HYY.out]),?_,hb.setCell (Nat.le_refl _) _⟩;rw [show ((x:Int)+(y:Int)+(k:Int)) % 4294967296=(((k+x+y) % 4294967296:Nat):Int) from by omega]
      exact HA.out.set i ((k+x+y) % 4294967296)
     case measure=>simp [intOf];omega
    ·have HYY:=Hd (show vs[i]?.getD 0=0 by rw [List.getElem?_eq_none (by rw [HY2.out.len];omega)];rfl);go_wp2
     go_roundw
     case rel=>
      refine⟨i+1,(k+x+0) / 4294967296,cur.set i ((k+x+0) % 4294967296),by go_num,by go_num,by omega,HI.out.step (by omega) HX2.out.w32 HY2.out.w32 (by rw [HXX.out,HYY.out]),?_,hb.setCell (Nat.le_refl _) _⟩;rw [show ((x:Int)+(k:Int)) % 4294967296=(((k+x+0) % 4294967296:Nat):Int) from by omega]
      exact HA.out.set i ((k+x+0) % 4294967296)
     case measure=>simp [intOf];omega
   ·obtain rfl:i=p:=by omega
    have hd:=HI.out.done (by rw [HX2.out.len];omega) (by rw [HY2.out.len];omega);have hl:=HI.out.len (by omega);have hcc:=HA.out.cell (j:=i) (by rw [hl];omega);rw [HI.out.zero] at hcc;have hf:=HA.out.frozen i;have hA:=HA.out.set i k;have hb3:=hb.setCell (p:=⟨w2.heap.size,i,none⟩) (Nat.le_refl _) (wd k);have hu:=hA.u32s' (n:=i+1) hd.2 (by simp [hl]) (by omega)
    have hb4:num us<2^(32*i):=by have:=num_lt HX2.out.w32;rwa [HX2.out.len] at this
    have hb5:num vs<2^(32*i):=by
     have:=num_lt HY2.out.w32;rw [HY2.out.len] at this
     exact Nat.lt_of_lt_of_le this (Nat.pow_le_pow_right (by omega) (by omega))
    have hwl:wlen (cur.set i k)<=16384:=Nat.le_trans (wlen_lt hd.2 (K:=i+1) (by rw [hd.1,pow32];omega)) (by omega);have HF:=Hd (fit_any _ _ _ _ _ hu hwl);have HD:=Hd hu.cutd;rw [hd.1] at HD
    obtain⟨kk,hkk⟩:∃ kk,wlen (cur.set i k)=kk:=⟨_,rfl⟩
    rw [hkk] at HF HD;have HBB:=Hd (HB2.out.trans (hb3.mono HB2.out.size))
    have i1:(i:Int)<((i+1:Nat):Int):=by omega
    clear hkk hwl hd hl hA hb3 hu hb HI HA hb4 hb5;go_wp2_with fail;refine HF.out.mono ?_;rintro e w' ⟨rfl,rfl⟩;go_wp2
    go_ret2
    exact⟨_,kk,kk,rfl,HD.out,HBB.out⟩
end
section
open Go.RowKit
theorem top_bit{v:Nat}(h:v<4294967296):v / 2147483648=(v.testBit 31).toNat:=by
 rw [Nat.testBit_eq_decide_div_mod_eq,show (2:Nat)^31=2147483648 from rfl]
 by_cases hc:v / 2147483648 % 2=1<;>simp [hc]<;>omega
theorem test31{v:Nat}(h:v<4294967296):v.testBit 31=decide (2147483648<=v):=by
 rw [Nat.testBit_eq_decide_div_mod_eq,show (2:Nat)^31=2147483648 from rfl]
 congr 1
 apply propext
 constructor<;>intro h<;>omega
theorem borrow_nat{x y d b:Nat}(hx:x<4294967296)(hy:y<4294967296)(hb:b<=1)(hd:d=(x+8589934592 - y - b) % 4294967296):
  (((4294967295 ^^^ x) &&& y) ||| ((4294967295 ^^^ (x ^^^ y)) &&& d)) / 2147483648=if x<y+b then 1 else 0:=by
 have hd':d<4294967296:=by omega
 have h1:((4294967295 ^^^ x) &&& y)<2^32:=Nat.and_lt_two_pow _ hy;have h2:((4294967295 ^^^ (x ^^^ y)) &&& d)<2^32:=Nat.and_lt_two_pow _ hd';rw [top_bit (Nat.or_lt_two_pow h1 h2)]
 simp only [Nat.testBit_or,Nat.testBit_and,Nat.testBit_xor,test31 hx,test31 hy,test31 hd',show (4294967295:Nat).testBit 31=true from by decide]
 by_cases a1:2147483648<=x<;>by_cases a2:2147483648<=y<;>by_cases a3:2147483648<=d<;>simp [a1,a2,a3]<;>omega
theorem borrow_int{x y b:Nat}(hx:x<4294967296)(hy:y<4294967296)(hb:b<=1):
  bits .or .u32 (bits .and .u32 (bits .xor .u32 IntKind.u32.max (x:Int)) (y:Int)) (bits .and .u32 (bits .xor .u32 IntKind.u32.max (bits .xor .u32 (x:Int) (y:Int))) (((x:Int) - (y:Int) - (b:Int)) % 4294967296)) / 2147483648
   = ((if x<y+b then 1 else 0:Nat):Int):=by
 obtain⟨d,hd⟩:∃ d,d=(x+8589934592 - y - b) % 4294967296:=⟨_,rfl⟩
 have e1:((x:Int) - (y:Int) - (b:Int)) % 4294967296=(d:Int):=by omega
 have e2:IntKind.u32.max=((4294967295:Nat):Int):=rfl
 have hd':d<4294967296:=by omega
 have b1:4294967295 ^^^ x<2^32:=Nat.xor_lt_two_pow (by omega) hx;have b2:x ^^^ y<2^32:=Nat.xor_lt_two_pow hx hy;have b3:4294967295 ^^^ (x ^^^ y)<2^32:=Nat.xor_lt_two_pow (by omega) b2;have b4:(4294967295 ^^^ x) &&& y<4294967296:=Nat.and_lt_two_pow (n:=32) _ hy;have b5:(4294967295 ^^^ (x ^^^ y)) &&& d<4294967296:=Nat.and_lt_two_pow (n:=32) _ hd';rw [e1,e2,u32_xor_nat _ _ (by omega) hx,u32_and_nat _ _ b1 hy,u32_xor_nat _ _ hx hy,u32_xor_nat _ _ (by omega) b2,u32_and_nat _ _ b3 hd',u32_or_nat _ _ b4 b5,<- borrow_nat hx hy hb hd]
 rfl
theorem sub32_any(x y b:Nat)(w:World)(hx:x<4294967296)(hy:y<4294967296)(hb:b<=1):
  Calls Tryz.prog 242 #[.int .u32 (x:Int),.int .u32 (y:Int),.int .u32 (b:Int)] w fun e w'=>e=.returned (.tuple #[.int .u32 (((x+8589934592 - y - b) % 4294967296:Nat):Int),.int .u32 ((if x<y+b then 1 else 0:Nat):Int)])/\w=w':=by
 have hbo:=borrow_int hx hy hb
 obtain⟨bo,hbo'⟩:∃ bo,(if x<y+b then 1 else 0)=bo:=⟨_,rfl⟩
 rw [hbo'] at hbo ⊢
 have e1:((x:Int) - (y:Int) - (b:Int)) % 4294967296=(((x+8589934592 - y - b) % 4294967296:Nat):Int):=by omega
 rw [<- e1];clear e1 hbo'
 go_enter Tryz.func242,Tryz.ntmps242
 go_wp2
 go_ret2
 exact⟨rfl,rfl⟩
theorem less_any(B:Option Addr)(g n m d:Nat)(rs ys:List Nat)(w:World)(hr:Arr w g rs)(hrw:W32 rs)(hy:U32s w B m d ys)(hne:∀ ad,B=some ad->0<m->ad.block≠g)(hrl:rs.length=n)(hs:n<=8589934592)(hle:num ys<=num rs):
  Calls Tryz.prog 216 #[.slice (some ⟨g,0,none⟩) n n,.slice B m d] w fun e w'=>
   ∃ rs',e=.returned (.tuple #[])/\Arr w' g rs'/\W32 rs'/\rs'.length=n/\num rs'=num rs - num ys/\w.grownBy w' (some g):=by
 have HR:=Hd hr;have HY:=Hd hy;have HRW:=Hd hrw;have HLE:=Hd hle;have HRL:=Hd hrl;have hm:=hy.small;clear hr hy hrw hle hrl
 go_enter Tryz.func216,Tryz.ntmps216
 go_wp2
 go_loopw [4,5,6,9] (fun bv _ _ iv wr=>∃ (i k:Nat) (cur:List Nat),iv=.int .i64 i/\bv=.int .u32 k/\i<=n/\LessArr rs ys cur i k/\Arr wr g cur/\w.grownBy wr (some g)) (fun _ _ _ iv _=>n - (intOf iv).toNat)
 case atStart=>exact⟨0,0,rs,rfl,rfl,Nat.zero_le _,LessArr.start _ _,HR.out,World.grownBy.refl w _⟩
 case round=>
  obtain⟨i,k,cur,rfl,rfl,hi,hinv,harr,hgr⟩:=hrel;have HI:=Hd hinv;have HA:=Hd harr;have HG:=Hd hgr;have hk1:=hinv.carry;clear hinv harr hgr
  by_cases hlt:i<n
  ·have hf:=HA.out.frozen i;have hcc:=HA.out.cell (j:=i) (by rw [HI.out.len (by rw [HRL.out];exact hi),HRL.out];exact hlt);rw [HI.out.at] at hcc;have hx1:=HRW.out.get i
   obtain⟨x,hxx⟩:∃ r,rs[i]?.getD 0=r:=⟨_,rfl⟩
   rw [hxx] at hcc hx1;have HXX:=Hd hxx;clear hxx
   by_cases hlm:i<m
   ·have hU:U32s wr B m d ys:=HY.out.keep HG.out.size (fun ad e h0=>by
     obtain⟨ad',e',hlt',_⟩:=HY.out.at_ h0;rw [e] at e';cases e'
     exact HG.out.block _ hlt' (fun h=>hne ad e h0 (by injection h)))
    obtain⟨ad,rfl,hc⟩:=hU.cell (j:=i) hlm;have hy1:=HY.out.lt i
    obtain⟨y,hyy⟩:∃ y,ys[i]?.getD 0=y:=⟨_,rfl⟩
    rw [hyy] at hc hy1;have HYY:=Hd hyy
    have hq:decide ((m:Int)<=(i:Int))=false:=by simp;omega
    clear hyy hU
    obtain⟨D,hD⟩:∃ D,(x+8589934592 - y - k) % 4294967296=D:=⟨_,rfl⟩
    obtain⟨bo,hbo⟩:∃ D,(if x<y+k then 1 else 0)=D:=⟨_,rfl⟩
    have hS:=fun W=>sub32_any x y k W hx1 (by omega) hk1;rw [hD,hbo] at hS;have HS:=Hd hS
    have hb1:bo<=1:=by rw [<- hbo];split<;>omega
    have hD1:D<4294967296:=by omega
    have HEQ:=Hd (show D+y+k=x+4294967296*bo from by rw [<- hbo];split<;>omega);clear hD hbo hS;go_wp2_with fail;refine cy (HS.out _) ?_;go_wp2
    go_roundw
    case rel=>exact⟨i+1,bo,cur.set i D,by go_num,rfl,by omega,HI.out.step (by rw [HRL.out];exact hlt) hD1 hb1 (by rw [HXX.out,HYY.out];exact HEQ.out),HA.out.set _ _,HG.out.trans ⟨rfl,rfl,rfl,by simp,fun k _ hk=>Below.heap_setCell _ _ _ _ (fun e=>hk (by rw [e]))⟩⟩
    case measure=>simp [intOf];omega
   ·have HYY:=Hd (show ys[i]?.getD 0=0 by rw [List.getElem?_eq_none (by rw [HY.out.len];omega)];rfl)
    have hq:decide ((m:Int)<=(i:Int))=true:=by simp;omega
    rcases Nat.eq_zero_or_pos k with h0 | h0
    ·subst h0;go_wp2;refine bodyPost_ret (results_none rfl _ _ _) rfl ?_
     exact⟨cur,rfl,HA.out,HI.out.w32 HRW.out,by rw [HI.out.len (by rw [HRL.out];exact hi),HRL.out],HI.out.early (by rw [HRL.out];exact hi) (by rw [HY.out.len];omega),HG.out⟩
    ·have hk0:((k:Int) == 0)=false:=by simp;omega
     obtain⟨D,hD⟩:∃ D,(x+8589934592 - 0 - k) % 4294967296=D:=⟨_,rfl⟩
     obtain⟨bo,hbo⟩:∃ D,(if x<0+k then 1 else 0)=D:=⟨_,rfl⟩
     have hS:=fun W=>sub32_any x 0 k W hx1 (by omega) hk1;rw [hD,hbo] at hS;have HS:=Hd hS
     have hb1:bo<=1:=by rw [<- hbo];split<;>omega
     have hD1:D<4294967296:=by omega
     have HEQ:=Hd (show D+0+k=x+4294967296*bo from by rw [<- hbo];split<;>omega);clear hD hbo hS;go_wp2_with fail;refine cy (HS.out _) ?_;go_wp2
     go_roundw
     case rel=>exact⟨i+1,bo,cur.set i D,by go_num,rfl,by omega,HI.out.step (by rw [HRL.out];exact hlt) hD1 hb1 (by rw [HXX.out,HYY.out];exact HEQ.out),HA.out.set _ _,HG.out.trans ⟨rfl,rfl,rfl,by simp,fun k _ hk=>Below.heap_setCell _ _ _ _ (fun e=>hk (by rw [e]))⟩⟩
     case measure=>simp [intOf];omega
  ·obtain rfl:i=n:=by omega
   go_wp2
   go_end0
   have hi1:=HI.out;have hl:=HRL.out;refine⟨cur,rfl,HA.out,hi1.w32 HRW.out,by rw [hi1.len (by rw [hl];exact Nat.le_refl _),hl],?_,HG.out⟩;subst hl
   exact hi1.done HRW.out HY.out.w32 HLE.out
end
section
open Go.RowKit
theorem below_grown{B g:Nat}{w0 w w':World}(hb:Below B w0 w)(hg:w.grownBy w' (some g))(hB:B<=g)(hBw:B<=w.heap.size):Below B w0 w':=
 hb.grown hg hBw (fun k hk=>by cases hk;exact hB)
theorem nsub_any(A B:Option Addr)(n c m d:Nat)(xs ys:List Nat)(w:World)(hx:U32s w A n c xs)(hy:U32s w B m d ys)(hl1:wlen xs<=16384)(hl2:wlen ys<=16384)(hle:num ys<=num xs):
  Calls Tryz.prog 160 #[.slice A n c,.slice B m d] w (NewU32E w (digs (num xs - num ys))):=by
 have HC:=Hd (ncmp_any A B n c m d xs ys w hx hy)
 have hc3:¬ cmp3 (num xs) (num ys)<0:=fun h=>by have:=cmp3_neg.1 h;omega
 obtain⟨r,hr⟩:∃ r,cmp3 (num xs) (num ys)=r:=⟨_,rfl⟩
 rw [hr] at HC hc3;have hlong:=fun (W:World) (hb:Below w.heap.size w W)=>long_two W.heap.size A n c xs B m d ys (W.alloc (.cells #[.slice A n c,.slice B m d] 40)) ((hx.below hb).alloc _) (by simp [World.cell?_alloc_new]) hl1 ((hy.below hb).alloc _) (by simp [World.cell?_alloc_new]) hl2;have HLG:=Hd hlong;have HN:=Hd fun (W:World) (hb:Below w.heap.size w W)=>nnorm_any A n c xs W (hx.below hb);have HQ:=Hd fun (W:World) (hb:Below w.heap.size w W)=>nwords_any B m d ys W (hy.below hb);have n1:=hx.small;have n2:=hy.small;have cc2:=hy.cap;have l2:=wlen_le ys;rw [hy.len] at l2;have e2:=num_trim ys;rw [trim_eq_take] at e2;have HY0:=hy.take l2
 have hlx:(digs (num xs)).length<=16384:=by rw [<- trim_eq_digs hx.w32];exact hl1
 obtain⟨q,hq⟩:∃ p,wlen ys=p:=⟨_,rfl⟩
 rw [hq] at HQ l2 hl2 e2 HY0
 obtain⟨vs,hvs⟩:∃ l,ys.take q=l:=⟨_,rfl⟩
 rw [hvs] at e2 HY0;rw [<- e2] at hle ⊢
 obtain⟨N,hN⟩:∃ N,num xs=N:=⟨_,rfl⟩
 rw [hN] at hle HN hlx ⊢;have HLE:=Hd hle;have HY:=Hd HY0;have HLX:=Hd hlx;clear hx hy hlong hq e2 HY0 hvs hr hl1 hN hle hlx
 go_enter Tryz.func160,Tryz.ntmps160
 go_wp2_with fail;refine HC.out.mono ?_;rintro e w1 ⟨rfl,z,hz⟩;have HB1:=Hd (show Below w.heap.size w w1 from by rw [hz];exact below_drewN (Below.refl _ _) z);clear hz HC;go_wp2_with fail;refine cy (HLG.out _ HB1.out) ?_;have HB2:=Hd (HB1.out.alloc HB1.out.size (.cells #[.slice A n c,.slice B m d] 40));clear HLG HB1
 obtain⟨w2,hw2⟩:∃ W,w1.alloc (.cells #[.slice A n c,.slice B m d] 40)=W:=⟨_,rfl⟩
 rw [hw2] at HB2 ⊢;clear hw2;go_wp2_with fail;refine (HN.out _ HB2.out).mono ?_;rintro e w3 ⟨g,k,rfl,hk,hA,hg,hb⟩;have HA:=Hd hA;have HK:=Hd hk;have hg2:w.heap.size<=g:=Nat.le_trans HB2.out.size hg;have HB3:=Hd (HB2.out.trans (hb.mono HB2.out.size));clear hA hb HB2 HN hg hk;go_wp2_with fail;refine cy (HQ.out _ HB3.out) ?_
 have hlss:=less_any B g k q d (digs N) vs w3 HA.out (W32.digs N) (HY.out.below HB3.out) (fun ad e h0=>by
  obtain⟨ad',e',hlt,_⟩:=HY.out.at_ h0
  rw [e] at e';cases e';omega) HK.out (by rw [<- HK.out];have:=HLX.out;omega) (by rw [num_digs];exact HLE.out)
 rw [num_digs] at hlss;have HL:=Hd hlss;clear hlss;go_wp2_with fail;refine HL.out.mono ?_;rintro e w4 ⟨rs,rfl,hA4,hw4,hl4,hn4,hg4⟩;have hu:=hA4.u32s' hw4 hl4 (by rw [<- HK.out];have:=HLX.out;omega)
 have hwl:wlen rs<=16384:=by
  have h1:=wlen_le rs;rw [hl4,<- HK.out] at h1
  exact Nat.le_trans h1 HLX.out
 have HF:=Hd (fit_any _ _ _ _ _ hu hwl);have HD:=Hd hu.cutd;rw [hn4] at HD;have HB4:=Hd (below_grown HB3.out hg4 hg2 HB3.out.size)
 obtain⟨kk,hkk⟩:∃ kk,wlen rs=kk:=⟨_,rfl⟩
 rw [hkk] at HF HD;clear hkk hwl hu hA4 hw4 hl4 hn4 hg4 HL HA;go_wp2_with fail;refine HF.out.mono ?_;rintro e w' ⟨rfl,rfl⟩;go_wp2
 go_ret2
 exact⟨_,kk,kk,rfl,HD.out,HB4.out⟩
end
section
open Go.RowKit
theorem shift_any(A:Option Addr)(n c s:Nat)(xs:List Nat)(w:World)(hx:U32s w A n c xs)(hs:s<32)(hn:n<=1073741824):
  Calls Tryz.prog 258 #[.slice A n c,.int .i64 (s:Int)] w fun e w'=>∃ zs,NewArr w zs e w'/\W32 zs/\zs.length=n+1/\num zs=num xs*2^s:=by
 have HX:=Hd hx;clear hx;have hmk:=fun W=>make_u32 (N:=(n:Int)+1) (n:=n+1) (by omega) (by omega) W;have hp:2^s<=2147483648:=Nat.pow_le_pow_right (n:=2) (by omega) (show s<=31 by omega);have hp0:=Nat.two_pow_pos s
 go_enter Tryz.func258,Tryz.ntmps258
 go_wp2
 go_loopw [6,7,8,15] (fun cv _ _ iv wr=>∃ (i k:Nat) (cur:List Nat),iv=.int .i64 i/\cv=.int .u64 k/\i<=n/\ShiftArr xs cur (n+1) s i k/\Arr wr w.heap.size cur/\Below w.heap.size w wr) (fun _ _ _ iv _=>n - (intOf iv).toNat)
 case atStart=>exact⟨0,0,_,rfl,rfl,Nat.zero_le _,ShiftArr.start _ _ _,Arr.zeros _ _,below_alloc _ _⟩
 case round=>
  obtain⟨i,k,cur,rfl,rfl,hi,hinv,harr,hb⟩:=hrel;have HI:=Hd hinv;have HA:=Hd harr;have hk1:=hinv.carry;clear hinv harr hmk
  by_cases hlt:i<n
  ·obtain⟨ad,e,hc⟩:=(HX.out.below hb).cell (j:=i) hlt
   cases e
   have hx1:=HX.out.lt i;have hf:=HA.out.frozen i;have hcc:=HA.out.cell (j:=i) (by rw [HI.out.len (by omega)];omega)
   obtain⟨x,hx⟩:∃ x,xs[i]?.getD 0=x:=⟨_,rfl⟩
   rw [hx] at hc hx1;have HXX:=Hd hx;clear hx
   have i1:(i:Int)<((n+1:Nat):Int):=by omega
   have hz1:x*2^s<=4294967295*2147483648:=Nat.mul_le_mul (by omega) hp
   have hsh:(x:Int)*(2:Int)^s=((x*2^s:Nat):Int):=by rw [Int.natCast_mul,Int.natCast_pow];rfl
   have hor:=or_join' (i:=s) (x:=x) (y:=k) (by omega) hk1 (by omega)
   obtain⟨z,hz⟩:∃ z,x*2^s=z:=⟨_,rfl⟩
   rw [hz] at hor hsh hz1;have HZ:=Hd hz;clear hz;go_wp2
   go_roundw
   case rel=>
    refine⟨i+1,(z+k) / 4294967296,cur.set i ((z+k) % 4294967296),by go_num,by go_num,by omega,HI.out.step (by omega) HX.out.w32 (by rw [HXX.out,HZ.out]),?_,hb.setCell (Nat.le_refl _) _⟩;rw [show ((k:Int)+(z:Int)) % 4294967296=(((z+k) % 4294967296:Nat):Int) from by omega]
    exact HA.out.set i ((z+k) % 4294967296)
   case measure=>simp [intOf];omega
  ·obtain rfl:i=n:=by omega
   have hd:=HI.out.done (by rw [HX.out.len];omega) (by omega);have hl:=HI.out.len (by omega);have hcc:=HA.out.cell (j:=i) (by rw [hl];omega);have hf:=HA.out.frozen i;have HAA:=Hd (HA.out.set i k);have HBB:=Hd (hb.setCell (p:=⟨w.heap.size,i,none⟩) (Nat.le_refl _) (wd k));have HL:=Hd (show (cur.set i k).length=i+1 by simp [hl]);have HD:=Hd hd
   have i1:(i:Int)<((i+1:Nat):Int):=by omega
   have hk4:(k:Int) % 4294967296=(k:Int):=by omega
   clear hd hl hb HI HA;go_wp2
   go_ret
   exact⟨cur.set i k,⟨_,i+1,rfl,HL.out,HAA.out,Nat.le_refl _,HBB.out⟩,HD.out.2,HL.out,HD.out.1⟩
theorem getElem_map_wd{zs:List Nat}{j:Nat}{u:Value}(h:(zs.map wd)[j]?=some u):j<zs.length/\u=wd (zs[j]?.getD 0):=by
 rw [List.getElem?_map] at h
 by_cases hj:j<zs.length
 ·rw [List.getElem?_eq_getElem hj] at h ⊢
  simp at h
  exact⟨hj,by simp [h]⟩
 ·rw [List.getElem?_eq_none (by omega)] at h;simp at h
theorem make_cap{N K:Int}{n k:Nat}(hN:N=n)(hK:K=k)(hnk:n<=k)(h:k<=34359738368)(w:World):
  (Instr.makeSlice 40 (.int .i64 N) (.int .i64 K)).run Tryz.prog w=.ok (.slice (some ⟨w.heap.size,0,none⟩) n k) (w.alloc (.cells (Array.replicate k (wd 0)) 117)):=by
 obtain⟨i0,hi,hz0,hz1,hz2⟩:=info_parts info_u32;subst hN hK;have hr:=run_make (P:=Tryz.prog) w 40 117 i0 (.int .u32 0) Tryz.underlying40 hi hz0 .i64 .i64 (n:Int) (k:Int) (by omega) (by omega) (by rw [hz2];omega) (by omega)
 simp only [Int.toNat_natCast] at hr
 have e:madeCells (Value.int .u32 0).cells k=Array.replicate k (wd 0):=by
  have:=toList_madeCells_one (.int .u32 0) k;rw [show (Value.int .u32 0).cells=#[.int .u32 0] from rfl];rw [<- Array.toArray_toList (xs:=madeCells #[Value.int .u32 0] k),this]
  simp
 rw [hr,hz1,Nat.mul_one,e]
theorem ownsRow_make(w:World)(n k:Nat)(hnk:n<=k)(hk:k<=34359738368):
  (w.alloc (.cells (Array.replicate k (wd 0)) 117)).ownsRow w.heap.size 117 1 (.slice (some ⟨w.heap.size,0,none⟩) n k) n ((List.replicate n 0).map wd):=by
 refine⟨by simp,.inr ⟨w.heap.size,k,Array.replicate k (wd 0),rfl,Nat.le_refl _,?_,hnk,by unfold maxLen;omega,by simp,by simp [Nat.min_eq_left hnk]⟩⟩;have:=Arr.zeros w k;unfold Arr at this
 simpa using this
theorem up_any(A:Option Addr)(n c k:Nat)(xs:List Nat)(w:World)(hx:U32s w A n c xs)(hn:n<=1073741824)(hk:k<=1073741824):
  Calls Tryz.prog 233 #[.slice A n c,.int .i64 (k:Int)] w (NewU32 w (digs (num xs*2^k))):=by
 obtain⟨q,hq⟩:∃ q,k / 32=q:=⟨_,rfl⟩
 obtain⟨s,hs⟩:∃ s,k % 32=s:=⟨_,rfl⟩
 have e1:(k:Int) / 32=(q:Int):=by omega
 have e2:(k:Int) % 32=(s:Int):=by omega
 have ek:k=32*q+s:=by omega
 have hq1:q<=1073741824:=by omega
 have hs1:s<32:=by omega
 have hmk:=fun W=>make_cap (N:=(q:Int)) (K:=(q:Int)+(n:Int)+1) (n:=q) (k:=q+n+1) rfl (by omega) (by omega) (by omega) W;have HS:=Hd fun (W:World) (hb:Below w.heap.size w W)=>shift_any A n c s xs W (hx.below hb) hs1 hn;have EK:=Hd ek;clear hx hq hs ek
 obtain⟨w1,hw1⟩:∃ w1,w.alloc (.cells (Array.replicate (q+n+1) (wd 0)) 117)=w1:=⟨_,rfl⟩
 have HB1:=Hd (show Below w.heap.size w w1 from by rw [<- hw1];exact below_alloc w _);have HO1:=Hd (show w1.ownsRow w.heap.size 117 1 (.slice (some ⟨w.heap.size,0,none⟩) q (q+n+1)) q ((List.replicate q 0).map wd) from by rw [<- hw1];exact ownsRow_make w q _ (by omega) (by omega));have HW1:=Hd hw1;clear hw1
 go_enter Tryz.func233,Tryz.ntmps233
 go_wp2_with fail;rw [HW1.out];refine (HS.out _ HB1.out).mono ?_;rintro e w2 ⟨zs,⟨g,nn,rfl,hl,hA,hg,hb⟩,hz,hl2,hv⟩
 obtain rfl:nn=n+1:=by omega
 have HO2:=Hd (HO1.out.kept (row:=some g) (w':=w2) ⟨hb.os,hb.tape,hb.output,hb.size,fun j hj _=>hb.block j hj⟩ (.inr (fun e=>by
  have h1:w.heap.size<w1.heap.size:=(HO1.out.lt w.heap.size rfl).2
  simp [Value.ownBlock] at e;omega)))
 obtain⟨i0,hi0,hz0,hz1,hz2⟩:=info_parts info_u32;have HA:=Hd hA;have HB2:=Hd (HB1.out.trans (hb.mono HB1.out.size));have HZ:=Hd hz;have HV:=Hd hv;have HL:=Hd hl2;have hgw:w.heap.size<=g:=Nat.le_trans HB1.out.size hg
 have HNE:=Hd (show w.heap.size≠g from fun e=>by
  have h1:=(HO1.out.lt _ rfl).2;have h2:w.heap.size<w1.heap.size:=h1
  omega)
 clear hb hA hz hv hl2 hl HB1 HO1 HS hg
 go_wp2_with (at_builtin;(refine wpList_append_own_spare _ rfl (.tmp 15) (.tmp 19) 40 rfl w.heap.size 117 i0 1 Tryz.underlying40 hi0 hz1 w.heap.size q (q+n+1) _ rfl HO2.out ⟨g,0,none⟩ (n+1) (n+1) (zs.map wd) rfl ?c1 ?c2 ?c3 ?c4 ?_))
 case c1=>simp [HL.out]
 case c2=>
  intro j u hu;obtain⟨hj,rfl⟩:=getElem_map_wd hu;rw [show (⟨g,0,none⟩:Addr).add j=⟨g,j,none⟩ from by unfold Addr.add;split<;>simp_all]
  exact HA.out.cell hj
 case c3=>intro u hu;simp at hu;obtain⟨_,_,rfl⟩:=hu;rfl
 case c4=>omega
 intro w3 hown3 hgrow3;rw [show List.replicate q (wd 0) ++ zs.map wd=(List.replicate q 0 ++ zs).map wd from by simp] at hown3;have hw3:W32 (List.replicate q 0 ++ zs):=(W32.replicate q).append HZ.out;have hu:=U32s.own hown3 hw3 (by omega)
 have hval:num (List.replicate q 0 ++ zs)=num xs*2^k:=by
  rw [num_append,num_replicate,List.length_replicate,HV.out,EK.out,Nat.pow_add,Nat.zero_add]
  ac_rfl
 have HC:=Hd (cut_any _ _ _ _ _ hu);have HD:=Hd hu.cutd;rw [hval] at HD;have HB3:=Hd (below_grown HB2.out hgrow3 (Nat.le_refl _) HB2.out.size)
 obtain⟨kk,hkk⟩:∃ kk,wlen (List.replicate q 0 ++ zs)=kk:=⟨_,rfl⟩
 rw [hkk] at HC HD;clear hkk hval hu hw3 hown3 hgrow3;go_wp2_with fail;refine HC.out.mono ?_;rintro e w' ⟨rfl,rfl⟩;go_wp2
 go_ret
 exact⟨_,kk,kk,rfl,HD.out,HB3.out⟩
theorem nshl_any(A:Option Addr)(n c k:Nat)(xs:List Nat)(w:World)(hx:U32s w A n c xs)(hl:wlen xs<=16384)(hk:blen (num xs)+k<=524288):
  Calls Tryz.prog 202 #[.slice A n c,.int .i64 (k:Int)] w (NewU32E w (digs (num xs*2^k))):=by
 have HW:=Hd (nwords_any A n c xs w hx);have n1:=hx.small;have c1:=hx.cap;have l1:=wlen_le xs;rw [hx.len] at l1;have e1:=num_trim xs;rw [trim_eq_take] at e1;have h0:=wlen_eq_zero (l:=xs);have HX0:=hx.take l1
 obtain⟨p,hp⟩:∃ p,wlen xs=p:=⟨_,rfl⟩
 rw [hp] at HW l1 hl e1 HX0 h0
 obtain⟨us,hus⟩:∃ l,xs.take p=l:=⟨_,rfl⟩
 rw [hus] at e1 HX0;rw [<- e1] at hk h0 ⊢
 have hlp:wlen us<=16384:=by
  have h2:=wlen_le us;rw [HX0.len] at h2;omega
 have HLG:=Hd fun (W:World) (hb:Below w.heap.size w W)=>long_one W.heap.size A p c us (W.alloc (.cells #[.slice A p c] 40)) ((HX0.below hb).alloc _) (by simp [World.cell?_alloc_new]) hlp;have HL:=Hd fun (W:World) (hb:Below w.heap.size w W)=>nlen_any A p c us W (HX0.below hb);have HU:=Hd fun (W:World) (hb:Below w.heap.size w W)=>up_any A p c k us W (HX0.below hb) (by omega) (by omega);have HB0:=Hd (Below.refl w.heap.size w)
 obtain⟨b,hb⟩:∃ b,blen (num us)=b:=⟨_,rfl⟩
 rw [hb] at HL hk;clear hx hp hus e1 HX0 hlp hb
 rcases Nat.eq_zero_or_pos p with hp0 | hp0
 ·subst hp0
  have hz:num us*2^k=0:=by rw [h0.1 rfl,Nat.zero_mul]
  rw [hz,digs_zero];clear hz h0 HU HL
  go_enter Tryz.func202,Tryz.ntmps202
  go_wp2_with fail;refine HW.out.mono ?_;rintro e w' ⟨rfl,rfl⟩;go_wp2_with fail;refine cy (HLG.out _ HB0.out) ?_;go_wp2
  go_ret2
  exact⟨none,0,0,rfl,U32s.nil _ _ _,below_alloc _ _⟩
 ·have hq:((p:Int) == 0)=false:=by simp;omega
  have hk2:¬ (k:Int) > 524288 - (b:Int):=by omega
  clear h0
  go_enter Tryz.func202,Tryz.ntmps202
  go_wp2_with fail;refine HW.out.mono ?_;rintro e w' ⟨rfl,rfl⟩;go_wp2_with fail;refine cy (HLG.out _ HB0.out) ?_;have HB1:=Hd (HB0.out.alloc HB0.out.size (.cells #[.slice A p c] 40));clear HLG HB0;go_wp2_with fail;refine cy (HL.out _ HB1.out) ?_;go_wp2_with fail;refine (HU.out _ HB1.out).mono ?_;rintro e w2 ⟨A2,n2,c2,rfl,hu,hb⟩;have HUU:=Hd hu;have HBB:=Hd (HB1.out.trans (hb.mono HB1.out.size));clear hu hb HU HL HB1;go_wp2
  go_ret2
  exact⟨_,n2,c2,rfl,HUU.out,HBB.out⟩
end
section
open Go.RowKit
attribute [local go_sem] run_store_float run_negf
def NewEx(w:World)(x:Rat)(e:Ending)(w':World):Prop:=
 ∃ (neg:Bool) (A:Option Addr) (n c S:Nat) (E:Int),e=.returned (.agg #[.int .i64 0,.bool neg,.slice A n c,.int .i64 E])/\U32s w' A n c (digs S)/\Below w.heap.size w w'/\blen S<=5000/\-1074<=E/\E<=971/\x=rv neg S 1*2^E
def NewExP(w:World)(neg:Bool)(S:Nat)(E:Int)(e:Ending)(w':World):Prop:=
 ∃ (A:Option Addr) (n c:Nat),e=.returned (.agg #[.int .i64 0,.bool neg,.slice A n c,.int .i64 E])/\U32s w' A n c (digs S)/\Below w.heap.size w w'
def NewAl(w:World)(X Y:Nat)(E:Int)(e:Ending)(w':World):Prop:=
 ∃ (A:Option Addr) (n c:Nat) (B:Option Addr) (m d:Nat),e=.returned (.tuple #[.slice A n c,.slice B m d,.int .i64 E])/\U32s w' A n c (digs X)/\U32s w' B m d (digs Y)/\Below w.heap.size w w'
theorem run_min_int{a b E:Int}(h:min a b=E)(W:World)(ts:Array TypeId)(t:TypeId):(Builtin.min_ ts t #[.int .i64 a,.int .i64 b]).run Tryz.prog W=.ok (.int .i64 E) W:=by
 have e:(Builtin.min_ ts t #[.int .i64 a,.int .i64 b])=Builtin.min2 (.int .i64 a) (.int .i64 b):=by simp [Builtin.min_]
 rw [e];unfold Builtin.min2;subst h
 simp [Int.min_def]
 by_cases h:a<=b
 ·rw [if_neg (by omega),if_pos h]
 ·rw [if_pos (by omega),if_neg h]
theorem point_walk(b S:Nat)(x:Int)(neg:Bool)(w:World)(hb:b<18446744073709551616)(hf:rungOf b<M)(hS:S<9007199254740992)(hs:∀ w,Calls Tryz.prog 168 #[.float .f64 b] w (SplitTo w neg S x)):
  Calls Tryz.prog 100 #[.float .f64 b] w (NewExP w neg S x):=by
 have HI0:=fun W=>isinff b W hb (Nat.le_of_lt hf);rw [decide_eq_false (show ¬ rungOf b=M by omega)] at HI0;have HI:=Hd HI0;have HS:=Hd hs;have HN:=Hd fun W=>nsmall_any S W (by omega);clear HI0 hs hb hf hS;obtain⟨LB0,LR⟩:=bx1 w #[.int .i64 0,.bool false,.slice none 0 0,.int .i64 0] 97;have LR0:=Hd (HasBlk.of (n:=4) LR.out rfl rfl);clear LR
 go_enter Tryz.func100,Tryz.ntmps100
 go_wp2_with fail;refine cy (HI.out _) ?_;go_wp2_with fail;refine cx (HS.out _) fun w1 hb1=>?_;have LB1:=stB LB0 hb1 LB0.out.size;have LR1:=stR LR0 hb1;clear LB0 LR0;clear hb1 HI HS;go_wp2_with fail;refine (HN.out _).mono ?_;rintro e w2 ⟨A,n,c,rfl,hu,hb2⟩;have LB2:=stB LB1 hb2 LB1.out.size;have LR2:=stR LR1 hb2;clear LB1 LR1;have FU:=Hd (LR2.out.u32s hu [.int .i64 0,.bool neg,.slice A n c,.int .i64 x]);clear hu hb2 HN;obtain⟨ha0,hf0,ha1,hf1,ha2,hf2,ha3,hf3⟩:=LR2.out.sf4;obtain⟨hk0,hk1,hk2,hk3⟩:=LR2.out.sc4 (.int .i64 0) (.bool neg) (.slice A n c) (.int .i64 x);have F:=Hd (below_sets (w0:=w) (r:=w.heap.size) (by omega) [.int .i64 0,.bool neg,.slice A n c,.int .i64 x] 0 _ LB2.out)
 simp [sets] at hk0 hk1 hk2 hk3
 go_wp2;refine bodyPost_ret (v:=.agg #[.int .i64 0,.bool neg,.slice A n c,.int .i64 x]) (by simp [results,Tryz.results100,go_sem,hk0,hk1,hk2,hk3]) rfl ?_
 exact⟨A,n,c,rfl,FU.out,F.out⟩
theorem point_any(b:Nat)(hb:b<18446744073709551616)(hf:fin b):∃ (neg:Bool) (S:Nat) (x:Int),S<9007199254740992/\-1074<=x/\x<=971/\fl (idx b)=rv neg S 1*2^x/\∀ w,Calls Tryz.prog 100 #[.float .f64 b] w (NewExP w neg S x):=by
 obtain⟨S,x,h1,h2,h3,h4,h5⟩:=split_any b hb hf
 exact⟨_,S,x,h1,h2,h3,h4,fun w=>point_walk b S x _ w hb hf h1 h5⟩
theorem aligned_any(n1:Bool)(A1:Option Addr)(m1 c1 S1:Nat)(e1:Int)(n2:Bool)(A2:Option Addr)(m2 c2 S2:Nat)(e2 E:Int)(k1 k2:Nat)(w:World)(h1:U32s w A1 m1 c1 (digs S1))(h2:U32s w A2 m2 c2 (digs S2))(hE:min e1 e2=E)(hk1:e1 - E=(k1:Int))(hk2:e2 - E=(k2:Int))
  (he1:-1000000<=e1/\e1<=1000000)(he2:-1000000<=e2/\e2<=1000000)(hb1:blen S1+k1<=500000)(hb2:blen S2+k2<=500000):
  Calls Tryz.prog 141 #[.agg #[.int .i64 0,.bool n1,.slice A1 m1 c1,.int .i64 e1],.agg #[.int .i64 0,.bool n2,.slice A2 m2 c2,.int .i64 e2]] w (NewAl w (S1*2^k1) (S2*2^k2) E):=by
 have hm:=fun W ts t=>run_min_int hE W ts t
 have T1:=Hd fun W (hW:Below w.heap.size w W)=>(by
  have h:=nshl_any A1 m1 c1 k1 (digs S1) W (h1.below hW) (wlen_digs_le (K:=16384) (by omega)) (by rw [num_digs];omega)
  rw [num_digs] at h;exact h:Calls Tryz.prog 202 #[.slice A1 m1 c1,.int .i64 (k1:Int)] W (NewU32E W (digs (S1*2^k1))))
 have T2:=Hd fun W (hW:Below w.heap.size w W)=>(by
  have h:=nshl_any A2 m2 c2 k2 (digs S2) W (h2.below hW) (wlen_digs_le (K:=16384) (by omega)) (by rw [num_digs];omega)
  rw [num_digs] at h;exact h:Calls Tryz.prog 202 #[.slice A2 m2 c2,.int .i64 (k2:Int)] W (NewU32E W (digs (S2*2^k2))))
 have hw1:IntKind.i64.wrap (e1 - E)=(k1:Int):=by rw [IntKind.wrap_i64];omega
 have hw2:IntKind.i64.wrap (e2 - E)=(k2:Int):=by rw [IntKind.wrap_i64];omega
 obtain⟨X,hX⟩:∃ z,S1*2^k1=z:=⟨_,rfl⟩
 obtain⟨Y,hY⟩:∃ z,S2*2^k2=z:=⟨_,rfl⟩
 rw [hX] at T1 ⊢;rw [hY] at T2 ⊢;clear h1 h2 hE hb1 hb2 hX hY hk1 hk2 he1 he2;obtain⟨LB0,LG0_0,LG1_0⟩:=bx2 w #[.int .i64 0,.bool n1,.slice A1 m1 c1,.int .i64 e1] 97 #[.int .i64 0,.bool n2,.slice A2 m2 c2,.int .i64 e2] 97
 go_enter Tryz.func141,Tryz.ntmps141
 go_wp2_with fail;refine (T1.out _ LB0.out).mono ?_;rintro e w1 ⟨B1,n3,d1,rfl,hu1,hb1⟩;have LB1:=stB LB0 hb1 LB0.out.size;have LG0_1:=stG LG0_0 hb1;have LG1_1:=stG LG1_0 hb1;clear LB0 LG0_0 LG1_0;have U1:=Hd hu1;clear hu1 hb1 T1;obtain⟨q1_0,q1_1,q1_2,q1_3⟩:=LG1_1.out.c4;go_wp2_with fail;refine (T2.out _ LB1.out).mono ?_;rintro e w2 ⟨B2,n4,d2,rfl,hu2,hb2⟩;have LB2:=stB LB1 hb2 LB1.out.size;have LG0_2:=stG LG0_1 hb2;have LG1_2:=stG LG1_1 hb2;clear LB1 LG0_1 LG1_1;have U2:=Hd (U1.out.below hb2);have V2:=Hd hu2;clear hu2 hb2 T2 U1 q1_0 q1_1 q1_2 q1_3;go_wp2
 go_ret3
 exact⟨_,_,_,_,_,_,rfl,U2.out,V2.out,LB2.out⟩
end
section
open Go.RowKit
attribute [local go_sem] run_store_float run_negf
theorem isinf1(b:Nat)(w:World)(hr:rungOf b<=M):Calls Tryz.prog 161 #[.float .f64 b,.int .i64 1] w fun e w'=>e=.returned (.bool (decide (idx b=M)))/\w=w':=by
 have hM:M=9218868437227405312:=rfl;have hb:=idx_bounds hr
 by_cases h:idx b=M
 ·have ho:=ord_gt (a:=b) (b:=9218868437227405311) hr real_top (by rw [idx_top];omega);rw [decide_eq_true h];clear h hr hM hb
  go_enter Tryz.func161,Tryz.ntmps161
  go_wp2
  go_ret
  exact⟨rfl,rfl⟩
 ·have ho:FloatKind.f64.format.order b 9218868437227405311=some .lt\/FloatKind.f64.format.order b 9218868437227405311=some .eq:=by
   by_cases h2:idx b=M - 1
   ·exact .inr (ord_eq hr real_top (by rw [idx_top];omega))
   ·exact .inl (ord_lt hr real_top (by rw [idx_top];omega))
  rw [decide_eq_false h];clear h hr hM hb
  rcases ho with ho | ho
  all_goals
   go_enter Tryz.func161,Tryz.ntmps161
   go_wp2
   go_ret
   exact⟨rfl,rfl⟩
end
theorem kn_start{P lu lv u0 v0 v1 top U V:Nat}(hU:U=lu+P*(u0+4294967296*top))(hV:V=lv+P*(v0+4294967296*v1))(hlu:lu<P)(hu0:u0<4294967296)(hv1:0<v1):U<(top / v1+1)*V:=by
 obtain⟨t,ht⟩:∃ t,top / v1=t:=⟨_,rfl⟩
 have h1:top+1<=(t+1)*v1:=by
  have:=Nat.lt_div_mul_add (a:=top) hv1;rw [ht] at this;rw [Nat.add_mul];omega
 rw [ht];have h2:(t+1)*(P*(4294967296*v1))<=(t+1)*V:=Nat.mul_le_mul_left _ (by rw [hV,Nat.mul_add];omega);have h3:P*(4294967296*(top+1))<=P*(4294967296*((t+1)*v1)):=Nat.mul_le_mul_left _ (Nat.mul_le_mul_left _ h1)
 have h4:P*(4294967296*((t+1)*v1))=(t+1)*(P*(4294967296*v1)):=by ac_rfl
 have h5:P*(u0+4294967296*top+1)<=P*(4294967296*(top+1)):=Nat.mul_le_mul_left _ (by omega);rw [Nat.mul_add P,Nat.mul_one] at h5
 omega
theorem kn_big{x U V:Nat}(h:U<V*4294967296)(hx:4294967296<=x):U<(x - 1+1)*V:=by
 have:4294967296*V<=x*V:=Nat.mul_le_mul_right _ hx;rw [Nat.mul_comm] at h;rw [Nat.sub_add_cancel (by omega)];omega
theorem kn_step{P lu lv u0 v0 v1 top U V x r:Nat}(hU:U=lu+P*(u0+4294967296*top))(hV:V=lv+P*(v0+4294967296*v1))(hlu:lu<P)
  (ht:x*v1+r=top)(h:r*4294967296+u0<x*v0):0<x/\U<(x - 1+1)*V:=by
 have h0:0<x:=by
  rcases Nat.eq_zero_or_pos x with h0 | h0
  ·subst h0;omega
  ·exact h0
 refine⟨h0,?_⟩;rw [Nat.sub_add_cancel h0];have h1:x*(P*(v0+4294967296*v1))<=x*V:=Nat.mul_le_mul_left _ (by omega)
 have h2:x*(P*(v0+4294967296*v1))=P*(x*v0+4294967296*(x*v1)):=by
  rw [Nat.mul_left_comm,Nat.mul_add x,Nat.mul_left_comm x]
 have h3:P*(u0+4294967296*top+1)<=P*(x*v0+4294967296*(x*v1)):=Nat.mul_le_mul_left _ (by omega);rw [Nat.mul_add P,Nat.mul_one] at h3
 omega
theorem kn_end{P lu lv u0 v0 v1 top U V x r:Nat}(hU:U=lu+P*(u0+4294967296*top))(hV:V=lv+P*(v0+4294967296*v1))(hlv:lv<P)(hv0:v0<4294967296)(hv1:0<v1)
  (hlt:U<V*4294967296)(ht:x*v1+r=top)(h:4294967296<=r\/(x<4294967296/\x*v0<=r*4294967296+u0)):x<4294967296/\x*V<=U+V:=by
 have hx:x<4294967296:=by
  rcases h with h | h
  ·have h1:P*(4294967296*top)<P*(4294967296*(4294967296*(v1+1))):=by
    have h2:V<P*(4294967296*(v1+1)):=by
     have:P*(v0+4294967296*v1+1)<=P*(4294967296*(v1+1)):=Nat.mul_le_mul_left _ (by omega);rw [Nat.mul_add P,Nat.mul_one] at this;omega
    have h3:P*(4294967296*top)<=U:=by rw [hU,Nat.mul_add];omega
    have h4:V*4294967296<P*(4294967296*(v1+1))*4294967296:=(Nat.mul_lt_mul_right (by omega)).2 h2
    have h5:P*(4294967296*(v1+1))*4294967296=P*(4294967296*(4294967296*(v1+1))):=by ac_rfl
    omega
   have h6:=Nat.lt_of_mul_lt_mul_left h1
   have h7:x*v1<4294967296*v1:=by omega
   exact Nat.lt_of_mul_lt_mul_right h7
  ·exact h.1
 refine⟨hx,?_⟩
 have hw:x*v0<=r*4294967296+u0:=by
  rcases h with h | h
  ·have:x*v0<=4294967296*4294967296:=Nat.mul_le_mul (by omega) (by omega)
   omega
  ·exact h.2
 have h1:x*V=x*lv+P*(x*v0+4294967296*(x*v1)):=by
  rw [hV,Nat.mul_add x,Nat.mul_left_comm x P,Nat.mul_add x,Nat.mul_left_comm x 4294967296]
 have h2:P*(x*v0+4294967296*(x*v1))<=P*(u0+4294967296*top):=Nat.mul_le_mul_left _ (by omega);have h3:x*lv<=x*P:=Nat.mul_le_mul_left _ (by omega)
 have h4:x*P<=P*(4294967296*v1):=by
  rw [Nat.mul_comm];refine Nat.mul_le_mul_left _ ?_
  omega
 have h5:P*(4294967296*v1)<=V:=by rw [hV,Nat.mul_add];omega
 omega
theorem num_top2{l:List Nat}{k:Nat}(h:l.length=k+2):num l=num (l.take k)+2^(32*k)*(l[k]?.getD 0+4294967296*l[k+1]?.getD 0):=by
 have e:num l=num (l.take k)+2^(32*k)*l[k]?.getD 0+2^(32*(k+1))*l[k+1]?.getD 0:=by
  rw [<- num_take_next,<- num_take_next,List.take_of_length_le (by omega)]
 rw [e,pow32,Nat.mul_add,show (2:Nat)^32=4294967296 from rfl];rw [Nat.mul_comm 4294967296 (2^(32*k)),Nat.mul_assoc];omega
theorem num_top3{l:List Nat}{k:Nat}(h:l.length=k+3):num l=num (l.take k)+2^(32*k)*(l[k]?.getD 0+4294967296*(l[k+1]?.getD 0+4294967296*l[k+2]?.getD 0)):=by
 have e:num l=num (l.take k)+2^(32*k)*l[k]?.getD 0+2^(32*(k+1))*(l[k+1]?.getD 0+4294967296*l[k+2]?.getD 0):=by
  rw [num_top2 (k:=k+1) h,num_take_next]
 rw [e,pow32,Nat.mul_add (2^(32*k)),show (2:Nat)^32=4294967296 from rfl];rw [Nat.mul_comm 4294967296 (2^(32*k)),Nat.mul_assoc];omega
theorem num_take_lt{l:List Nat}(h:W32 l){k:Nat}(hk:k<=l.length):num (l.take k)<2^(32*k):=by
 have:=num_lt (h.take k)
 rwa [List.length_take,Nat.min_eq_left hk] at this
theorem SubInv.last{rs ys cur:List Nat}{x c b n:Nat}(h:SubInv rs ys cur x n c b)(hn:rs.length=n)(hr:W32 rs)(hm:ys.length<=n)(h0:c=0):
  num cur+x*num ys=num rs+2^(32*n)*b:=by
 obtain⟨hw,hl,_,hc,hb,hs⟩:=h;rw [List.take_of_length_le (by omega),List.take_of_length_le (by omega),List.take_of_length_le (by omega),h0] at hs
 exact hs
def GiveInv(rs ys cur:List Nat)(i c:Nat):Prop:=∃ ls,PlusInv rs ys ls i c/\cur=ls ++ rs.drop i
theorem GiveInv.start(rs ys:List Nat):GiveInv rs ys rs 0 0:=⟨[],PlusInv.start _ _,by simp⟩
theorem GiveInv.len{rs ys cur:List Nat}{i c:Nat}(h:GiveInv rs ys cur i c)(hi:i<=rs.length):cur.length=rs.length:=by
 obtain⟨ls,h1,rfl⟩:=h;have:=h1.len
 simp;omega
theorem GiveInv.w32{rs ys cur:List Nat}{i c:Nat}(h:GiveInv rs ys cur i c)(hr:W32 rs):W32 cur:=by
 obtain⟨ls,h1,rfl⟩:=h
 exact h1.1.append (hr.drop _)
theorem GiveInv.carry{rs ys cur:List Nat}{i c:Nat}(h:GiveInv rs ys cur i c):c<=1:=by
 obtain⟨ls,h1,rfl⟩:=h
 exact h1.carry
theorem GiveInv.at{rs ys cur:List Nat}{i c:Nat}(h:GiveInv rs ys cur i c):cur[i]?.getD 0=rs[i]?.getD 0:=by
 obtain⟨ls,h1,rfl⟩:=h;rw [List.getElem?_append_right (by rw [h1.len];omega),h1.len,List.getElem?_drop,Nat.sub_self,Nat.add_zero]
theorem GiveInv.step{rs ys cur:List Nat}{i c t:Nat}(h:GiveInv rs ys cur i c)(hi:i<rs.length)(hx:W32 rs)(hy:W32 ys)(ht:t=c+rs[i]?.getD 0+ys[i]?.getD 0):
  GiveInv rs ys (cur.set i (t % 4294967296)) (i+1) (t / 4294967296):=by
 obtain⟨ls,h1,rfl⟩:=h;refine⟨ls ++ [t % 4294967296],h1.step hx hy ht,?_⟩;rw [set_mid h1.len (by simp;omega)];simp
theorem GiveInv.done{rs ys cur:List Nat}{n c d:Nat}(h:GiveInv rs ys cur n c)(hn:rs.length=n+1)(hm:ys.length<=n)(hd:d=(rs[n]?.getD 0+c) % 4294967296)(hr:W32 rs)
  (hle:num rs+num ys<2^(32*(n+1))*2)(hge:2^(32*(n+1))<=num rs+num ys):
  num (cur.set n d)+2^(32*(n+1))=num rs+num ys/\W32 (cur.set n d)/\(cur.set n d).length=n+1:=by
 have hl:=h.len (by omega);refine⟨?_,(h.w32 hr).set _ (by omega),by simp;omega⟩;obtain⟨ls,h1,rfl⟩:=h;obtain⟨g1,g2,g3,g4⟩:=h1;rw [set_mid g2 (by simp;omega)]
 have hdr:(rs.drop n).tail=[]:=by simp;omega
 rw [hdr,List.append_nil,num_snoc,g2];rw [List.take_of_length_le hm] at g4;have e:=num_take_next rs n;rw [List.take_of_length_le (by omega)] at e
 have hlt:num ls<2^(32*n):=by have:=num_lt g1;rwa [g2] at this
 have hrn:=hr.get n;rw [pow32] at *;rw [show (2:Nat)^32=4294967296 from rfl] at *;generalize 2^(32*n)=p at *;generalize rs[n]?.getD 0=z at *;have e1:p*(z+c)=p*z+p*c:=Nat.mul_add ..
 have h2:num rs+num ys=num ls+p*(z+c):=by omega
 have h3:4294967296<=z+c:=by
  rcases Nat.lt_or_ge (z+c) 4294967296 with h4 | h4
  ·exfalso
   have:p*(z+c+1)<=p*4294967296:=Nat.mul_le_mul_left _ h4;rw [Nat.mul_add,Nat.mul_one,Nat.mul_comm p 4294967296] at this
   omega
  ·exact h4
 have h5:z+c=d+4294967296:=by omega
 rw [h2,h5,Nat.mul_add,Nat.mul_comm p 4294967296];omega
end Go.Proofs.YthlmlmfebpjgdaaGreatDoor
