/-
Lemmas for the statement: NormT CmpT Bits LenT ZerosT LeftT RightT TimesT PowerT.
-/
import Derived.Test.YthlmlmfebpjgdaaGreatDoorM01
import Derived.Deep.Draws
import Derived.Laws.BitsAllLaws
set_option linter.unusedSimpArgs false
set_option linter.unusedVariables false
set_option maxHeartbeats 12800000
namespace Go.Proofs.YthlmlmfebpjgdaaGreatDoor
section
open Go.RowKit
def NewU32(w:World)(xs:List Nat)(e:Ending)(w':World):Prop:=
 ∃ A n c,e=.returned (.slice A n c)∧U32s w' A n c xs∧Below w.heap.size w w'
theorem Own.newU32{w w':World}{v:Value}{xs:List Nat}(h:Own w' w.heap.size v xs)(hb:Below w.heap.size w w')(hw:W32 xs)(hs:xs.length≤34359738368):NewU32 w xs (.returned v) w':=by
 obtain⟨A,c,rfl⟩:=h.form
 exact⟨A,_,c,rfl,h.u32s rfl hw hs,hb⟩
theorem NewU32.trans{w w1 w':World}{xs:List Nat}{e:Ending}(h:NewU32 w1 xs e w')(hb:Below w.heap.size w w1):NewU32 w xs e w':=by
 obtain⟨A,n,c,rfl,hu,hb'⟩:=h
 exact⟨A,n,c,rfl,hu,hb.trans (hb'.mono hb.size)⟩
theorem below_alloc(w:World)(o:Obj):Below w.heap.size w (w.alloc o):=(Below.refl _ _).alloc (Nat.le_refl _) o
theorem getD_snoc{xs:List Nat}{m:Nat}(h:m<xs.length):xs.take m ++ [xs[m]?.getD 0]=xs.take (m+1):=by
 rw [List.take_succ_eq_append_getElem h,List.getElem?_eq_getElem h];rfl
theorem norm_any(A:Option Addr)(n c:Nat)(xs:List Nat)(w:World)(h:U32s w A n c xs)(hs:n≤34359738367):
  Calls Tryz.prog 93 #[.slice A n c] w (NewU32 w (trim xs)):=by
 have hn:=h.small;have H:=Hd h;clear h
 go_enter Tryz.func93,Tryz.ntmps93
 go_wp2
 go_loop [3] (fun v=>∃ k:Nat,k≤n∧v=.int .i64 k∧∀ j:Nat,k≤j→xs[j]?.getD 0=0) (fun v=>(intOf v).toNat)
 case atStart=>exact⟨n,by omega,rfl,fun j hj=>by
  have:=H.out.len
  rw [List.getElem?_eq_none (by omega)];rfl⟩
 case round=>
  obtain⟨k,hk,rfl,hz⟩:=hrel;have Hz:=Hd hz;clear hz
  by_cases hg:0<k∧xs[k - 1]?.getD 0=0
  ·obtain⟨h0,hx⟩:=hg;obtain⟨ad,rfl,hc⟩:=H.out.cell (j:=k - 1) (by omega);rw [hx] at hc;have Hx:=Hd hx;clear hx;go_wp2
   go_round
   case rel=>
    refine⟨k - 1,by omega,by go_num,fun j hj=>?_⟩
    rcases Nat.lt_or_ge j k with h1 | h1
    ·obtain rfl:j=k - 1:=by omega
     exact Hx.out
    ·exact Hz.out j h1
   case measure=>simp [intOf];omega
  ·have hwl:wlen xs=k:=wlen_of (by rw [H.out.len];omega) Hz.out (by omega)
   have Hl:Hid (trim xs=xs.take k):=by
    have:=trim_eq_take xs;rw [hwl] at this;exact this
   clear hwl
   by_cases h0:0<k
   case' pos=>
    obtain⟨ad,rfl,hc⟩:=H.out.cell (j:=k - 1) (by omega)
    have hx:((xs[k - 1]?.getD 0:Nat):Int)≠0:=by omega
    have hx':(((xs[k - 1]?.getD 0:Nat):Int) == 0)=false:=by
     simpa using hx
    clear hg hx;go_wp2;clear hx' hc
   case' neg=>
    go_wp2;clear hg
   all_goals
    clear h0
    go_loopw [4,5] (fun v i wr=>∃ m:Nat,m≤k∧i=.int .i64 m∧Own wr w.heap.size v (xs.take m)∧Below w.heap.size w wr) (fun _ i _=>k - (intOf i).toNat)
    case atStart=>exact⟨0,by omega,rfl,Own.nil _ _,Below.refl _ _⟩
    case round=>
     obtain⟨m,hm,rfl,hown,hb⟩:=hrel
     by_cases hlt:m<k
     ·obtain⟨ad',e,hc⟩:=(H.out.below hb).cell (j:=m) (by omega)
      cases e
      have hbs:=hb.size
      go_wp2_with (at_builtin;refine wpList_append_u32 _ rfl _ _ rfl w.heap.size _ _ rfl (hown.alloc _) ⟨_,0,none⟩ 1 (xs[m]?.getD 0) rfl ?c1 ?c2 ?c3 ?_)
      case c1=>simp
      case c2=>rw [List.length_take];omega
      case c3=>simp;omega
      intro v' w' hown' hgrow
      have hown2:Own w' w.heap.size v' (xs.take (m+1)):=by
       rw [← getD_snoc (by rw [H.out.len];omega)];exact hown'
      have hb':Below w.heap.size w w':=(hb.alloc hbs _).grown hgrow (by simp;omega) (fun g hg=>(hown.lt g hg).1);clear hown hown' hb hgrow hc hbs;go_wp2
      go_roundw
      case rel=>exact⟨m+1,by omega,by go_num,hown2,hb'⟩
      case measure=>simp [intOf];omega
     ·obtain rfl:m=k:=by omega
      go_wp2
      go_ret
      rw [Hl.out]
      exact hown.newU32 hb (H.out.w32.take _) (by rw [List.length_take];omega)
end
section
open Go.RowKit
def QuietRet(w:World)(v:Value)(e:Ending)(w':World):Prop:=e=.returned v∧∃ k,w'=w.drewN k
theorem drew2(w:World)(a b:Nat):∃ k,(w.drewN a).drewN b=w.drewN k:=⟨_,World.drewN_drewN _ _ _⟩
theorem drew3(w:World)(a b c:Nat):∃ k,((w.drewN a).drewN b).drewN c=w.drewN k:=⟨_,by rw [World.drewN_drewN,World.drewN_drewN]⟩
theorem cmp_any(A B:Option Addr)(n c m d:Nat)(xs ys:List Nat)(w:World)(hx:U32s w A n c xs)(hy:U32s w B m d ys):
  Calls Tryz.prog 98 #[.slice A n c,.slice B m d] w (QuietRet w (.int .i64 (cmp3 (num xs) (num ys)))):=by
 have HX:=Hd hx;have HY:=Hd hy;have n1:=hx.small;have n2:=hy.small;have l1:=wlen_le xs;have l2:=wlen_le ys;rw [hx.len] at l1;rw [hy.len] at l2;clear hx hy
 go_enter Tryz.func98,Tryz.ntmps98
 go_wp2_with fail;refine (words_any A n c xs w HX.out).mono ?_;rintro e w' ⟨rfl,rfl⟩;go_wp2_with fail;refine (words_any B m d ys w HY.out).mono ?_;rintro e w' ⟨rfl,rfl⟩
 rcases Nat.lt_trichotomy (wlen xs) (wlen ys) with hl | hl | hl
 ·go_wp2
  go_ret
  exact⟨by rw [cmp3_lt (num_lt_of_wlen HX.out.w32 hl)];rfl,0,rfl⟩
 ·have Hl:=Hd hl
  have g1:¬ wlen xs<wlen ys:=by omega
  have g2:¬ wlen ys<wlen xs:=by omega
  have g3:wlen xs≤m:=by omega
  clear hl;go_wp2
  go_loopw [7] (fun v wr=>∃ k:Nat,k≤wlen xs∧v=.int .i64 ((k:Int) - 1)∧(∀ j:Nat,k≤j→xs[j]?.getD 0=ys[j]?.getD 0)∧∃ z,wr=w.drewN z) (fun v _=>(intOf v+1).toNat)
  case atStart=>exact⟨wlen xs,by omega,rfl,fun j hj=>by rw [(wlen_spec xs).1 j hj,(wlen_spec ys).1 j (by rw [← Hl.out];exact hj)],0,rfl⟩
  case round=>
   obtain⟨k,hk,rfl,hz,z,rfl⟩:=hrel;have Hz:=Hd hz;clear hz
   rcases Nat.eq_zero_or_pos k with h0 | h0
   ·subst h0;go_wp2
    go_ret
    exact⟨by rw [cmp3_eq (num_ext fun j=>Hz.out j (Nat.zero_le _))];rfl,z,rfl⟩
   ·obtain⟨i,rfl⟩:∃ i,k=i+1:=⟨k - 1,by omega⟩
    obtain⟨ad,rfl,hc⟩:=HX.out.cell (j:=i) (by omega);obtain⟨ad',rfl,hc'⟩:=HY.out.cell (j:=i) (by omega);rw [show (((i+1:Nat):Int) - 1)=(i:Int) from by omega]
    have hi1:(i:Int)<(n:Int):=by omega
    have hi2:(i:Int)<(m:Int):=by omega
    go_wp2_with fail
    go_quiet (fail)
    go_wp2
    ·go_ret
     exact⟨by rw [cmp3_lt (num_lt_of HX.out.w32 i (fun j hj=>Hz.out j hj) (by assumption))];rfl,drew2 _ _ _⟩
    ·go_quiet (fail)
     go_wp2
     ·go_ret
      exact⟨by rw [cmp3_gt (num_lt_of HY.out.w32 i (fun j hj=>(Hz.out j hj).symm) (by assumption))];rfl,drew3 _ _ _ _⟩
     ·go_roundw
      case rel=>
       refine⟨i,by omega,by go_num,fun j hj=>?_,_,rfl⟩
       rcases Nat.lt_or_ge i j with h1 | h1
       ·exact Hz.out j h1
       ·obtain rfl:j=i:=by omega
        omega
      case measure=>simp [intOf]
 ·go_wp2
  go_ret
  exact⟨by rw [cmp3_gt (num_lt_of_wlen HY.out.w32 hl)];rfl,0,rfl⟩
end
section
open Go.RowKit
theorem ret_int{k:IntKind}{a b:Int}(h:a=b):Ending.returned (.int k a)=.returned (.int k b):=by rw [h]
theorem ret_bool{a b:Bool}(h:a=b):Ending.returned (.bool a)=.returned (.bool b):=by rw [h]
theorem and1_u32{x:Nat}(h:x<4294967296):bits .and .u32 (x:Int) 1=((x % 2:Nat):Int):=by
 have:=u32_and_nat x 1 h (by omega);rw [nat_mask1] at this;exact this
theorem and1_u64{x:Nat}(h:x<18446744073709551616):bits .and .u64 (x:Int) 1=((x % 2:Nat):Int):=by
 have:=u64_and_nat x 1 h (by omega);rw [nat_mask1] at this;exact this
theorem mask32_u64{x:Nat}(h:x<18446744073709551616):bits .and .u64 (x:Int) 4294967295=((x % 4294967296:Nat):Int):=by
 have:=u64_and_nat x 4294967295 h (by omega);rw [nat_mask32] at this;exact this
theorem mask52_u64{x:Nat}(h:x<18446744073709551616):bits .and .u64 (x:Int) 4503599627370495=((x % 4503599627370496:Nat):Int):=by
 have:=u64_and_nat x 4503599627370495 h (by omega);rw [nat_mask52] at this;exact this
theorem mask11_u64{x:Nat}(h:x<18446744073709551616):bits .and .u64 (x:Int) 2047=((x % 2048:Nat):Int):=by
 have:=u64_and_nat x 2047 h (by omega);rw [nat_mask11] at this;exact this
theorem mask32_i{a:Int}(h0:0≤a)(h:a<18446744073709551616):bits .and .u64 a 4294967295=a % 4294967296:=by
 obtain⟨x,rfl⟩:∃ x:Nat,a=x:=⟨a.toNat,by omega⟩
 rw [mask32_u64 (by omega)];omega
theorem or_join{i x y:Nat}(hx:x*2^i<18446744073709551616)(hy:y<2^i)(hy':y<18446744073709551616):bits .or .u64 ((x*2^i:Nat):Int) (y:Int)=((x*2^i+y:Nat):Int):=by
 rw [u64_or_nat _ _ hx hy',nat_join i _ _ (Nat.mul_mod_left _ _) hy]
theorem or_join'{i x y:Nat}(hx:x*2^i<18446744073709551616)(hy:y<2^i)(hy':y<18446744073709551616):bits .or .u64 (y:Int) ((x*2^i:Nat):Int)=((y+x*2^i:Nat):Int):=by
 rw [u64_or_nat _ _ hy' hx,Nat.or_comm,nat_join i _ _ (Nat.mul_mod_left _ _) hy,Nat.add_comm]
theorem or_low_u32{l v s:Nat}(hl:l<2^s)(hv:v % 2^s=0)(h1:l<4294967296)(h2:v<4294967296):bits .or .u32 (l:Int) (v:Int)=((l+v:Nat):Int):=by
 rw [u32_or_nat _ _ h1 h2,Nat.or_comm,nat_join s _ _ hv hl,Nat.add_comm]
end
section
open Go.RowKit
theorem len_zero(A:Option Addr)(n c:Nat)(xs:List Nat)(w:World)(hx:U32s w A n c xs)(h0:wlen xs=0):
  Calls Tryz.prog 224 #[.slice A n c] w fun e w'=>e=.returned (.int .i64 0)∧w=w':=by
 have HX:=Hd hx;clear hx;have hw:=words_any A n c xs w HX.out;rw [h0] at hw;have HW:=Hd hw;clear hw
 go_enter Tryz.func224,Tryz.ntmps224
 go_wp2_with fail;refine HW.out.mono ?_;rintro e w' ⟨rfl,rfl⟩;go_wp2
 go_ret
 exact⟨rfl,rfl⟩
theorem len_pos(A:Option Addr)(n c l t:Nat)(xs:List Nat)(w:World)(hx:U32s w A n c xs)(hl:wlen xs=l+1)(ht:xs[l]?.getD 0=t):
  Calls Tryz.prog 224 #[.slice A n c] w fun e w'=>e=.returned (.int .i64 ((32*l+blen t:Nat):Int))∧w=w':=by
 have HX:=Hd hx;have n1:=hx.small;have l1:=wlen_le xs;rw [hx.len,hl] at l1;have hlt:=hx.lt l;clear hx;have hw:=words_any A n c xs w HX.out;rw [hl] at hw;obtain⟨ad,rfl,hc⟩:=HX.out.cell (j:=l) (by omega);rw [ht] at hlt hc;clear ht hl;have HW:=Hd hw;clear hw;have b0:blen t≤32:=blen_le_iff.2 (by omega)
 go_enter Tryz.func224,Tryz.ntmps224
 go_wp2_with fail;refine HW.out.mono ?_;rintro e w' ⟨rfl,rfl⟩;rw [show ((l+1:Nat):Int)=(l:Int)+1 from by omega]
 have hb0:((l:Int)+1 == 0)=false:=by simp;omega
 go_wp2
 go_loop [4,5] (fun v y=>∃ k x:Nat,v=.int .i64 k∧y=wd x∧x<4294967296∧k+blen x=32*l+blen t) (fun _ y=>(intOf y).toNat)
 case atStart=>exact⟨32*l,t,by go_num,rfl,hlt,rfl⟩
 case round=>
  obtain⟨k,x,rfl,rfl,hx,hk⟩:=hrel;have Hk:=Hd hk
  have hk2:k≤32*l+32:=by omega
  clear hk
  rcases Nat.eq_zero_or_pos x with h0 | h0
  ·subst h0;go_wp2
   go_ret
   have:=Hk.out;rw [blen_zero,Nat.add_zero] at this
   exact⟨ret_int (by omega),rfl⟩
  ·go_wp2
   go_round
   case rel=>exact⟨k+1,x / 2,by go_num,by go_num,by omega,by have:=Hk.out;rw [blen_half h0] at this;omega⟩
   case measure=>simp [intOf];omega
theorem len_any(A:Option Addr)(n c:Nat)(xs:List Nat)(w:World)(hx:U32s w A n c xs):
  Calls Tryz.prog 224 #[.slice A n c] w fun e w'=>e=.returned (.int .i64 (blen (num xs)))∧w=w':=by
 rcases Nat.eq_zero_or_pos (wlen xs) with h0 | h0
 ·have:=len_zero A n c xs w hx h0;rw [show blen (num xs)=0 from by rw [wlen_eq_zero.1 h0];rfl]
  exact this
 ·have:=len_pos A n c (wlen xs - 1) (xs[wlen xs - 1]?.getD 0) xs w hx (by omega) rfl;rw [blen_num hx.w32 h0]
  exact this
theorem bit_any(A:Option Addr)(n c i:Nat)(xs:List Nat)(w:World)(hx:U32s w A n c xs)(hi:i≤4611686018427387904):
  Calls Tryz.prog 200 #[.slice A n c,.int .i64 (i:Int)] w fun e w'=>e=.returned (.int .u32 ((num xs / 2^i % 2:Nat):Int))∧w=w':=by
 have HX:=Hd hx;have n1:=hx.small;have E:=Hd (num_bit hx.w32 i);clear hx
 by_cases hi2:i / 32<n
 ·obtain⟨ad,rfl,hc⟩:=HX.out.cell (j:=i / 32) hi2;have hlt:=HX.out.lt (i / 32);rw [E.out];generalize hx:xs[i / 32]?.getD 0=x at *;clear hx
  go_enter Tryz.func200,Tryz.ntmps200
  go_wp2
  go_ret
  exact⟨ret_int (by have:=and1_u32 (x:=x / 2^(i % 32)) (Nat.lt_of_le_of_lt (Nat.div_le_self _ _) hlt);rw [← this];simp),rfl⟩
 ·have h0:num xs / 2^i % 2=0:=by
   rw [E.out,List.getElem?_eq_none (by rw [HX.out.len];omega)]
   simp
  rw [h0]
  go_enter Tryz.func200,Tryz.ntmps200
  go_wp2
  go_ret
  exact⟨rfl,rfl⟩
end
section
open Go.RowKit
theorem zeros_any(A:Option Addr)(n c:Nat)(xs:List Nat)(w:World)(hx:U32s w A n c xs)(h0:num xs≠0):
  Calls Tryz.prog 164 #[.slice A n c] w fun e w'=>(∃ k:Nat,e=.returned (.int .i64 (k:Int))∧k≤32*n∧num xs % 2^k=0∧num xs / 2^k % 2=1)∧w=w':=by
 have HX:=Hd hx;have n1:=hx.small;have l1:=wlen_le xs;rw [hx.len] at l1;clear hx
 have hl:0<wlen xs:=by have:=@wlen_eq_zero xs;omega
 go_enter Tryz.func164,Tryz.ntmps164
 go_wp2_with fail;refine (words_any A n c xs w HX.out).mono ?_;rintro e w' ⟨rfl,rfl⟩
 have hl':((wlen xs:Int) == 0)=false:=by simp;omega
 go_wp2
 go_loop [3] (fun v=>∃ q:Nat,v=.int .i64 ((32*q:Nat):Int)∧q<wlen xs∧num xs % 2^(32*q)=0) (fun v=>32*n - (intOf v).toNat)
 case atStart=>exact⟨0,rfl,hl,Nat.mod_one _⟩
 case round=>
  obtain⟨q,rfl,hq,hz⟩:=hrel;have HZ:=Hd hz;clear hz;obtain⟨ad,e,hc⟩:=HX.out.cell (j:=q) (by omega)
  cases e
  have e0:num xs % 2^(32*(q+1))=num xs % 2^(32*q)+2^(32*q)*(xs[q]?.getD 0):=by
   rw [← num_word HX.out.w32,Nat.mul_add,Nat.pow_add,Nat.mod_mul]
  have E0:=Hd e0;clear e0;rw [show ((32*q:Nat):Int)=32*(q:Int) from by omega]
  have d0:32*(q:Int) / 32=(q:Int):=by omega
  by_cases hx0:xs[q]?.getD 0=0
  ·rw [hx0] at hc
   have hq':q+1<wlen xs:=by
    have h2:=(wlen_spec xs).2
    rcases Nat.lt_or_ge (q+1) (wlen xs) with h3 | h3
    ·exact h3
    ·obtain h4:wlen xs - 1=q:=by omega
     rw [h4] at h2;omega
   have HX0:=Hd hx0;clear hx0;go_wp2
   go_round
   case rel=>exact⟨q+1,by go_num,hq',by rw [E0.out,HZ.out,HX0.out];omega⟩
   case measure=>simp [intOf];omega
  ·have hx1:(((xs[q]?.getD 0:Nat):Int) == 0)=false:=by simp;omega
   have HX0:=Hd hx0;clear hx0
   have e1:num xs % 2^(32*(q+1))≠0:=by
    rw [E0.out,HZ.out,Nat.zero_add]
    exact Nat.mul_ne_zero (by have:=Nat.two_pow_pos (32*q);omega) HX0.out
   obtain⟨Z,hZ⟩:∃ Z:Nat,32*(q+1)=Z:=⟨_,rfl⟩
   rw [hZ] at e1;have E1:=Hd e1;have HZZ:=Hd hZ;clear e1 hZ E0;go_wp2
   go_loop [3] (fun v=>∃ k:Nat,v=.int .i64 (k:Int)∧32*q≤k∧k<32*(q+1)∧num xs % 2^k=0) (fun v=>32*(q+1) - (intOf v).toNat)
   case atStart=>exact⟨32*q,by go_num,by omega,by omega,HZ.out⟩
   case round=>
    obtain⟨k,rfl,hk1,hk2,hkz⟩:=hrel;clear hx1 hc d0;have HK:=Hd hkz;clear hkz;have hbit:=bit_any _ n c k xs w HX.out (by omega)
    obtain⟨b,hb⟩:∃ b,num xs / 2^k % 2=b:=⟨_,rfl⟩
    rw [hb] at hbit;have HBIT:=Hd hbit;have HB:=Hd hb;clear hbit hb;go_wp2_with fail;refine HBIT.out.mono ?_;rintro e w' ⟨rfl,rfl⟩;go_wp2
    ·have hb1:(b:Int)=0:=by simpa using ‹((b:Int) == 0)=true›
     have hb:b=0:=by omega
     have hz1:num xs % 2^(k+1)=0:=by
      rw [Nat.pow_succ,Nat.mod_mul,HK.out];rw [HB.out,hb];omega
     have hk3:k+1<32*(q+1):=by
      rcases Nat.lt_or_ge (k+1) (32*(q+1)) with h3 | h3
      ·exact h3
      ·obtain h4:k+1=32*(q+1):=by omega
       rw [h4] at hz1;rw [HZZ.out] at hz1
       exact absurd hz1 E1.out
     go_round
     case rel=>exact⟨k+1,by go_num,by omega,hk3,hz1⟩
     case measure=>simp [intOf];omega
    ·have hb1:(b:Int)≠0:=by simpa using ‹((b:Int) == 0)=false›
     have hb:=HB.out
     go_ret
     exact⟨⟨k,rfl,by omega,HK.out,by omega⟩,rfl⟩
end
section
open Go.RowKit
theorem NewU32.nil(w:World):NewU32 w [] (.returned (.slice none 0 0)) w:=⟨none,0,0,rfl,U32s.nil _ _ _,Below.refl _ _⟩
theorem left_any(A:Option Addr)(n c k:Nat)(xs:List Nat)(w:World)(hx:U32s w A n c xs)(hs1:n≤8589934592)(hk:k≤137438953472):
  Calls Tryz.prog 166 #[.slice A n c,.int .i64 (k:Int)] w (NewU32 w (digs (num xs*2^k))):=by
 have HX:=Hd hx;have l1:=wlen_le xs;rw [hx.len] at l1;have w1:=words_any A n c xs w hx;clear hx
 obtain⟨m,hm⟩:∃ m,wlen xs=m:=⟨_,rfl⟩
 rw [hm] at w1 l1;have W1:=Hd w1;clear w1
 obtain⟨s,hs⟩:∃ s,k % 32=s:=⟨_,rfl⟩
 obtain⟨q,hq⟩:∃ q,k / 32=q:=⟨_,rfl⟩
 have hs2:s<32:=by omega
 have hkq:32*q+s=k:=by omega
 have hq2:q≤4294967296:=by omega
 have d1:(k:Int) / 32=(q:Int):=by omega
 have d2:(k:Int) % 32=(s:Int):=by omega
 clear hs hq;have HM:=Hd hm;have HK:=Hd hkq;clear hm hkq
 by_cases h0:m=0
 ·subst h0;rw [wlen_eq_zero.1 HM.out,Nat.zero_mul,digs_zero]
  go_enter Tryz.func166,Tryz.ntmps166
  go_wp2_with fail;refine W1.out.mono ?_;rintro e w' ⟨rfl,rfl⟩;clear W1;go_wp2
  go_ret
  exact NewU32.nil w
 have h0':((m:Int) == 0)=false:=by simp;omega
 have hmk:=fun W=>make_u32 (N:=(q:Int)+(m:Int)+1) (n:=q+m+1) (by omega) (by omega) W
 go_enter Tryz.func166,Tryz.ntmps166
 go_wp2_with fail;refine W1.out.mono ?_;rintro e w' ⟨rfl,rfl⟩;clear W1;go_wp2
 go_loopw [8] (fun iv wr=>∃ (i:Nat) (ls:List Nat),iv=.int .i64 i∧i≤m∧LeftInv xs ls m q s i∧Arr wr w.heap.size ls∧Below w.heap.size w wr) (fun iv _=>m - (intOf iv).toNat)
 case atStart=>exact⟨0,_,rfl,Nat.zero_le _,LeftInv.start _ _ _ _,Arr.zeros _ _,below_alloc _ _⟩
 case round=>
  obtain⟨i,ls,rfl,hi,hinv,harr,hb⟩:=hrel;have HI:=Hd hinv;have HA:=Hd harr;clear hinv harr hmk
  by_cases hlt:i<m
  ·obtain⟨ad,e,hc⟩:=(HX.out.below hb).cell (j:=i) (by omega)
   cases e
   have hx1:=HX.out.lt i;have hst:=HI.out.step (v:=xs[i]?.getD 0*2^s) hlt hs2 HX.out.w32 rfl;have hl1:ls[q+i]?.getD 0<4294967296:=HI.out.1.get _;have hl2:ls[q+i]?.getD 0<2^s:=HI.out.2.2.2.1;have hc2:=HA.out.cell (j:=q+i) (by rw [HI.out.2.1];omega);have hf2:=HA.out.frozen (q+i);have hf3:=HA.out.frozen (q+i+1)
   obtain⟨x,hx⟩:∃ x,xs[i]?.getD 0=x:=⟨_,rfl⟩
   obtain⟨l,hl⟩:∃ l,ls[q+i]?.getD 0=l:=⟨_,rfl⟩
   rw [hx] at hc hx1 hst;rw [hl] at hc2 hl1 hst hl2
   have hv1:x*2^s<18446744073709551616:=by
    have:2^s≤2^31:=Nat.pow_le_pow_right (by omega) (by omega);have:x*2^s≤4294967295*2^31:=Nat.mul_le_mul (by omega) this
    omega
   have hz1:ls[q+i+1]?.getD 0=0:=HI.out.2.2.1 _ (by omega);have hc3:=HA.out.cell (j:=q+i+1) (by rw [HI.out.2.1];omega);rw [hz1] at hc3
   obtain⟨v,hv⟩:∃ v,x*2^s=v:=⟨_,rfl⟩
   have hvm:v % 4294967296 % 2^s=0:=by
    have:2^s ∣ 4294967296:=⟨2^(32 - s),by rw [← Nat.pow_add,show s+(32 - s)=32 from by omega]⟩
    rw [Nat.mod_mod_of_dvd _ this,← hv,Nat.mul_mod_left]
   have ho:=or_low_u32 hl2 hvm hl1 (by omega)
   have e1:IntKind.u64.wrap ((x:Int)*2^s)=(v:Int):=by
    rw [← hv];have:=IntWalk.u64_in ((x*2^s:Nat):Int) (by omega)
    simpa using this
   rw [hv] at hst hv1;have HST:=Hd hst;rw [show ((v % 4294967296:Nat):Int)=(v:Int) % 4294967296 from by omega] at ho;have hm:=mask32_i (a:=(v:Int)) (by omega) (by omega)
   have hj:((l+v % 4294967296:Nat):Int)=(l:Int)+(v:Int) % 4294967296:=by omega
   rw [hj] at ho
   have hb1:(l:Int)+(v:Int) % 4294967296<4294967296:=by have:=hst.2.1;omega
   have hd1:(v:Int) / 4294967296<4294967296:=by have:=hst.2.2;omega
   clear hst hv hvm hx hl hl2 hz1 hj;go_wp2
   go_roundw
   case rel=>
    refine⟨i+1,_,by go_num,by omega,HST.out.1,?_,(hb.setCell (Nat.le_refl _) _).setCell (Nat.le_refl _) _⟩;rw [show (l:Int)+(v:Int) % 4294967296=((l+v % 4294967296:Nat):Int) from by omega,show (v:Int) / 4294967296=((v / 4294967296:Nat):Int) from by omega]
    exact (HA.out.set _ _).set _ _
   case measure=>simp [intOf];omega
  ·obtain rfl:i=m:=by omega
   have hnum:=HI.out.done (by rw [HM.out];omega);have hu:=HA.out.u32s' HI.out.1 HI.out.2.1 (by omega);have hnorm:=norm_any _ _ _ _ wr hu (by omega);rw [trim_eq_digs HI.out.1,hnum,HK.out] at hnorm;have HN:=Hd hnorm;clear hnorm hu hnum;go_wp2_with fail;refine HN.out.mono ?_;rintro e w'' ⟨A2,n2,c2,rfl,hu2,hb2⟩;have H2:=Hd (show NewU32 w (digs (num xs*2^k)) (.returned (.slice A2 n2 c2)) w'' from NewU32.trans ⟨A2,n2,c2,rfl,hu2,hb2⟩ hb);clear hu2 hb2 hb;go_wp2
   go_ret
   exact H2.out
end
section
open Go.RowKit
def NewU32B(w:World)(xs:List Nat)(b:Bool)(e:Ending)(w':World):Prop:=
 ∃ A n c,e=.returned (.tuple #[.slice A n c,.bool b])∧U32s w' A n c xs∧Below w.heap.size w w'
theorem right_lost{xs:List Nat}(hx:W32 xs)(q s:Nat)(hs:s<32):num xs % 2^(32*q+s)=num (xs.take q)+2^(32*q)*(xs[q]?.getD 0 % 2^s):=by
 rw [Nat.pow_add,Nat.mod_mul,← num_take_mod hx,← num_word hx]
 congr 2
 rw [show (2:Nat)^32=2^s*2^(32 - s) from by rw [← Nat.pow_add,show s+(32 - s)=32 from by omega],Nat.mod_mul_right_mod]
set_option maxRecDepth 100000 in
theorem right_any(A:Option Addr)(n c k:Nat)(xs:List Nat)(w:World)(hx:U32s w A n c xs)(hs1:n≤8589934592)(hk:k≤137438953472):
  Calls Tryz.prog 165 #[.slice A n c,.int .i64 (k:Int)] w (NewU32B w (digs (num xs / 2^k)) (decide (num xs % 2^k≠0))):=by
 have HX:=Hd hx;have l1:=wlen_le xs;rw [hx.len] at l1;have w1:=words_any A n c xs w hx;clear hx
 obtain⟨m,hm⟩:∃ m,wlen xs=m:=⟨_,rfl⟩
 rw [hm] at w1 l1;have W1:=Hd w1;clear w1
 obtain⟨s,hs⟩:∃ s,k % 32=s:=⟨_,rfl⟩
 obtain⟨q,hq⟩:∃ q,k / 32=q:=⟨_,rfl⟩
 have hs2:s<32:=by omega
 have hkq:32*q+s=k:=by omega
 have hq2:q≤4294967296:=by omega
 have d1:(k:Int) / 32=(q:Int):=by omega
 have d2:(k:Int) % 32=(s:Int):=by omega
 clear hs hq;have HM:=Hd hm;have HK:=Hd hkq;clear hm hkq
 by_cases h0:m=0
 ·subst h0;rw [wlen_eq_zero.1 HM.out,Nat.zero_div,Nat.zero_mod,digs_zero]
  go_enter Tryz.func165,Tryz.ntmps165
  go_wp2_with fail;refine W1.out.mono ?_;rintro e w' ⟨rfl,rfl⟩;clear W1;go_wp2
  go_ret2
  exact⟨none,0,0,rfl,U32s.nil _ _ _,Below.refl _ _⟩
 have h0':((m:Int) == 0)=false:=by simp;omega
 by_cases hqm:m≤q
 ·have hlt:num xs<2^k:=by
   refine Nat.lt_of_lt_of_le (num_lt_wlen HX.out.w32) (Nat.pow_le_pow_right (by omega) ?_);rw [HM.out,← HK.out];omega
  have hne:num xs≠0:=by
   have:=@wlen_eq_zero xs;rw [HM.out] at this;omega
  rw [Nat.div_eq_of_lt hlt,Nat.mod_eq_of_lt hlt,digs_zero,decide_eq_true hne];clear hlt hne
  go_enter Tryz.func165,Tryz.ntmps165
  go_wp2_with fail;refine W1.out.mono ?_;rintro e w' ⟨rfl,rfl⟩;clear W1;go_wp2
  go_ret2
  exact⟨none,0,0,rfl,U32s.nil _ _ _,Below.refl _ _⟩
 obtain⟨ad,rfl,hc⟩:=HX.out.cell (j:=q) (by omega);have hx1:=HX.out.lt q
 obtain⟨x,hx⟩:∃ x,xs[q]?.getD 0=x:=⟨_,rfl⟩
 rw [hx] at hc hx1;have HXX:=Hd hx;clear hx
 obtain⟨s',hs'⟩:∃ s',s+s'=31:=⟨31 - s,by omega⟩
 have d3:(31:Int) - (s:Int)=(s':Int):=by omega
 obtain⟨z,hz⟩:∃ z,x*2^s' % 4294967296*2 % 4294967296=z:=⟨_,rfl⟩
 have hz0:z=0↔x % 2^s=0:=by
  have e1:z=2^(s'+1)*(x % 2^s):=by
   rw [← hz,Nat.pow_succ,show x*2^s' % 4294967296*2 % 4294967296=x*(2^s'*2) % 4294967296 from by rw [← Nat.mul_assoc];omega];rw [← Nat.pow_succ,Nat.mul_comm x,show (4294967296:Nat)=2^(s'+1)*2^s from by rw [← Nat.pow_add,show s'+1+s=32 from by omega],Nat.mul_mod_mul_left]
  rw [e1];have:=Nat.two_pow_pos (s'+1)
  constructor
  ·intro h
   rcases Nat.mul_eq_zero.1 h with h | h
   ·omega
   ·exact h
  ·intro h;rw [h];rfl
 have d4:(x:Int)*2^s' % 4294967296*2 % 4294967296=(z:Int):=by
  rw [← hz,show (x:Int)*2^s'=((x*2^s':Nat):Int) from by simp];omega
 have HZ:=Hd hz0;clear hz0 hz hs'
 have hinit:∀ lost:Bool,lost=decide (x % 2^s≠0)→lost=decide (xs[q]?.getD 0 % 2^s≠0∨num (xs.take 0)≠0):=by
  intro lost h;rw [h,HXX.out];simp [num]
 have HIN:=Hd hinit;clear hinit
 by_cases hzz:z=0
 case' pos=>
  have hl:=HIN.out false (by rw [decide_eq_false (by rw [HZ.out.1 hzz];omega)]);have HL:=Hd hl;clear hl HZ HIN
  have g1:((z:Int) == 0)=true:=by simp;exact hzz
  have g2:((z:Int) != 0)=false:=by simp;exact hzz
  go_enter Tryz.func165,Tryz.ntmps165
  go_wp2_with fail;refine W1.out.mono ?_;rintro e w' ⟨rfl,rfl⟩;clear W1;go_wp2;clear g1 g2 hzz d4 hc
 case' neg=>
  have hx0:x % 2^s≠0:=fun h=>hzz (HZ.out.2 h);have hl:=HIN.out true (by rw [decide_eq_true hx0]);have HL:=Hd hl
  have hs0:0<s:=by
   rcases Nat.eq_zero_or_pos s with h | h
   ·subst h;simp [Nat.mod_one] at hx0
   ·exact h
  clear hl HZ HIN hx0
  have g1:((z:Int) == 0)=false:=by simp;exact hzz
  have g2:((z:Int) != 0)=true:=by simp;exact hzz
  have g3:(0:Int)<(s:Int):=by omega
  go_enter Tryz.func165,Tryz.ntmps165
  go_wp2_with fail;refine W1.out.mono ?_;rintro e w' ⟨rfl,rfl⟩;clear W1;go_wp2;clear g1 g2 hzz d4 hc g3 hs0
 all_goals
  go_loop [8,9] (fun bv iv=>∃ (i:Nat) (b:Bool),iv=.int .i64 i∧bv=.bool b∧i≤q∧b=decide (xs[q]?.getD 0 % 2^s≠0∨num (xs.take i)≠0)) (fun _ iv=>q - (intOf iv).toNat)
  case atStart=>exact⟨0,_,rfl,rfl,Nat.zero_le _,HL.out⟩
  case round=>
   clear HL;obtain⟨i,b,rfl,rfl,hi,hbv⟩:=hrel;have HB:=Hd hbv;clear hbv
   by_cases hlt:i<q
   ·obtain⟨ad',e,hc'⟩:=HX.out.cell (j:=i) (by omega)
    cases e
    have hy1:=HX.out.lt i
    have hstep:∀ b':Bool,b'=(b || decide (xs[i]?.getD 0≠0))→b'=decide (xs[q]?.getD 0 % 2^s≠0∨num (xs.take (i+1))≠0):=by
     intro b' h;rw [h,HB.out,num_take_next];have hp:=Nat.two_pow_pos (32*i);rw [Bool.eq_iff_iff]
     simp only [Bool.or_eq_true,decide_eq_true_eq]
     have:(num (xs.take i)+2^(32*i)*xs[i]?.getD 0≠0)↔(num (xs.take i)≠0∨xs[i]?.getD 0≠0):=by
      constructor
      ·intro h1
       by_cases h2:xs[i]?.getD 0=0
       ·left;rw [h2] at h1;simpa using h1
       ·exact .inr h2
      ·intro h1
       rcases h1 with h1 | h1
       ·omega
       ·have:=Nat.mul_pos hp (Nat.pos_of_ne_zero h1);omega
     rw [this,or_assoc]
    have HS:=Hd hstep;clear hstep
    obtain⟨y,hy⟩:∃ y,xs[i]?.getD 0=y:=⟨_,rfl⟩
    rw [hy] at hc' hy1;have HYY:=Hd hy;clear hy
    cases b
    ·go_wp2
     go_round
     case rel=>exact⟨i+1,_,by go_num,rfl,by omega,HS.out _ (by rw [HYY.out];simp [bne];rw [Bool.eq_iff_iff];simp)⟩
     case measure=>simp [intOf];omega
    ·go_wp2
     go_round
     case rel=>exact⟨i+1,_,by go_num,rfl,by omega,HS.out _ (by simp)⟩
     case measure=>simp [intOf];omega
   ·obtain rfl:i=q:=by omega
    go_wp2
    go_loopw [10,11] (fun v iv wr=>∃ (t:Nat) (ls:List Nat),iv=.int .i64 ((i+t:Nat):Int)∧i+t≤m∧RightInv xs ls i s t∧Own wr w.heap.size v ls∧Below w.heap.size w wr) (fun _ iv _=>m - (intOf iv).toNat)
    case atStart=>exact⟨0,[],by go_num,by omega,RightInv.start _ _ _,Own.nil _ _,Below.refl _ _⟩
    case round=>
     obtain⟨t,ls,rfl,ht,hinv,hown,hb⟩:=hrel;have HI:=Hd hinv;have HO:=Hd hown;clear hinv hown;have hbs:=hb.size
     by_cases hlt3:i+t<m
     ·obtain⟨ad',e,hc⟩:=(HX.out.below hb).cell (j:=i+t) (by omega)
      cases e
      have hy1:=HX.out.lt (i+t);have hy2:=HX.out.lt (i+t+1)
      obtain⟨x1,hx1'⟩:∃ x1,xs[i+t+1]?.getD 0=x1:=⟨_,rfl⟩
      obtain⟨x0,hx0'⟩:∃ x0,xs[i+t]?.getD 0=x0:=⟨_,rfl⟩
      rw [hx0'] at hc hy1;rw [hx1'] at hy2
      obtain⟨v,hv⟩:∃ v,x0+4294967296*x1=v:=⟨_,rfl⟩
      have hv1:v<18446744073709551616:=by omega
      obtain⟨u,hu⟩:∃ u,v / 2^s=u:=⟨_,rfl⟩
      have hu1:u<18446744073709551616:=by rw [← hu];exact Nat.lt_of_le_of_lt (Nat.div_le_self _ _) hv1
      have hd:(v:Int) / 2^s=(u:Int):=by rw [← hu];simp
      have hm:=mask32_i (a:=(u:Int)) (by omega) (by omega);have hst:=HI.out.step (v:=v) HX.out.w32 hs2 (by rw [hx0',hx1'];exact hv.symm);rw [hu] at hst;have HST:=Hd hst;clear hst hu;have hor:=or_join' (i:=32) (x:=x1) (y:=x0) (by omega) (by omega) (by omega);rw [show x0+x1*2^32=v from by rw [← hv];omega,show ((x1*2^32:Nat):Int)=(x1:Int)*4294967296 from by omega] at hor
      have hcell:i+t+1<m→wr.cell? (ad.add (i+t+1))=some (wd x1):=by
       intro h;have hc2:=(HX.out.below hb).cellAt (j:=i+t+1) (by omega);rw [hx1'] at hc2;exact hc2
      have hnot:¬ i+t+1<m→x0=v:=by
       intro h;have h1:=(wlen_spec xs).1 (i+t+1) (by rw [HM.out];omega);rw [hx1'] at h1;omega
      have HC:=Hd hcell;have HN:=Hd hnot;clear hcell hnot hx1' hx0' hv;rw [show ((i+t:Nat):Int)=(i:Int)+(t:Int) from by omega]
      have j1:((i:Int)+(t:Int)).toNat=i+t:=by omega
      have j2:((i:Int)+(t:Int)+1).toNat=i+t+1:=by omega
      by_cases h4:i+t+1<m
      ·have hc2:=HC.out h4;rw [show ad.add (i+t+1)=⟨ad.block,ad.off+(i+t+1),none⟩ from by simp [Addr.add]] at hc2;clear HC HN
       go_wp2_with (at_builtin;refine wpList_append_u32 _ rfl _ _ rfl w.heap.size _ ls rfl (HO.out.alloc _) ⟨_,0,none⟩ 1 (u % 4294967296) rfl ?c1 ?c2 ?c3 ?_)
       case c1=>simp
       case c2=>rw [HI.out.2.1];omega
       case c3=>simp;omega
       intro v' w' hown' hgrow;have HO':=Hd hown';have hb':Below w.heap.size w w':=(hb.alloc hbs _).grown hgrow (by simp;omega) (fun g hg=>(HO.out.lt g hg).1);clear hown' hb hgrow hc hbs hm;go_wp2
       go_roundw
       case rel=>exact⟨t+1,_,by go_num,by omega,HST.out,HO'.out,hb'⟩
       case measure=>simp [intOf];omega
      ·obtain rfl:=HN.out h4
       clear HC HN hor
       go_wp2_with (at_builtin;refine wpList_append_u32 _ rfl _ _ rfl w.heap.size _ ls rfl (HO.out.alloc _) ⟨_,0,none⟩ 1 (u % 4294967296) rfl ?c1 ?c2 ?c3 ?_)
       case c1=>simp
       case c2=>rw [HI.out.2.1];omega
       case c3=>simp;omega
       intro v' w' hown' hgrow;have HO':=Hd hown';have hb':Below w.heap.size w w':=(hb.alloc hbs _).grown hgrow (by simp;omega) (fun g hg=>(HO.out.lt g hg).1);clear hown' hb hgrow hc hbs hm;go_wp2
       go_roundw
       case rel=>exact⟨t+1,_,by go_num,by omega,HST.out,HO'.out,hb'⟩
       case measure=>simp [intOf];omega
     ·have hnum:=HI.out.done HX.out.w32 (by rw [HM.out];omega);rw [HK.out] at hnum;have hlost:=right_lost HX.out.w32 i s hs2;rw [HK.out] at hlost
      have hbb:b=decide (num xs % 2^k≠0):=by
       rw [HB.out,hlost,Bool.eq_iff_iff]
       simp only [decide_eq_true_eq]
       have hp:=Nat.two_pow_pos (32*i)
       constructor
       ·intro h
        rcases h with h | h
        ·have:=Nat.mul_pos hp (Nat.pos_of_ne_zero h);omega
        ·omega
       ·intro h
        by_cases h2:xs[i]?.getD 0 % 2^s=0
        ·right;rw [h2] at h;simpa using h
        ·exact .inl h2
      obtain⟨A',c',rfl⟩:=HO.out.form;have hu:=HO.out.u32s rfl HI.out.1 (by rw [HI.out.2.1];omega);have hnorm:=norm_any _ _ _ _ wr hu (by rw [HI.out.2.1];omega);rw [trim_eq_digs HI.out.1,hnum] at hnorm;have HN:=Hd hnorm;have HBB:=Hd hbb;clear hnorm hu hnum hlost hbb;go_wp2_with fail;refine HN.out.mono ?_;rintro e w'' ⟨A2,n2,c2,rfl,hu2,hb2⟩;have H2:=Hd (show NewU32B w (digs (num xs / 2^k)) (decide (num xs % 2^k≠0)) (.returned (.tuple #[.slice A2 n2 c2,.bool b])) w'' from⟨A2,n2,c2,by rw [HBB.out],hu2,hb.trans (hb2.mono hbs)⟩);clear hu2 hb2 hb;go_wp2
      go_ret2
      exact H2.out
end
section
open Go.RowKit
theorem times_any(A B:Option Addr)(n c m d:Nat)(xs ys:List Nat)(w:World)(hx:U32s w A n c xs)(hy:U32s w B m d ys)(hs1:n≤8589934592)(hs2:m≤8589934592):
  Calls Tryz.prog 95 #[.slice A n c,.slice B m d] w (NewU32 w (digs (num xs*num ys))):=by
 have HX:=Hd hx;have HY:=Hd hy;have l1:=wlen_le xs;have l2:=wlen_le ys;rw [hx.len] at l1;rw [hy.len] at l2;have w1:=words_any A n c xs w hx;have w2:=words_any B m d ys w hy;clear hx hy
 obtain⟨p,hp⟩:∃ p,wlen xs=p:=⟨_,rfl⟩
 obtain⟨q,hq⟩:∃ q,wlen ys=q:=⟨_,rfl⟩
 rw [hp] at w1 l1;rw [hq] at w2 l2;have W1:=Hd w1;have W2:=Hd w2;have HP:=Hd hp;have HQ:=Hd hq;clear w1 w2 hp hq;have hmk:=fun W=>make_u32 (N:=(p:Int)+(q:Int)) (n:=p+q) (by omega) (by omega) W
 go_enter Tryz.func95,Tryz.ntmps95
 go_wp2_with fail;refine W1.out.mono ?_;rintro e w' ⟨rfl,rfl⟩;go_wp2_with fail;refine W2.out.mono ?_;rintro e w' ⟨rfl,rfl⟩;go_wp2
 go_loopw [8] (fun jv wr=>∃ (j:Nat) (ls:List Nat),jv=.int .i64 j∧j≤q∧TimesOut xs ys ls p q j∧Arr wr w.heap.size ls∧Below w.heap.size w wr) (fun jv _=>q - (intOf jv).toNat)
 case atStart=>exact⟨0,_,rfl,Nat.zero_le _,TimesOut.start _ _ _ _,Arr.zeros _ _,below_alloc _ _⟩
 case round=>
  obtain⟨j,ls,rfl,hj,hinv,harr,hb⟩:=hrel;have HI:=Hd hinv;have HA:=Hd harr;clear hinv harr hmk W1 W2;have hbs:=hb.size
  by_cases hlt:j<q
  ·obtain⟨ad',e,hc'⟩:=(HY.out.below hb).cell (j:=j) (by omega)
   cases e
   have hy1:=HY.out.lt j
   by_cases hy0:ys[j]?.getD 0=0
   ·rw [hy0] at hc';have HZ:=Hd hy0;clear hy0;go_wp2
    go_roundw
    case rel=>exact⟨j+1,ls,by go_num,hlt,HI.out.skip HZ.out,HA.out,hb⟩
    case measure=>simp [intOf];omega
   ·obtain⟨y,hy⟩:∃ y,ys[j]?.getD 0=y:=⟨_,rfl⟩
    rw [hy] at hc' hy1 hy0;have HYY:=Hd hy
    have hy2:((y:Int) == 0)=false:=by simp;omega
    clear hy hy0
    obtain⟨wo,rfl⟩:∃ wo:World,wo=wr:=⟨_,rfl⟩
    go_wp2
    go_loopw [10,11] (fun cv iv wr=>∃ (i k:Nat) (ls':List Nat),iv=.int .i64 i∧cv=.int .u64 k∧i≤p∧TimesIn xs ls' ls p q j i y k∧Arr wr w.heap.size ls'∧Below w.heap.size w wr) (fun _ iv _=>p - (intOf iv).toNat)
    case atStart=>exact⟨0,0,ls,rfl,rfl,Nat.zero_le _,TimesIn.start y HI.out,HA.out,hb⟩
    case round=>
     clear hb hbs HA hc';obtain⟨i,k,ls',rfl,rfl,hi,hin,harr,hb⟩:=hrel;have hk:=hin.2.2.2.1;have HIN:=Hd hin;have HA:=Hd harr;clear hin harr
     by_cases hlt2:i<p
     ·obtain⟨ad,e,hc⟩:=(HX.out.below hb).cell (j:=i) (by omega)
      cases e
      have hx1:=HX.out.lt i;have hc2:=HA.out.cell (j:=i+j) (by rw [HIN.out.2.1];omega);have hf2:=HA.out.frozen (i+j);have hl1:ls'[i+j]?.getD 0<4294967296:=HIN.out.1.get (i+j)
      obtain⟨x,hx⟩:∃ x,xs[i]?.getD 0=x:=⟨_,rfl⟩
      obtain⟨l,hl⟩:∃ l,ls'[i+j]?.getD 0=l:=⟨_,rfl⟩
      rw [hx] at hc hx1;rw [hl] at hc2 hl1;have HXX:=Hd hx;have HLL:=Hd hl;clear hx hl;have hz1:x*y≤4294967295*4294967295:=Nat.mul_le_mul (by omega) (by omega)
      obtain⟨z,hz⟩:∃ z,x*y=z:=⟨_,rfl⟩
      rw [hz] at hz1
      have e1:(x:Int)*(y:Int)=(z:Int):=by rw [← hz];simp
      have HZ:=Hd hz;clear hz
      have hij:((i:Int)+(j:Int))<((p+q:Nat):Int):=by omega
      have b1:((i:Int)+(j:Int)).toNat=i+j:=by omega
      have hm:=mask32_i (a:=(k:Int)+(l:Int)+(z:Int)) (by omega) (by omega);go_wp2_with fail
      go_quiet (fail)
      go_wp2
      go_roundw
      case rel=>
       refine⟨i+1,(k+l+z) / 4294967296,ls'.set (i+j) ((k+l+z) % 4294967296),by go_num,by go_num,by omega,?_,?_,(below_drewN hb _).setCell (Nat.le_refl _) _⟩
       ·exact HIN.out.step hlt2 hlt HX.out.w32 hy1 (by rw [HXX.out,HLL.out,HZ.out])
       ·have:=(HA.out.drewN nq).set (i+j) ((k+l+z) % 4294967296);rw [show ((k:Int)+(l:Int)+(z:Int)) % 4294967296=(((k+l+z) % 4294967296:Nat):Int) from by omega]
        exact this
      case measure=>simp [intOf];omega
     ·obtain rfl:i=p:=by omega
      have hc2:=HA.out.cell (j:=j+i) (by rw [HIN.out.2.1];omega);have hf2:=HA.out.frozen (j+i)
      have hij:((j:Int)+(i:Int))<((i+q:Nat):Int):=by omega
      have b1:((j:Int)+(i:Int)).toNat=j+i:=by omega
      have hk2:(k:Int) % 4294967296=(k:Int):=by omega
      obtain⟨l,hl⟩:∃ l,ls'[j+i]?.getD 0=l:=⟨_,rfl⟩
      rw [hl] at hc2;clear hl;go_wp2
      go_roundw
      case rel=>
       exact⟨j+1,ls'.set (j+i) k,by go_num,hlt,HIN.out.done HI.out hlt (by rw [HP.out];omega) HYY.out,HA.out.set _ _,hb.setCell (Nat.le_refl _) _⟩
      case measure=>simp [intOf];omega
  ·obtain rfl:j=q:=by omega
   have hnum:=HI.out.done (by rw [HQ.out];omega);have hu:=HA.out.u32s' HI.out.1 HI.out.2.1 (by omega);have hnorm:=norm_any _ _ _ _ wr hu (by omega);rw [trim_eq_digs HI.out.1,hnum] at hnorm;have HN:=Hd hnorm;clear hnorm hu hnum;go_wp2_with fail;refine HN.out.mono ?_;rintro e w'' ⟨A2,n2,c2,rfl,hu2,hb2⟩;have H2:=Hd (show NewU32 w (digs (num xs*num ys)) (.returned (.slice A2 n2 c2)) w'' from NewU32.trans ⟨A2,n2,c2,rfl,hu2,hb2⟩ hb);clear hu2 hb2 hb;go_wp2
   go_ret
   exact H2.out
end
section
open Go.RowKit
theorem digs_one:digs 1=[1]:=by rw [digs_pos (by omega)];simp [digs_zero]
theorem U32s.len_le{w:World}{A:Option Addr}{n c:Nat}{v k:Nat}(h:U32s w A n c (digs v))(hv:v<2^(32*k)):n≤k:=by
 rw [← h.len];exact digs_length_le hv
def PowInv(N k P X j:Nat):Prop:=P*X^j=N^k
theorem PowInv.odd{N k P X j:Nat}(h:PowInv N k P X j)(hj:j % 2=1):PowInv N k (P*X) (X*X) (j / 2):=by
 unfold PowInv at *;rw [← h,← Nat.pow_two,← Nat.pow_mul,Nat.mul_assoc,← Nat.pow_succ']
 congr 2;omega
theorem PowInv.even{N k P X j:Nat}(h:PowInv N k P X j)(hj:j % 2=0):PowInv N k P (X*X) (j / 2):=by
 unfold PowInv at *;rw [← h,← Nat.pow_two,← Nat.pow_mul]
 congr 2;omega
theorem PowInv.last{N k P X j X':Nat}(h:PowInv N k P X j)(hj:j=0):PowInv N k P X' j:=by
 unfold PowInv at *;subst hj;simpa using h
theorem PowInv.done{N k P X:Nat}(h:PowInv N k P X 0):P=N^k:=by unfold PowInv at h;simpa using h
theorem PowInv.pos{N k P X j:Nat}(h:PowInv N k P X j)(hN:0<N):0<P:=by
 unfold PowInv at h;have:=Nat.pow_pos (n:=k) hN
 rcases Nat.eq_zero_or_pos P with h0 | h0
 ·rw [h0] at h;omega
 ·exact h0
theorem PowInv.xpos{N k P X j:Nat}(h:PowInv N k P X j)(hN:0<N)(hj:0<j):0<X:=by
 unfold PowInv at h;have:=Nat.pow_pos (n:=k) hN
 rcases Nat.eq_zero_or_pos X with h0 | h0
 ·rw [h0,Nat.zero_pow hj] at h;omega
 ·exact h0
theorem PowInv.le_px{N k P X j:Nat}(h:PowInv N k P X j)(hN:0<N)(hj:0<j):P*X≤N^k:=by
 have hx:=h.xpos hN hj;unfold PowInv at h;rw [← h]
 exact Nat.mul_le_mul_left _ (by
  calc X=X^1:=(Nat.pow_one X).symm
   _≤X^j:=Nat.pow_le_pow_right hx hj)
theorem PowInv.le_xx{N k P X j:Nat}(h:PowInv N k P X j)(hN:0<N)(hj:2≤j):X*X≤N^k:=by
 have hx:=h.xpos hN (by omega);have hp:=h.pos hN;unfold PowInv at h;rw [← h]
 calc X*X=1*X^2:=by rw [Nat.pow_two,Nat.one_mul]
  _≤P*X^j:=Nat.mul_le_mul hp (Nat.pow_le_pow_right hx hj)
theorem power_any(A:Option Addr)(n c k S:Nat)(xs:List Nat)(w:World)(hx:U32s w A n c xs)(hs:n≤8589934592)(hN:0<num xs)(hS1:num xs<2^(32*S))(hS:num xs ^ k<2^(32*S))(hS2:S≤1073741824)(hk:k≤1048576):
  Calls Tryz.prog 120 #[.slice A n c,.int .i64 (k:Int)] w (NewU32 w (digs (num xs ^ k))):=by
 have HX:=Hd hx;have HS:=Hd hS;have HS1:=Hd hS1;have HN0:=Hd hN
 have hS0:1≤S:=by
  rcases Nat.eq_zero_or_pos S with h | h
  ·subst h;simp at hS1;omega
  ·exact h
 clear hx hS hS1 hN
 go_enter Tryz.func120,Tryz.ntmps120
 go_wp2_with fail;have hu0:=HX.out.below (below_alloc w (.cells #[.int .u32 1] 117));have hnorm:=norm_any A n c xs _ hu0 (by omega);rw [trim_eq_digs HX.out.w32] at hnorm;have HN:=Hd hnorm;clear hnorm hu0;refine HN.out.mono ?_;rintro e w1 ⟨A1,n1,c1,rfl,hu1,hb1⟩
 have h1:U32s w1 (some ⟨w.heap.size,0,none⟩) 1 1 (digs 1):=by
  rw [digs_one];exact (U32s.lit1 w 117 (a:=1) (by omega)).below hb1
 have HB:=Hd (show Below w.heap.size w w1 from (below_alloc w _).trans (hb1.mono (by simp)));have HU1:=Hd hu1;have H1:=Hd h1;clear HN hu1 hb1 h1;go_wp2
 go_loopw [1,5,6] (fun jv pv xv wr=>∃ (j P X:Nat) (Ap Ax:Option Addr) (np nx cp cx:Nat),jv=.int .i64 j∧pv=.slice Ap np cp∧xv=.slice Ax nx cx∧j≤k∧PowInv (num xs) k P X j ∧
  U32s wr Ap np cp (digs P)∧U32s wr Ax nx cx (digs X)∧np≤S∧nx≤S∧Below w.heap.size w wr) (fun jv _ _ _=>(intOf jv).toNat)
 case atStart=>exact⟨k,1,num xs,some ⟨w.heap.size,0,none⟩,A1,1,n1,1,c1,rfl,rfl,rfl,Nat.le_refl _,by unfold PowInv;rw [Nat.one_mul],H1.out,HU1.out,hS0,HU1.out.len_le HS1.out,HB.out⟩
 case round=>
  obtain⟨j,P,X,Ap,Ax,np,nx,cp,cx,rfl,rfl,rfl,hj,hinv,hp,hx,hnp,hnx,hb⟩:=hrel;have HI:=Hd hinv;have HP:=Hd hp;have HXX:=Hd hx;have HBB:=Hd hb;clear hinv hp hx hb H1 HU1 HB
  rcases Nat.eq_zero_or_pos j with h0 | h0
  ·subst h0;have e:=HI.out.done;subst e;go_wp2
   go_ret
   exact⟨Ap,np,cp,rfl,HP.out,HBB.out⟩
  have hj2:(0:Int)<(j:Int):=by omega
  by_cases hodd:j % 2=1
  ·have g1:(j:Int) % 2=1:=by omega
   have ht:=times_any Ap Ax np cp nx cx _ _ wr HP.out HXX.out (by omega) (by omega);rw [num_digs,num_digs] at ht;have HT:=Hd ht;clear ht;go_wp2_with fail;refine HT.out.mono ?_;rintro e w2 ⟨A2,n2,c2,rfl,hu2,hb2⟩;have hn2:n2≤S:=hu2.len_le (Nat.lt_of_le_of_lt (HI.out.le_px HN0.out h0) HS.out);have HU2:=Hd hu2;have HX2:=Hd (HXX.out.below hb2);have HB2:=Hd (show Below w.heap.size w w2 from HBB.out.trans (hb2.mono HBB.out.size));clear HT hu2 hb2
   by_cases h2:2≤j
   ·have g2:(0:Int)<(j:Int) / 2:=by omega
    have ht:=times_any Ax Ax nx cx nx cx _ _ w2 HX2.out HX2.out (by omega) (by omega);rw [num_digs] at ht;have HT:=Hd ht;clear ht;go_wp2_with fail;refine HT.out.mono ?_;rintro e w3 ⟨A3,n3,c3,rfl,hu3,hb3⟩;have hn3:n3≤S:=hu3.len_le (Nat.lt_of_le_of_lt (HI.out.le_xx HN0.out (by omega)) HS.out);have HU3:=Hd hu3;have HP3:=Hd (HU2.out.below hb3);have HB3:=Hd (show Below w.heap.size w w3 from HB2.out.trans (hb3.mono HB2.out.size));clear HT hu3 hb3;go_wp2
    go_roundw
    case rel=>exact⟨j / 2,P*X,X*X,A2,A3,n2,n3,c2,c3,by go_num,rfl,rfl,by omega,HI.out.odd hodd,HP3.out,HU3.out,hn2,hn3,HB3.out⟩
    case measure=>simp [intOf];omega
   ·obtain rfl:j=1:=by omega
    go_wp2
    go_roundw
    case rel=>exact⟨0,P*X,X,A2,Ax,n2,nx,c2,cx,by go_num,rfl,rfl,by omega,(HI.out.odd (by omega)).last rfl,HU2.out,HX2.out,hn2,hnx,HB2.out⟩
    case measure=>simp [intOf]
  ·have g1:(j:Int) % 2=0:=by omega
   have g2:(0:Int)<(j:Int) / 2:=by omega
   have ht:=times_any Ax Ax nx cx nx cx _ _ wr HXX.out HXX.out (by omega) (by omega);rw [num_digs] at ht;have HT:=Hd ht;clear ht;go_wp2_with fail;refine HT.out.mono ?_;rintro e w3 ⟨A3,n3,c3,rfl,hu3,hb3⟩;have hn3:n3≤S:=hu3.len_le (Nat.lt_of_le_of_lt (HI.out.le_xx HN0.out (by omega)) HS.out);have HU3:=Hd hu3;have HP3:=Hd (HP.out.below hb3);have HB3:=Hd (show Below w.heap.size w w3 from HBB.out.trans (hb3.mono HBB.out.size));clear HT hu3 hb3;go_wp2
   go_roundw
   case rel=>exact⟨j / 2,P,X*X,Ap,A3,np,n3,cp,c3,by go_num,rfl,rfl,by omega,HI.out.even (by omega),HP3.out,HU3.out,hnp,hn3,HB3.out⟩
   case measure=>simp [intOf];omega
end
end Go.Proofs.YthlmlmfebpjgdaaGreatDoor
