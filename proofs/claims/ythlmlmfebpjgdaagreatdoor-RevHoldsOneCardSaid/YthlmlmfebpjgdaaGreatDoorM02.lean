/-
Lemmas for the statement: TimesT PowerT FracT Frac1T Fl Ie Val Pat SignT SmallT FromT RCmp Rnd RndB.
-/
import Derived.Test.YthlmlmfebpjgdaaGreatDoorM01
import Derived.Laws.FloatBits
set_option linter.unusedSimpArgs false
set_option linter.unusedVariables false
set_option maxHeartbeats 12800000
namespace Go.Proofs.YthlmlmfebpjgdaaGreatDoor
open Go.Proofs.Tryz
open Go.RowKit
theorem times_any(A B:Option Addr)(n c m d:Nat)(xs ys:List Nat)(w:World)(hx:U32s w A n c xs)(hy:U32s w B m d ys)(hs1:n<=8589934592)(hs2:m<=8589934592):
  Calls prog 95 #[.slice A n c,.slice B m d] w (NewU32 w (digs (num xs*num ys))):=by
 have HX:=Hd hx;have HY:=Hd hy;have l1:=wlen_le xs;have l2:=wlen_le ys;rw [hx.len] at l1;rw [hy.len] at l2;have w1:=words_any A n c xs w hx;have w2:=words_any B m d ys w hy;clear hx hy
 obtain⟨p,hp⟩:∃ p,wlen xs=p:=⟨_,rfl⟩
 obtain⟨q,hq⟩:∃ q,wlen ys=q:=⟨_,rfl⟩
 rw [hp] at w1 l1;rw [hq] at w2 l2;have W1:=Hd w1;have W2:=Hd w2;have HP:=Hd hp;have HQ:=Hd hq;clear w1 w2 hp hq;have hmk:=fun W=>make_u32 (N:=(p:Int)+(q:Int)) (n:=p+q) (by omega) (by omega) W
 go_enter func95,ntmps95
 go_wp2_with fail;refine W1.out.mono ?_;rintro e w' ⟨rfl,rfl⟩;go_wp2_with fail;refine W2.out.mono ?_;rintro e w' ⟨rfl,rfl⟩;go_wp2
 go_loopw [8] (fun jv wr=>∃ (j:Nat) (ls:List Nat),jv=.int .i64 j/\j<=q/\TimesOut xs ys ls p q j/\Arr wr w.heap.size ls/\Below w.heap.size w wr) (fun jv _=>q - (intOf jv).toNat)
 case atStart=>exact⟨0,_,rfl,Nat.zero_le _,TimesOut.start _ _ _ _,Arr.zeros _ _,below_alloc _ _⟩
 case round=>
  obtain⟨j,ls,rfl,hj,hinv,harr,hb⟩:=hrel;have HI:=Hd hinv;have HA:=Hd harr;clear hinv harr hmk W1 W2;have hbs:=hb.size
  by_cases hlt:j<q
  ·obtain⟨ad',e,hc'⟩:=(HY.out.below hb).cell (j:=j) (by omega)
   cases e
   have hy1:=HY.out.lt j
   by_cases hy0:ys[j]?.getD 0=0
   ·rw [hy0] at hc';have HZ:=Hd hy0;clear hy0;go_wp2
    go_roundw
    case rel=>exact⟨j+1,ls,by go_num,hlt,HI.out.skip HZ.out,HA.out,hb⟩
    case measure=>simp [intOf];omega
   ·obtain⟨y,hy⟩:∃ y,ys[j]?.getD 0=y:=⟨_,rfl⟩
    rw [hy] at hc' hy1 hy0;have HYY:=Hd hy
    have hy2:((y:Int) == 0)=false:=by simp;omega
    clear hy hy0
    obtain⟨wo,rfl⟩:∃ wo:World,wo=wr:=⟨_,rfl⟩
    go_wp2
    go_loopw [10,11] (fun cv iv wr=>∃ (i k:Nat) (ls':List Nat),iv=.int .i64 i/\cv=.int .u64 k/\i<=p/\TimesIn xs ls' ls p q j i y k/\Arr wr w.heap.size ls'/\Below w.heap.size w wr) (fun _ iv _=>p - (intOf iv).toNat)
    case atStart=>exact⟨0,0,ls,rfl,rfl,Nat.zero_le _,TimesIn.start y HI.out,HA.out,hb⟩
    case round=>
     clear hb hbs HA hc';obtain⟨i,k,ls',rfl,rfl,hi,hin,harr,hb⟩:=hrel;have hk:=hin.2.2.2.1;have HIN:=Hd hin;have HA:=Hd harr;clear hin harr
     by_cases hlt2:i<p
     ·obtain⟨ad,e,hc⟩:=(HX.out.below hb).cell (j:=i) (by omega)
      cases e
      have hx1:=HX.out.lt i;have hc2:=HA.out.cell (j:=i+j) (by rw [HIN.out.2.1];omega);have hf2:=HA.out.frozen (i+j);have hl1:ls'[i+j]?.getD 0<4294967296:=HIN.out.1.get (i+j)
      obtain⟨x,hx⟩:∃ x,xs[i]?.getD 0=x:=⟨_,rfl⟩
      obtain⟨l,hl⟩:∃ l,ls'[i+j]?.getD 0=l:=⟨_,rfl⟩
      rw [hx] at hc hx1;rw [hl] at hc2 hl1;have HXX:=Hd hx;have HLL:=Hd hl;clear hx hl;have hz1:x*y<=4294967295*4294967295:=Nat.mul_le_mul (by omega) (by omega)
      obtain⟨z,hz⟩:∃ z,x*y=z:=⟨_,rfl⟩
      rw [hz] at hz1
      have e1:(x:Int)*(y:Int)=(z:Int):=by rw [<- hz];simp
      have HZ:=Hd hz;clear hz
      have hij:((i:Int)+(j:Int))<((p+q:Nat):Int):=by omega
      have b1:((i:Int)+(j:Int)).toNat=i+j:=by omega
      have hm:=mask32_i (a:=(k:Int)+(l:Int)+(z:Int)) (by omega) (by omega);go_wp2_with fail
      go_quiet (fail)
      go_wp2
      go_roundw
      case rel=>
       refine⟨i+1,(k+l+z) / 4294967296,ls'.set (i+j) ((k+l+z) % 4294967296),by go_num,by go_num,by omega,?_,?_,(below_drewN hb _).setCell (Nat.le_refl _) _⟩
       ·exact HIN.out.step hlt2 hlt HX.out.w32 hy1 (by rw [HXX.out,HLL.out,HZ.out])
       ·have:=(HA.out.drewN nq).set (i+j) ((k+l+z) % 4294967296);rw [show ((k:Int)+(l:Int)+(z:Int)) % 4294967296=(((k+l+z) % 4294967296:Nat):Int) from by omega]
        exact this
      case measure=>simp [intOf];omega
     ·obtain rfl:i=p:=by omega
      have hc2:=HA.out.cell (j:=j+i) (by rw [HIN.out.2.1];omega);have hf2:=HA.out.frozen (j+i)
      have hij:((j:Int)+(i:Int))<((i+q:Nat):Int):=by omega
      have b1:((j:Int)+(i:Int)).toNat=j+i:=by omega
      have hk2:(k:Int) % 4294967296=(k:Int):=by omega
      obtain⟨l,hl⟩:∃ l,ls'[j+i]?.getD 0=l:=⟨_,rfl⟩
      rw [hl] at hc2;clear hl;go_wp2
      go_roundw
      case rel=>
       exact⟨j+1,ls'.set (j+i) k,by go_num,hlt,HIN.out.done HI.out hlt (by rw [HP.out];omega) HYY.out,HA.out.set _ _,hb.setCell (Nat.le_refl _) _⟩
      case measure=>simp [intOf];omega
  ·obtain rfl:j=q:=by omega
   have hnum:=HI.out.done (by rw [HQ.out];omega);have hu:=HA.out.u32s' HI.out.1 HI.out.2.1 (by omega);have hnorm:=norm_any _ _ _ _ wr hu (by omega);rw [trim_eq_digs HI.out.1,hnum] at hnorm;have HN:=Hd hnorm;clear hnorm hu hnum;go_wp2_with fail;refine HN.out.mono ?_;rintro e w'' ⟨A2,n2,c2,rfl,hu2,hb2⟩;have H2:=Hd (show NewU32 w (digs (num xs*num ys)) (.returned (.slice A2 n2 c2)) w'' from NewU32.trans ⟨A2,n2,c2,rfl,hu2,hb2⟩ hb);clear hu2 hb2 hb;go_wp2
   go_ret
   exact H2.out
theorem digs_one:digs 1=[1]:=by rw [digs_pos (by omega)];simp [digs_zero]
theorem U32s.len_le{w:World}{A:Option Addr}{n c:Nat}{v k:Nat}(h:U32s w A n c (digs v))(hv:v<2^(32*k)):n<=k:=by
 rw [<- h.len];exact digs_length_le hv
def PowInv(N k P X j:Nat):Prop:=P*X^j=N^k
theorem PowInv.odd{N k P X j:Nat}(h:PowInv N k P X j)(hj:j % 2=1):PowInv N k (P*X) (X*X) (j / 2):=by
 unfold PowInv at *;rw [<- h,<- Nat.pow_two,<- Nat.pow_mul,Nat.mul_assoc,<- Nat.pow_succ']
 congr 2;omega
theorem PowInv.even{N k P X j:Nat}(h:PowInv N k P X j)(hj:j % 2=0):PowInv N k P (X*X) (j / 2):=by
 unfold PowInv at *;rw [<- h,<- Nat.pow_two,<- Nat.pow_mul]
 congr 2;omega
theorem PowInv.last{N k P X j X':Nat}(h:PowInv N k P X j)(hj:j=0):PowInv N k P X' j:=by
 unfold PowInv at *;subst hj;simpa using h
theorem PowInv.done{N k P X:Nat}(h:PowInv N k P X 0):P=N^k:=by unfold PowInv at h;simpa using h
theorem PowInv.pos{N k P X j:Nat}(h:PowInv N k P X j)(hN:0<N):0<P:=by
 unfold PowInv at h;have:=Nat.pow_pos (n:=k) hN
 rcases Nat.eq_zero_or_pos P with h0 | h0
 ·rw [h0] at h;omega
 ·exact h0
theorem PowInv.xpos{N k P X j:Nat}(h:PowInv N k P X j)(hN:0<N)(hj:0<j):0<X:=by
 unfold PowInv at h;have:=Nat.pow_pos (n:=k) hN
 rcases Nat.eq_zero_or_pos X with h0 | h0
 ·rw [h0,Nat.zero_pow hj] at h;omega
 ·exact h0
theorem PowInv.le_px{N k P X j:Nat}(h:PowInv N k P X j)(hN:0<N)(hj:0<j):P*X<=N^k:=by
 have hx:=h.xpos hN hj;unfold PowInv at h;rw [<- h]
 exact Nat.mul_le_mul_left _ (by
  calc X=X^1:=(Nat.pow_one X).symm
   _<=X^j:=Nat.pow_le_pow_right hx hj)
theorem PowInv.le_xx{N k P X j:Nat}(h:PowInv N k P X j)(hN:0<N)(hj:2<=j):X*X<=N^k:=by
 have hx:=h.xpos hN (by omega);have hp:=h.pos hN;unfold PowInv at h;rw [<- h]
 calc X*X=1*X^2:=by rw [Nat.pow_two,Nat.one_mul]
  _<=P*X^j:=Nat.mul_le_mul hp (Nat.pow_le_pow_right hx hj)
theorem frac_value{neg:Bool}{a b ka kb K:Nat}{exp e:Int}(he:e=exp+ka - kb)(hb:0<b)(ha1:a % 2^ka=0)(hb1:b % 2^kb=0)
  (hka:a*2^exp.toNat<2^(32*K))(hkb:b*2^(-exp).toNat<2^(32*K))(ha:0<a):
  0<a / 2^ka*2^e.toNat/\0<b / 2^kb*2^(-e).toNat/\a / 2^ka*2^e.toNat<2^(32*K)/\b / 2^kb*2^(-e).toNat<2^(32*K) /\
   rv neg a b*2^exp=rv neg (a / 2^ka*2^e.toNat) (b / 2^kb*2^(-e).toNat):=by
 have hea:=odd_part ha1;have heb:=odd_part hb1
 have pa:0<a / 2^ka:=by
  rcases Nat.eq_zero_or_pos (a / 2^ka) with h | h
  ·rw [h] at hea;omega
  ·exact h
 have pb:0<b / 2^kb:=by
  rcases Nat.eq_zero_or_pos (b / 2^kb) with h | h
  ·rw [h] at heb;omega
  ·exact h
 have q1:=Nat.mul_pos pa (Nat.two_pow_pos e.toNat);have q2:=Nat.mul_pos pb (Nat.two_pow_pos (-e).toNat);refine⟨q1,q2,?_,?_,?_⟩
 ·refine Nat.lt_of_le_of_lt ?_ hka;rw [<- hea,Nat.mul_div_cancel _ (Nat.two_pow_pos ka),Nat.mul_assoc,<- Nat.pow_add]
  exact Nat.mul_le_mul_left _ (Nat.pow_le_pow_right (by omega) (by omega))
 ·refine Nat.lt_of_le_of_lt ?_ hkb;rw [<- heb,Nat.mul_div_cancel _ (Nat.two_pow_pos kb),Nat.mul_assoc,<- Nat.pow_add]
  exact Nat.mul_le_mul_left _ (Nat.pow_le_pow_right (by omega) (by omega))
 ·rw [<- rv_scale neg hb];refine rv_eq (Nat.mul_pos hb (Nat.two_pow_pos _)) q2 ?_;generalize a / 2^ka=x at *;generalize b / 2^kb=y at *;subst hea heb;rw [Nat.mul_assoc,Nat.mul_assoc,Nat.mul_assoc,Nat.mul_assoc]
  congr 1
  rw [Nat.mul_left_comm _ y,Nat.mul_left_comm _ y,Nat.mul_left_comm _ y]
  congr 1
  rw [<- Nat.pow_add,<- Nat.pow_add,<- Nat.pow_add,<- Nat.pow_add]
  congr 1;omega
theorem frac_zero(neg:Bool)(A B:Option Addr)(n c m d K:Nat)(xs ys:List Nat)(exp:Int)(w:World)(hx:U32s w A n c xs)(hy:U32s w B m d ys)(hs1:n<=8589934592)(hs2:m<=8589934592)(h0:num xs=0)(hK:1<=K):
  Calls prog 96 #[.bool neg,.slice A n c,.slice B m d,.int .i64 exp] w (NewRat w K 0):=by
 have HX:=Hd hx;have HY:=Hd hy;clear hx hy;have ba:=below_alloc w (.cells (Zr false none 0 0 none 0 0) 42);have hn1:=norm_any A n c xs _ (HX.out.below ba) (by omega);rw [trim_eq_digs HX.out.w32,h0,digs_zero] at hn1;have HN1:=Hd hn1;clear hn1
 go_enter func96,ntmps96
 go_wp2_with fail;refine HN1.out.mono ?_;rintro e w1 ⟨A1,n1,c1,rfl,hu1,hb1⟩
 obtain rfl:n1=0:=hu1.len.symm
 have hn2:=norm_any B m d ys w1 ((HY.out.below ba).below hb1) (by omega);have HN2:=Hd hn2;go_wp2_with fail;refine HN2.out.mono ?_;rintro e w2 ⟨A2,n2,c2,rfl,hu2,hb2⟩;have hblk:=((Blk.new w 42 (Zr false none 0 0 none 0 0)).keep hb1).keep hb2;have k0:=hblk.cell 0;have k1:=hblk.cell 1;have k2:=hblk.cell 2;have f0:=hblk.frozen 0;have f1:=hblk.frozen 1;have f2:=hblk.frozen 2;have hlt:=hblk.lt;have HB:=Hd (show Below w.heap.size w w2 from (ba.trans (hb1.mono (by simp))).trans (hb2.mono (by have:=hb1.size;simp at this;omega)));clear hblk hb1 hb2 hu2 hu1 HN1 HN2 hn2 ba
 simp at k0 k1 k2
 go_wp2;refine bodyPost_ret (v:=.agg #[.bool false,.slice none 0 0,.slice (some ⟨w2.heap.size,0,none⟩) 1 1]) (by simp [results,results96,go_sem,hlt,k0,k1,k2]) rfl ?_;refine⟨false,.slice none 0 0,.slice (some ⟨w2.heap.size,0,none⟩) 1 1,rfl,⟨0,1,none,0,0,_,1,1,rfl,rfl,?_,?_,by omega,fun _=>rfl,Nat.two_pow_pos _,?_,(rv_zero _ _).symm⟩,?_⟩
 ·rw [digs_zero];exact U32s.nil _ _ _
 ·rw [digs_one]
  exact U32s.lit1_at (by simp) 117 (a:=1) (by omega)
 ·exact Nat.one_lt_two_pow (by omega)
 ·exact (below_set3 HB.out (Nat.le_refl _) _ _ _).alloc (by simpa using HB.out.size) _
theorem norm_v{v:Nat}(A:Option Addr)(n c:Nat)(xs:List Nat)(w:World)(h:U32s w A n c xs)(hs:n<=34359738367)(ev:num xs=v):
  Calls prog 93 #[.slice A n c] w fun e w'=>∃ A1 n1 c1,e=.returned (.slice A1 n1 c1)/\U32s w' A1 n1 c1 (digs v)/\n1<=n/\(0<v->0<n1)/\Below w.heap.size w w':=by
 have h1:=norm_any A n c xs w h hs;rw [trim_eq_digs h.w32,ev] at h1;refine h1.mono ?_;rintro e w' ⟨A1,n1,c1,rfl,hu,hb⟩;have l:=wlen_le xs
 have l2:wlen xs=(digs v).length:=by unfold wlen;rw [trim_eq_digs h.w32,ev]
 have l3:=hu.len;refine⟨A1,n1,c1,rfl,hu,by rw [h.len] at l;omega,fun hv=>?_,hb⟩
 rcases Nat.eq_zero_or_pos n1 with h0 | h0
 ·have:=digs_length_eq_zero.1 (show (digs v).length=0 by omega)
  omega
 ·exact h0
theorem zeros_v{v:Nat}(A:Option Addr)(n c:Nat)(w:World)(hx:U32s w A n c (digs v))(h0:0<v):
  Calls prog 164 #[.slice A n c] w fun e w'=>(∃ k:Nat,e=.returned (.int .i64 (k:Int))/\k<=32*n/\v % 2^k=0)/\w=w':=by
 refine (zeros_any A n c _ w hx (by rw [num_digs];omega)).mono ?_;rintro e w' ⟨⟨k,rfl,h1,h2,_⟩,rfl⟩;rw [num_digs] at h2
 exact⟨⟨k,rfl,h1,h2⟩,rfl⟩
theorem right_v{v:Nat}(A:Option Addr)(n c k:Nat)(w:World)(hx:U32s w A n c (digs v))(hs1:n<=1073741824)(hk:k<=32*n):
  Calls prog 165 #[.slice A n c,.int .i64 (k:Int)] w fun e w'=>∃ A1 n1 c1 t,e=.returned (.tuple #[.slice A1 n1 c1,.bool t])/\U32s w' A1 n1 c1 (digs (v / 2^k))/\n1<=n/\Below w.heap.size w w':=by
 have h1:=right_any A n c k _ w hx (by omega) (by omega);rw [num_digs] at h1;refine h1.mono ?_;rintro e w' ⟨A1,n1,c1,rfl,hu,hb⟩;refine⟨A1,n1,c1,_,rfl,hu,?_,hb⟩;have l:=hu.len;have l2:(digs (v / 2^k)).length<=n:=digs_length_le (Nat.lt_of_le_of_lt (Nat.div_le_self _ _) (by have:=num_lt hx.w32;rw [num_digs,hx.len] at this;exact this))
 omega
theorem left_v{v:Nat}(A:Option Addr)(n c k:Nat)(w:World)(hx:U32s w A n c (digs v))(hs1:n<=1073741824)(hk:k<=137438953472):
  Calls prog 166 #[.slice A n c,.int .i64 (k:Int)] w (NewU32 w (digs (v*2^k))):=by
 have h1:=left_any A n c k _ w hx (by omega) hk;rw [num_digs] at h1
 exact h1
theorem mul_one_pow(v:Nat):v*2^0=v:=by simp
theorem frac_pos(neg:Bool)(A B:Option Addr)(n c m d K a b:Nat)(xs ys:List Nat)(exp:Int)(w:World)(hx:U32s w A n c xs)(hy:U32s w B m d ys)(hs1:n<=1073741824)(hs2:m<=1073741824)
  (ea:num xs=a)(eb:num ys=b)(ha:0<a)(hb:0<b)(he1:-1073741824<=exp)(he2:exp<=1073741824)
  (hka:a*2^exp.toNat<2^(32*K))(hkb:b*2^(-exp).toNat<2^(32*K)):
  Calls prog 96 #[.bool neg,.slice A n c,.slice B m d,.int .i64 exp] w (NewRat w K (rv neg a b*2^exp)):=by
 have HX:=Hd hx;have HY:=Hd hy;have HKA:=Hd hka;have HKB:=Hd hkb;have ba:=below_alloc w (.cells (Zr false none 0 0 none 0 0) 42);have hn1:=norm_v A n c xs _ (hx.below ba) (by omega) ea;have HN1:=Hd hn1;have BA:=Hd ba;clear hn1 hx hy hka hkb ba ea
 go_enter func96,ntmps96
 go_wp2_with fail;refine HN1.out.mono ?_;rintro e w1 ⟨A1,n1,c1,rfl,hu1,hn1,hp1,hb1⟩;have hp1:=hp1 ha;have HN2:=Hd (norm_v B m d ys w1 ((HY.out.below BA.out).below hb1) (by omega) eb);have U1:=Hd hu1;have B1:=Hd hb1;clear hu1 hb1 HN1 eb;go_wp2_with fail;refine HN2.out.mono ?_;rintro e w2 ⟨A2,n2,c2,rfl,hu2,hn2,hp2,hb2⟩;have hp2:=hp2 hb;have U2:=Hd hu2;have U1':=Hd (U1.out.below hb2);have HZ1:=Hd (zeros_v A1 n1 c1 w2 U1'.out ha);have B2:=Hd hb2;clear hu2 hb2 U1 HN2;go_wp2_with fail;refine HZ1.out.mono ?_;rintro e w2' ⟨⟨ka,rfl,hka,hza⟩,rfl⟩;have HR1:=Hd (right_v A1 n1 c1 ka w2 U1'.out (by omega) hka);go_wp2_with fail;refine HR1.out.mono ?_;rintro e w3 ⟨A3,n3,c3,t3,rfl,hu3,hn3,hb3⟩;have U3:=Hd hu3;have U2':=Hd (U2.out.below hb3);have HZ2:=Hd (zeros_v A2 n2 c2 w3 U2'.out hb);have B3:=Hd hb3;clear hu3 hb3 HR1 HZ1 U2 U1';go_wp2_with fail;refine HZ2.out.mono ?_;rintro e w3' ⟨⟨kb,rfl,hkb,hzb⟩,rfl⟩;have HR2:=Hd (right_v A2 n2 c2 kb w3 U2'.out (by omega) hkb);go_wp2_with fail;refine HR2.out.mono ?_;rintro e w4 ⟨A4,n4,c4,t4,rfl,hu4,hn4,hb4⟩;have U4:=Hd hu4;have U3':=Hd (U3.out.below hb4);have hblk:=((((Blk.new w 42 (Zr false none 0 0 none 0 0)).keep B1.out).keep B2.out).keep B3.out).keep hb4;have HB:=Hd (show Below w.heap.size w w4 from (((BA.out.trans (B1.out.mono BA.out.size)).trans (B2.out.mono (by have:=BA.out.size;have:=B1.out.size;omega))).trans (B3.out.mono (by have:=BA.out.size;have:=B1.out.size;have:=B2.out.size;omega))).trans (hb4.mono (by have:=BA.out.size;have:=B1.out.size;have:=B2.out.size;have:=B3.out.size;omega)))
 have HBLK:=Hd hblk;clear hu4 hb4 HR2 HZ2 U3 B1 B2 B3 hblk U2'
 obtain⟨ex,hex⟩:∃ ex,exp+ka - kb=ex:=⟨_,rfl⟩
 have F:=Hd (frac_value (neg:=neg) (K:=K) hex.symm hb hza hzb HKA.out HKB.out ha)
 have FIN0:∀ w5 A5 n5 c5 A6 n6 c6,U32s w5 A5 n5 c5 (digs (a / 2^ka*2^ex.toNat))->U32s w5 A6 n6 c6 (digs (b / 2^kb*2^(-ex).toNat))->Below w.heap.size w w5->Blk w5 w.heap.size 42 (Zr false none 0 0 none 0 0) ->
   NewRat w K (rv neg a b*2^exp) (.returned (Zg neg A5 n5 c5 A6 n6 c6)) (((w5.setCell ⟨w.heap.size,0,none⟩ (.bool neg)).setCell ⟨w.heap.size,1,none⟩ (.slice A5 n5 c5)).setCell ⟨w.heap.size,2,none⟩ (.slice A6 n6 c6)):=by
  intro w5 A5 n5 c5 A6 n6 c6 h5 h6 hb5 hk5;obtain⟨f1,f2,f3,f4,f5⟩:=F.out
  exact RatV.ret ⟨_,_,A5,n5,c5,A6,n6,c6,rfl,rfl,h5,h6,f2,by omega,f3,f4,f5⟩ hb5 hk5 NoWd.zero (Nat.le_refl _)
 obtain⟨xl,hxl⟩:∃ xl:Nat,ex.toNat=xl:=⟨_,rfl⟩
 obtain⟨xr,hxr⟩:∃ xr:Nat,(-ex).toNat=xr:=⟨_,rfl⟩
 rw [hxl,hxr] at FIN0;have FIN:=Hd FIN0;clear F FIN0
 by_cases e1:0<ex
 ·have ex1:ex=(xl:Int):=by omega
  obtain rfl:xr=0:=by omega
  have HL:=Hd (left_v A3 n3 c3 xl w4 U3'.out (by omega) (by omega));clear hxl hxr;subst ex1;go_wp2_with fail;refine HL.out.mono ?_;rintro e w5 ⟨A5,n5,c5,rfl,hu5,hb5⟩;have hblk:=HBLK.out.keep hb5;have HB5:=HB.out.trans (hb5.mono HB.out.size);have k0:=hblk.cell 0;have k1:=hblk.cell 1;have k2:=hblk.cell 2;have f0:=hblk.frozen 0;have f1:=hblk.frozen 1;have f2:=hblk.frozen 2;have hlt:=hblk.lt;have FF:=Hd (FIN.out w5 A5 n5 c5 A4 n4 c4 hu5 (by rw [mul_one_pow];exact U4.out.below hb5) HB5 hblk);clear hblk hb5 hu5 HB5
  simp at k0 k1 k2
  go_wp2
  exact bodyPost_ret (v:=Zg neg A5 n5 c5 A4 n4 c4) (by simp [results,results96,go_sem,k0,k1,k2]) rfl FF.out
 ·by_cases e2:ex<0
  ·have ex1:-ex=(xr:Int):=by omega
   obtain rfl:xl=0:=by omega
   have HL:=Hd (left_v A4 n4 c4 xr w4 U4.out (by omega) (by omega));clear hxl hxr
   obtain rfl:ex=-(xr:Int):=by omega
   have nn:-(-(xr:Int))=(xr:Int):=by omega
   go_wp2_with fail;refine HL.out.mono ?_;rintro e w5 ⟨A5,n5,c5,rfl,hu5,hb5⟩;have hblk:=HBLK.out.keep hb5;have HB5:=HB.out.trans (hb5.mono HB.out.size);have k0:=hblk.cell 0;have k1:=hblk.cell 1;have k2:=hblk.cell 2;have f0:=hblk.frozen 0;have f1:=hblk.frozen 1;have f2:=hblk.frozen 2;have hlt:=hblk.lt;have FF:=Hd (FIN.out w5 A3 n3 c3 A5 n5 c5 (by rw [mul_one_pow];exact U3'.out.below hb5) hu5 HB5 hblk);clear hblk hb5 hu5 HB5
   simp at k0 k1 k2
   go_wp2
   exact bodyPost_ret (v:=Zg neg A3 n3 c3 A5 n5 c5) (by simp [results,results96,go_sem,k0,k1,k2]) rfl FF.out
  ·obtain rfl:xl=0:=by omega
   obtain rfl:xr=0:=by omega
   have hblk:=HBLK.out;have k0:=hblk.cell 0;have k1:=hblk.cell 1;have k2:=hblk.cell 2;have f0:=hblk.frozen 0;have f1:=hblk.frozen 1;have f2:=hblk.frozen 2;have hlt:=hblk.lt;have FF:=Hd (FIN.out w4 A3 n3 c3 A4 n4 c4 (by rw [mul_one_pow];exact U3'.out) (by rw [mul_one_pow];exact U4.out) HB.out hblk);clear hblk
   simp at k0 k1 k2
   go_wp2
   exact bodyPost_ret (v:=Zg neg A3 n3 c3 A4 n4 c4) (by simp [results,results96,go_sem,k0,k1,k2]) rfl FF.out
theorem frac_any(neg:Bool)(A B:Option Addr)(n c m d K a b:Nat)(xs ys:List Nat)(exp:Int)(w:World)(hx:U32s w A n c xs)(hy:U32s w B m d ys)(hs1:n<=1073741824)(hs2:m<=1073741824)
  (ea:num xs=a)(eb:num ys=b)(hb:0<b)(he1:-1073741824<=exp)(he2:exp<=1073741824)
  (hka:a*2^exp.toNat<2^(32*K))(hkb:b*2^(-exp).toNat<2^(32*K))(hK:1<=K):
  Calls prog 96 #[.bool neg,.slice A n c,.slice B m d,.int .i64 exp] w (NewRat w K (rv neg a b*2^exp)):=by
 rcases Nat.eq_zero_or_pos a with h | h
 ·subst h;rw [rv_zero,Rat.zero_mul]
  exact frac_zero neg A B n c m d K xs ys exp w hx hy (by omega) (by omega) ea hK
 ·exact frac_pos neg A B n c m d K a b xs ys exp w hx hy hs1 hs2 ea eb h hb he1 he2 hka hkb
theorem frac_plain(neg:Bool)(A B:Option Addr)(n c m d K a b:Nat)(w:World)(hx:U32s w A n c (digs a))(hy:U32s w B m d (digs b))(hb:0<b)(hka:a<2^(32*K))(hkb:b<2^(32*K))(hK:1<=K)(hK2:K<=1073741824):
  Calls prog 96 #[.bool neg,.slice A n c,.slice B m d,.int .i64 0] w (NewRat w K (rv neg a b)):=by
 have h:=frac_any neg A B n c m d K a b _ _ 0 w hx hy (by have:=hx.len_le hka;omega) (by have:=hy.len_le hkb;omega) (num_digs _) (num_digs _) hb (by omega) (by omega) (by simpa using hka) (by simpa using hkb) hK;rw [show (2:Rat)^(0:Int)=1 from rfl,Rat.mul_one] at h
 exact h
def RatI(w:World)(g:Bool)(A:Option Addr)(n c:Nat)(B:Option Addr)(d:Nat)(z:Int):Prop:=U32s w A n c (digs z.natAbs)/\U32s w B 1 d (digs 1)/\g=decide (z<0)
def NewI(w:World)(z:Int)(e:Ending)(w':World):Prop:=∃ g A n c B d,e=.returned (Zg g A n c B 1 d)/\RatI w' g A n c B d z/\Below w.heap.size w w'
theorem RatI.below{w w':World}{g:Bool}{A:Option Addr}{n c:Nat}{B:Option Addr}{d:Nat}{z:Int}(h:RatI w g A n c B d z)(hb:Below w.heap.size w w'):RatI w' g A n c B d z:=⟨h.1.below hb,h.2.1.below hb,h.2.2⟩
theorem RatI.ret{w w5:World}{g:Nat}{t:TypeId}{cs:Array Value}{neg:Bool}{A:Option Addr}{n c:Nat}{B:Option Addr}{d:Nat}{z:Int}(h:RatI w5 neg A n c B d z)(hb:Below w.heap.size w w5)(hk:Blk w5 g t cs)(hc:NoWd cs)(hg:w.heap.size<=g):
  NewI w z (.returned (Zg neg A n c B 1 d)) (((w5.setCell ⟨g,0,none⟩ (.bool neg)).setCell ⟨g,1,none⟩ (.slice A n c)).setCell ⟨g,2,none⟩ (.slice B 1 d)):=by
 obtain⟨h3,h4,h5⟩:=h
 exact⟨neg,A,n,c,B,d,rfl,⟨h3.set3' (hk.apart hc h3) _ _ _,h4.set3' (hk.apart hc h4) _ _ _,h5⟩,below_set3 hb hg _ _ _⟩
theorem RatI.rat{w:World}{K:Nat}{g:Bool}{A:Option Addr}{n c:Nat}{B:Option Addr}{d:Nat}{z:Int}(h:RatI w g A n c B d z)(hK:1<=K)(hz:z.natAbs<2^(32*K)):RatV w K g (.slice A n c) (.slice B 1 d) (z:Rat):=by
 obtain⟨h1,h2,rfl⟩:=h;refine⟨_,1,A,n,c,B,1,d,rfl,rfl,h1,h2,by omega,fun h=>decide_eq_false (by omega),hz,Nat.one_lt_two_pow (by omega),?_⟩;unfold rv;refine (div_eq (by decide) ?_).symm;rw [show ((1:Nat):Rat)=1 from rfl,Rat.mul_one]
 by_cases c0:z<0
 ·rw [if_pos (decide_eq_true c0),show z=-((z.natAbs:Nat):Int) by omega,Rat.intCast_neg,Rat.intCast_natCast];simp
 ·rw [if_neg (by simpa using c0)]
  have:((z.natAbs:Nat):Int)=z:=by omega
  rw [<- Rat.intCast_natCast,this]
theorem frac1_zero(neg:Bool)(A B:Option Addr)(n c m d:Nat)(xs ys:List Nat)(w:World)(hx:U32s w A n c xs)(hy:U32s w B m d ys)(hs1:n<=8589934592)(hs2:m<=8589934592)(h0:num xs=0):
  Calls prog 96 #[.bool neg,.slice A n c,.slice B m d,.int .i64 0] w (NewI w 0):=by
 have HX:=Hd hx;have HY:=Hd hy;clear hx hy;have ba:=below_alloc w (.cells (Zr false none 0 0 none 0 0) 42);have hn1:=norm_any A n c xs _ (HX.out.below ba) (by omega);rw [trim_eq_digs HX.out.w32,h0,digs_zero] at hn1;have HN1:=Hd hn1;clear hn1
 go_enter func96,ntmps96
 go_wp2_with fail;refine HN1.out.mono ?_;rintro e w1 ⟨A1,n1,c1,rfl,hu1,hb1⟩
 obtain rfl:n1=0:=hu1.len.symm
 have hn2:=norm_any B m d ys w1 ((HY.out.below ba).below hb1) (by omega);have HN2:=Hd hn2;go_wp2_with fail;refine HN2.out.mono ?_;rintro e w2 ⟨A2,n2,c2,rfl,hu2,hb2⟩;have hblk:=((Blk.new w 42 (Zr false none 0 0 none 0 0)).keep hb1).keep hb2;have k0:=hblk.cell 0;have k1:=hblk.cell 1;have k2:=hblk.cell 2;have f0:=hblk.frozen 0;have f1:=hblk.frozen 1;have f2:=hblk.frozen 2;have hlt:=hblk.lt;have HB:=Hd (show Below w.heap.size w w2 from (ba.trans (hb1.mono (by simp))).trans (hb2.mono (by have:=hb1.size;simp at this;omega)));clear hblk hb1 hb2 hu2 hu1 HN1 HN2 hn2 ba
 simp at k0 k1 k2
 go_wp2;refine bodyPost_ret (v:=.agg #[.bool false,.slice none 0 0,.slice (some ⟨w2.heap.size,0,none⟩) 1 1]) (by simp [results,results96,go_sem,hlt,k0,k1,k2]) rfl ?_;refine⟨false,none,0,0,some ⟨w2.heap.size,0,none⟩,1,rfl,⟨?_,?_,rfl⟩,?_⟩
 ·rw [show (0:Int).natAbs=0 from rfl,digs_zero];exact U32s.nil _ _ _
 ·rw [digs_one]
  exact U32s.lit1_at (by simp) 117 (a:=1) (by omega)
 ·exact (below_set3 HB.out (Nat.le_refl _) _ _ _).alloc (by simpa using HB.out.size) _
theorem frac1_pos(neg:Bool)(A B:Option Addr)(n c m d a:Nat)(Z:Int)(xs ys:List Nat)(w:World)(hx:U32s w A n c xs)(hy:U32s w B m d ys)(hs1:n<=1073741824)(hs2:m<=1073741824)
  (ea:num xs=a)(eb:num ys=1)(ha:0<a)(hZ:(if neg=true then -(a:Int) else (a:Int))=Z):
  Calls prog 96 #[.bool neg,.slice A n c,.slice B m d,.int .i64 0] w (NewI w Z):=by
 have HX:=Hd hx;have HZZ:=Hd hZ;clear hZ;have HY:=Hd hy;have ba:=below_alloc w (.cells (Zr false none 0 0 none 0 0) 42);have hn1:=norm_v A n c xs _ (hx.below ba) (by omega) ea;have HN1:=Hd hn1;have BA:=Hd ba;clear hn1 hx hy ba ea
 go_enter func96,ntmps96
 go_wp2_with fail;refine HN1.out.mono ?_;rintro e w1 ⟨A1,n1,c1,rfl,hu1,hn1,hp1,hb1⟩;have hp1:=hp1 ha;have HN2:=Hd (norm_v B m d ys w1 ((HY.out.below BA.out).below hb1) (by omega) eb);have U1:=Hd hu1;have B1:=Hd hb1;clear hu1 hb1 HN1 eb;go_wp2_with fail;refine HN2.out.mono ?_;rintro e w2 ⟨A2,n2,c2,rfl,hu2,hn2,hp2,hb2⟩;have hp2:=hp2 (by omega);have U2:=Hd hu2;have U1':=Hd (U1.out.below hb2);have HZ1:=Hd (zeros_v A1 n1 c1 w2 U1'.out ha);have B2:=Hd hb2;clear hu2 hb2 U1 HN2;go_wp2_with fail;refine HZ1.out.mono ?_;rintro e w2' ⟨⟨ka,rfl,hka,hza⟩,rfl⟩;have HR1:=Hd (right_v A1 n1 c1 ka w2 U1'.out (by omega) hka);go_wp2_with fail;refine HR1.out.mono ?_;rintro e w3 ⟨A3,n3,c3,t3,rfl,hu3,hn3,hb3⟩;have U3:=Hd hu3;have U2':=Hd (U2.out.below hb3);have HZ2:=Hd (zeros_v A2 n2 c2 w3 U2'.out (by omega));have B3:=Hd hb3;clear hu3 hb3 HR1 HZ1 U2 U1';go_wp2_with fail;refine HZ2.out.mono ?_;rintro e w3' ⟨⟨kb,rfl,hkb,hzb⟩,rfl⟩;have HR2:=Hd (right_v A2 n2 c2 kb w3 U2'.out (by omega) hkb);go_wp2_with fail;refine HR2.out.mono ?_;rintro e w4 ⟨A4,n4,c4,t4,rfl,hu4,hn4,hb4⟩;have U4:=Hd hu4;have U3':=Hd (U3.out.below hb4);have hblk:=((((Blk.new w 42 (Zr false none 0 0 none 0 0)).keep B1.out).keep B2.out).keep B3.out).keep hb4;have HB:=Hd (show Below w.heap.size w w4 from (((BA.out.trans (B1.out.mono BA.out.size)).trans (B2.out.mono (by have:=BA.out.size;have:=B1.out.size;omega))).trans (B3.out.mono (by have:=BA.out.size;have:=B1.out.size;have:=B2.out.size;omega))).trans (hb4.mono (by have:=BA.out.size;have:=B1.out.size;have:=B2.out.size;have:=B3.out.size;omega)))
 have HBLK:=Hd hblk;clear hu4 hb4 HR2 HZ2 U3 B1 B2 B3 hblk U2'
 have hkb0:kb=0:=by
  rcases Nat.eq_zero_or_pos kb with h | h
  ·exact h
  ·have:1<2^kb:=Nat.one_lt_two_pow (by omega);rw [Nat.mod_eq_of_lt this] at hzb;omega
 subst hkb0
 have hn41:n4=1:=by have l:=U4.out.len;rw [Nat.pow_zero,Nat.div_one,digs_one] at l;exact l.symm
 subst hn41
 have FIN0:∀ w5 A5 n5 c5,U32s w5 A5 n5 c5 (digs (a / 2^ka*2^ka))->U32s w5 A4 1 c4 (digs (1 / 2^0))->Below w.heap.size w w5->Blk w5 w.heap.size 42 (Zr false none 0 0 none 0 0) ->
   NewI w Z (.returned (Zg neg A5 n5 c5 A4 1 c4)) (((w5.setCell ⟨w.heap.size,0,none⟩ (.bool neg)).setCell ⟨w.heap.size,1,none⟩ (.slice A5 n5 c5)).setCell ⟨w.heap.size,2,none⟩ (.slice A4 1 c4)):=by
  intro w5 A5 n5 c5 h5 h6 hb5 hk5;rw [odd_part hza] at h5;rw [Nat.pow_zero,Nat.div_one] at h6;refine RatI.ret ⟨?_,h6,?_⟩ hb5 hk5 NoWd.zero (Nat.le_refl _)
  ·have:Z.natAbs=a:=by rw [<- HZZ.out];cases neg<;>simp
   rw [this];exact h5
  ·rw [<- HZZ.out]
   cases neg
   ·exact (decide_eq_false (by simp)).symm
   ·exact (decide_eq_true (by simp;omega)).symm
 have FIN:=Hd FIN0;clear FIN0 HZZ
 by_cases e1:0<(ka:Int)
 ·have HL:=Hd (left_v A3 n3 c3 ka w4 U3'.out (by omega) (by omega));clear hza hzb;go_wp2_with fail;refine HL.out.mono ?_;rintro e w5 ⟨A5,n5,c5,rfl,hu5,hb5⟩;have hblk:=HBLK.out.keep hb5;have HB5:=HB.out.trans (hb5.mono HB.out.size);have k0:=hblk.cell 0;have k1:=hblk.cell 1;have k2:=hblk.cell 2;have f0:=hblk.frozen 0;have f1:=hblk.frozen 1;have f2:=hblk.frozen 2;have hlt:=hblk.lt;have FF:=Hd (FIN.out w5 A5 n5 c5 hu5 (U4.out.below hb5) HB5 hblk);clear hblk hb5 hu5 HB5
  simp at k0 k1 k2
  go_wp2
  exact bodyPost_ret (v:=Zg neg A5 n5 c5 A4 1 c4) (by simp [results,results96,go_sem,k0,k1,k2]) rfl FF.out
 ·obtain rfl:ka=0:=by omega
  have hblk:=HBLK.out;have k0:=hblk.cell 0;have k1:=hblk.cell 1;have k2:=hblk.cell 2;have f0:=hblk.frozen 0;have f1:=hblk.frozen 1;have f2:=hblk.frozen 2;have hlt:=hblk.lt;have FF:=Hd (FIN.out w4 A3 n3 c3 (by rw [mul_one_pow];exact U3'.out) U4.out HB.out hblk);clear hblk
  simp at k0 k1 k2
  go_wp2
  exact bodyPost_ret (v:=Zg neg A3 n3 c3 A4 1 c4) (by simp [results,results96,go_sem,k0,k1,k2]) rfl FF.out
theorem frac1_any(neg:Bool)(A B:Option Addr)(n c m d a:Nat)(xs ys:List Nat)(w:World)(hx:U32s w A n c xs)(hy:U32s w B m d ys)(hs1:n<=1073741824)(hs2:m<=1073741824)(ea:num xs=a)(eb:num ys=1):
  Calls prog 96 #[.bool neg,.slice A n c,.slice B m d,.int .i64 0] w (NewI w (if neg=true then -(a:Int) else (a:Int))):=by
 rcases Nat.eq_zero_or_pos a with h | h
 ·subst h;have:=frac1_zero neg A B n c m d xs ys w hx hy (by omega) (by omega) ea
  cases neg
  ·exact this
  ·exact this
 ·exact frac1_pos neg A B n c m d a _ xs ys w hx hy hs1 hs2 ea eb h rfl
section
open Ieee
def mag(r:Nat):Nat:=if r<2^52 then r else (2^52+r % 2^52)*2^(r / 2^52 - 1)
theorem mag_small{r:Nat}(h:r<2^52):mag r=r:=by unfold mag;rw [if_pos h]
theorem mag_form(k q:Nat)(h:k=0\/2^52<=q)(hq:q<=2^53):mag (k*2^52+q)=q*2^k:=by
 unfold mag
 rcases Nat.lt_or_ge q (2^52) with h1 | h1
 ·rcases h with rfl | h
  ·rw [if_pos (by omega),Nat.zero_mul,Nat.zero_add,Nat.pow_zero,Nat.mul_one]
  ·omega
 ·rw [if_neg (by omega)]
  rcases Nat.lt_or_ge q (2^53) with h2 | h2
  ·have e1:(k*2^52+q) % 2^52=q - 2^52:=by omega
   have e2:(k*2^52+q) / 2^52 - 1=k:=by omega
   rw [e1,e2,Nat.add_sub_of_le h1]
  ·obtain rfl:q=2^53:=by omega
   have e1:(k*2^52+2^53) % 2^52=0:=by omega
   have e2:(k*2^52+2^53) / 2^52 - 1=k+1:=by omega
   rw [e1,e2,Nat.add_zero,<- Nat.pow_add,<- Nat.pow_add,Nat.add_comm 52,Nat.add_comm 53,Nat.add_assoc k 1 52]
theorem rung_form(r:Nat):∃ k q,r=k*2^52+q/\(k=0\/2^52<=q)/\q<2^53:=by
 rcases Nat.lt_or_ge r (2^52) with h | h
 ·exact⟨0,r,by omega,.inl rfl,by omega⟩
 ·refine⟨r / 2^52 - 1,2^52+r % 2^52,by omega,.inr (by omega),by omega⟩
theorem mag_succ(r:Nat):mag r<mag (r+1):=by
 obtain⟨k,q,rfl,h,hq⟩:=rung_form r;rw [mag_form k q h (by omega),Nat.add_assoc,mag_form k (q+1) (by omega) (by omega)]
 exact Nat.mul_lt_mul_of_pos_right (by omega) (Nat.two_pow_pos _)
theorem mag_lt{r s:Nat}(h:r<s):mag r<mag s:=by
 induction s with
 | zero=>omega
 | succ s ih=>
  rcases Nat.lt_or_ge r s with h1 | h1
  ·exact Nat.lt_trans (ih h1) (mag_succ s)
  ·obtain rfl:r=s:=by omega
   exact mag_succ r
theorem mag_lt_iff{r s:Nat}:mag r<mag s↔r<s:=by
 constructor
 ·intro h
  rcases Nat.lt_or_ge r s with h1 | h1
  ·exact h1
  ·rcases Nat.lt_or_ge s r with h2 | h2
   ·have:=mag_lt h2;omega
   ·obtain rfl:r=s:=by omega
    omega
 ·exact mag_lt
theorem mag_le_iff{r s:Nat}:mag r<=mag s↔r<=s:=by
 have:=@mag_lt_iff s r
 omega
theorem mag_inj{r s:Nat}(h:mag r=mag s):r=s:=by
 have h1:=@mag_le_iff r s;have h2:=@mag_le_iff s r
 omega
theorem mag_zero:mag 0=0:=rfl
theorem mag_pos{r:Nat}(h:0<r):0<mag r:=by have:=mag_lt h;rw [mag_zero] at this;exact this
theorem mag_eq_zero{r:Nat}:mag r=0↔r=0:=by
 constructor
 ·intro h;exact mag_inj (h.trans mag_zero.symm)
 ·rintro rfl;rfl
def over(n:Nat):Nat:=n.log2 - 52
def floorRung(n:Nat):Nat:=over n*2^52+n / 2^over n
theorem over_spec(n:Nat):(over n=0\/2^52<=n / 2^over n)/\n / 2^over n<2^53:=by
 unfold over
 by_cases h0:n=0
 ·subst h0;simp
 have h1:=Nat.log2_self_le h0;have h2:n<2^(n.log2+1):=Nat.lt_log2_self
 constructor
 ·by_cases h:n.log2<=52
  ·left;omega
  ·right
   rw [Nat.le_div_iff_mul_le (Nat.two_pow_pos _),<- Nat.pow_add]
   exact Nat.le_trans (Nat.pow_le_pow_right (by omega) (by omega)) h1
 ·rw [Nat.div_lt_iff_lt_mul (Nat.two_pow_pos _),<- Nat.pow_add]
  exact Nat.lt_of_lt_of_le h2 (Nat.pow_le_pow_right (by omega) (by omega))
theorem mag_floorRung(n:Nat):mag (floorRung n)=n / 2^over n*2^over n:=by
 unfold floorRung;have h:=over_spec n
 exact mag_form _ _ h.1 (by omega)
theorem mag_floorRung_le(n:Nat):mag (floorRung n)<=n:=by
 rw [mag_floorRung];exact Nat.div_mul_le_self _ _
theorem lt_mag_floorRung_succ(n:Nat):n<mag (floorRung n+1):=by
 unfold floorRung;have h:=over_spec n;rw [Nat.add_assoc,mag_form _ _ (by omega) (by omega)];have h1:=Nat.lt_div_mul_add (a:=n) (Nat.two_pow_pos (over n));rw [Nat.add_mul]
 omega
theorem le_floorRung{r n:Nat}:r<=floorRung n↔mag r<=n:=by
 constructor
 ·intro h;exact Nat.le_trans (mag_le_iff.2 h) (mag_floorRung_le n)
 ·intro h;have:=Nat.lt_of_le_of_lt h (lt_mag_floorRung_succ n);have:=mag_lt_iff.1 this
  omega
def bump(n k:Nat):Bool:=decide (2^k<2*(n % 2^k)) || (2^k == 2*(n % 2^k) && n / 2^k % 2 == 1)
def nearRung(n d:Nat):Nat:=floorRung (n / 2^d)+(bump n (d+over (n / 2^d))).toNat
theorem bump_rest{n k:Nat}(h:bump n k=true):n / 2^k*2^k<n:=by
 have h0:0<n % 2^k:=by
  unfold bump at h;have:=Nat.two_pow_pos k
  simp at h
  omega
 have h1:=Nat.div_add_mod n (2^k);rw [Nat.mul_comm] at h1
 omega
theorem div_div_pow(n d k:Nat):n / 2^d / 2^k=n / 2^(d+k):=by
 rw [Nat.div_div_eq_div_mul,Nat.pow_add]
theorem le_nearRung{r n d:Nat}(h:mag r*2^d<=n):r<=nearRung n d:=by
 have:mag r<=n / 2^d:=(Nat.le_div_iff_mul_le (Nat.two_pow_pos _)).2 h;have:=le_floorRung.2 this;unfold nearRung;omega
theorem nearRung_le{r n d:Nat}(h:n<=mag r*2^d):nearRung n d<=r:=by
 unfold nearRung
 cases hb:bump n (d+over (n / 2^d))
 ·simp
  refine mag_le_iff.1 (Nat.le_trans (mag_floorRung_le _) ?_)
  exact Nat.le_trans (Nat.div_le_div_right h) (by rw [Nat.mul_div_cancel _ (Nat.two_pow_pos _)];exact Nat.le_refl _)
 ·have h1:=bump_rest hb;rw [<- div_div_pow,Nat.add_comm d,Nat.pow_add,<- Nat.mul_assoc,<- mag_floorRung] at h1;have h2:=Nat.lt_of_mul_lt_mul_right (Nat.lt_of_lt_of_le h1 h);have:=mag_lt_iff.1 h2
  simp;omega
theorem nearRung_mag(r d:Nat):nearRung (mag r*2^d) d=r:=
 Nat.le_antisymm (nearRung_le (Nat.le_refl _)) (le_nearRung (Nat.le_refl _))
end
section
open Ieee
def M:Nat:=2047*2^52
theorem infRung_eq:double.infRung=M:=by decide
theorem leastPlace_eq:double.leastPlace=-1074:=by decide
theorem binade_eq:double.binade=2^52:=by decide
theorem signWeight_eq:double.signWeight=2^63:=by decide
theorem log2_div_pow(n d:Nat):(n / 2^d).log2=n.log2 - d:=by
 by_cases h:n / 2^d=0
 ·rw [h]
  have h1:n<2^d:=by
   rcases Nat.div_eq_zero_iff.1 h with h | h
   ·have:=Nat.two_pow_pos d;omega
   ·exact h
  by_cases h0:n=0
  ·subst h0;simp
  ·have:=(Nat.log2_lt h0).2 h1
   simp;omega
 ·have hn:n≠0:=by rintro rfl;simp at h
  have h1:=Nat.log2_self_le hn;have h2:n<2^(n.log2+1):=Nat.lt_log2_self
  have hd:d<=n.log2:=by
   rcases Nat.lt_or_ge n.log2 d with h3 | h3
   ·exact absurd (Nat.div_eq_of_lt (Nat.lt_of_lt_of_le h2 (Nat.pow_le_pow_right (by omega) (by omega)))) h
   ·exact h3
  rw [Nat.log2_eq_iff h]
  constructor
  ·rw [Nat.le_div_iff_mul_le (Nat.two_pow_pos _),<- Nat.pow_add,Nat.sub_add_cancel hd];exact h1
  ·rw [Nat.div_lt_iff_lt_mul (Nat.two_pow_pos _),<- Nat.pow_add]
   exact Nat.lt_of_lt_of_le h2 (Nat.pow_le_pow_right (by omega) (by omega))
theorem cut_even(neg:Bool)(n k:Nat):Toward.even.cut neg n k=n / 2^k+(bump n k).toNat:=by
 unfold Toward.cut bump
 simp only [Nat.shiftLeft_eq,Nat.one_mul]
 rcases Nat.lt_or_ge (n.log2+2) k with h | h
 ·rw [Nat.min_eq_right (by omega)];have h2:n<2^(n.log2+1):=Nat.lt_log2_self;have h3:2^(n.log2+2)<=2^k:=Nat.pow_le_pow_right (by omega) (by omega)
  have h4:2^(n.log2+2)=2*2^(n.log2+1):=by rw [Nat.pow_succ];omega
  rw [Nat.div_eq_of_lt (by omega),Nat.div_eq_of_lt (show n<2^k by omega),Nat.mod_eq_of_lt (by omega),Nat.mod_eq_of_lt (show n<2^k by omega)];have a1:decide (2^(n.log2+2)<2*n)=false:=decide_eq_false (by omega);have a2:decide (2^k<2*n)=false:=decide_eq_false (by omega);rw [a1,a2];simp
 ·rw [Nat.min_eq_left h]
theorem bump_zero(k:Nat):bump 0 k=false:=by
 unfold bump;have:=Nat.two_pow_pos k
 simp
theorem nearest_low(neg:Bool)(n d:Nat):double.nearest neg n (-1074 - (d:Int))=double.word neg (min (nearRung n d) M):=by
 unfold Format.nearest
 by_cases h0:n=0
 ·subst h0;rw [if_pos rfl];unfold nearRung;rw [bump_zero,Nat.zero_div]
  rfl
 rw [if_neg h0]
 have ho:over (n / 2^d)=n.log2 - d - 52:=by unfold over;rw [log2_div_pow]
 have hl:max (-1074 - (d:Int)+(n.log2:Int) - (double.fractionBits:Int)) double.leastPlace=-1074+(over (n / 2^d):Int):=by
  rw [ho,leastPlace_eq]
  show max (-1074 - (d:Int)+(n.log2:Int) - 52) (-1074)=_
  omega
 dsimp only
 rw [hl,leastPlace_eq,binade_eq,infRung_eq]
 have e1:(-1074 - (d:Int) - (-1074+(over (n / 2^d):Int))).toNat=0:=by omega
 have e2:(-1074+(over (n / 2^d):Int) - (-1074 - (d:Int))).toNat=d+over (n / 2^d):=by omega
 have e3:(-1074+(over (n / 2^d):Int) - -1074).toNat=over (n / 2^d):=by omega
 rw [e1,e2,e3,Nat.shiftLeft_zero,cut_even];unfold nearRung floorRung;rw [div_div_pow,Nat.add_assoc]
theorem nearest_units(neg:Bool)(n:Nat):double.nearest neg n (-1074)=double.word neg (min (nearRung n 0) M):=by
 have:=nearest_low neg n 0
 simpa using this
theorem nearest_shift(neg:Bool)(n k:Nat)(place:Int):double.nearest neg n (place+(k:Int))=double.nearest neg (n*2^k) place:=by
 by_cases h0:n=0
 ·subst h0;simp [Format.nearest]
 have hk:n*2^k≠0:=Nat.mul_ne_zero h0 (by have:=Nat.two_pow_pos k;omega)
 have hlog:(n*2^k).log2=n.log2+k:=by
  rw [Nat.log2_eq_iff hk];have h1:=Nat.log2_self_le h0;have h2:n<2^(n.log2+1):=Nat.lt_log2_self
  constructor
  ·rw [Nat.pow_add];exact Nat.mul_le_mul_right _ h1
  ·rw [show n.log2+k+1=n.log2+1+k from by omega,Nat.pow_add 2 (n.log2+1)];exact Nat.mul_lt_mul_of_pos_right h2 (Nat.two_pow_pos k)
 unfold Format.nearest;rw [if_neg h0,if_neg hk,hlog]
 dsimp only
 rw [show (place+((n.log2+k:Nat):Int) - (double.fractionBits:Int))=place+(k:Int)+(n.log2:Int) - (double.fractionBits:Int) from by omega];generalize max (place+(k:Int)+(n.log2:Int) - (double.fractionBits:Int)) double.leastPlace=last
 congr 3
 rw [cut_even,cut_even,Nat.shiftLeft_eq,Nat.shiftLeft_eq]
 rcases Int.le_total last place with h | h
 ·-- both are whole
  rw [show (place+(k:Int) - last).toNat=k+(place - last).toNat from by omega,show (last - (place+(k:Int))).toNat=0 from by omega,show (last - place).toNat=0 from by omega,Nat.pow_add,Nat.mul_assoc]
 ·obtain⟨d,hd⟩:∃ d:Nat,last=place+d:=⟨(last - place).toNat,by omega⟩
  subst hd
  rcases Nat.le_total d k with hdk | hdk
  ·obtain⟨a,rfl⟩:∃ a,k=a+d:=⟨k - d,by omega⟩
   rw [show (place+((a+d:Nat):Int) - (place+(d:Int))).toNat=a from by omega,show (place+(d:Int) - (place+((a+d:Nat):Int))).toNat=0 from by omega,show (place - (place+(d:Int))).toNat=0 from by omega,show (place+(d:Int) - place).toNat=d from by omega];rw [Nat.pow_add 2 a d,<- Nat.mul_assoc];generalize n*2^a=m;have:=Nat.two_pow_pos d
   have b1:bump m 0=false:=by unfold bump;simp [Nat.mod_one]
   have b2:bump (m*2^d*2^0) d=false:=by
    unfold bump;rw [Nat.pow_zero,Nat.mul_one,Nat.mul_mod_left]
    simp
   rw [b1,b2]
   simp only [Nat.pow_zero,Nat.div_one,Nat.mul_one]
   rw [Nat.mul_div_cancel _ this]
  ·obtain⟨a,rfl⟩:∃ a,d=k+a:=⟨d - k,by omega⟩
   rw [show (place+(k:Int) - (place+((k+a:Nat):Int))).toNat=0 from by omega,show (place+((k+a:Nat):Int) - (place+(k:Int))).toNat=a from by omega,show (place - (place+((k+a:Nat):Int))).toNat=0 from by omega,show (place+((k+a:Nat):Int) - place).toNat=k+a from by omega];rw [Nat.pow_zero,Nat.mul_one,Nat.mul_one];have hp:=Nat.two_pow_pos k
   have e1:n*2^k / 2^(k+a)=n / 2^a:=by rw [Nat.pow_add,Nat.mul_comm n,Nat.mul_div_mul_left _ _ hp]
   have e2:n*2^k % 2^(k+a)=2^k*(n % 2^a):=by rw [Nat.pow_add,Nat.mul_comm n,Nat.mul_mod_mul_left]
   rw [e1]
   congr 2
   unfold bump;rw [e1,e2,Nat.pow_add];generalize 2^a=x;generalize n % x=y;generalize 2^k=p at hp
   have c1:decide (p*x<2*(p*y))=decide (x<2*y):=by
    rw [show 2*(p*y)=p*(2*y) from by rw [Nat.mul_left_comm]]
    simp [Nat.mul_lt_mul_left hp]
   have c2:(p*x == 2*(p*y))=(x == 2*y):=by
    rw [show 2*(p*y)=p*(2*y) from by rw [Nat.mul_left_comm]];rw [Bool.eq_iff_iff];simp [Nat.mul_right_inj (by omega:p≠0)]
   rw [c1,c2]
theorem nearest_high(neg:Bool)(n k:Nat):double.nearest neg n (-1074+(k:Int))=double.word neg (min (nearRung (n*2^k) 0) M):=by
 rw [nearest_shift,nearest_units]
end
section
open Ieee
def rungOf(b:Nat):Nat:=b % 2^63
def sgn(b:Nat):Bool:=b / 2^63 % 2 == 1
def idx(b:Nat):Int:=if sgn b then -(rungOf b:Int) else rungOf b
def val(i:Int):Int:=if i<0 then -(mag i.natAbs:Int) else mag i.natAbs
def real(b:Nat):Prop:=rungOf b<=M
def fin(b:Nat):Prop:=rungOf b<M
theorem fin.real{b:Nat}(h:fin b):real b:=Nat.le_of_lt h
theorem val_nat(r:Nat):val (r:Int)=mag r:=by
 unfold val;rw [if_neg (by omega),Int.natAbs_natCast]
theorem val_neg(i:Int):val (-i)=-val i:=by
 unfold val;rw [Int.natAbs_neg]
 rcases Int.lt_trichotomy i 0 with h | h | h
 ·rw [if_neg (by omega),if_pos h];omega
 ·subst h;rfl
 ·rw [if_pos (by omega),if_neg (by omega)]
theorem val_zero:val 0=0:=rfl
theorem val_lt_iff{i j:Int}:val i<val j↔i<j:=by
 unfold val;have h1:=@mag_lt_iff i.natAbs j.natAbs;have h2:=@mag_lt_iff j.natAbs i.natAbs;have h3:=@mag_eq_zero i.natAbs;have h4:=@mag_eq_zero j.natAbs
 split<;>split<;>omega
theorem val_le_iff{i j:Int}:val i<=val j↔i<=j:=by have:=@val_lt_iff j i;omega
theorem val_neg_iff{i:Int}:val i<0↔i<0:=by have:=@val_lt_iff i 0;rwa [val_zero] at this
theorem val_natAbs(i:Int):(val i).natAbs=mag i.natAbs:=by
 unfold val;split<;>omega
theorem idx_natAbs(b:Nat):(idx b).natAbs=rungOf b:=by unfold idx;split<;>omega
theorem val_idx(b:Nat):val (idx b)=if sgn b then -(mag (rungOf b):Int) else mag (rungOf b):=by
 unfold idx
 split
 ·rw [val_neg,val_nat]
 ·rw [val_nat]
theorem signed_eq(s:Bool)(m k:Nat):signed s m k=if s then -((m*2^k:Nat):Int) else ((m*2^k:Nat):Int):=by
 unfold signed;rw [Nat.shiftLeft_eq]
theorem read_fin{b:Nat}(h:fin b):∃ m k:Nat,double.read b=.number (sgn b) m (-1074+(k:Int))/\m*2^k=mag (rungOf b)/\(k=0\/2^52<=m)/\m<2^53:=by
 unfold fin rungOf M at h;unfold Format.read;rw [signWeight_eq,binade_eq,infRung_eq,leastPlace_eq]
 dsimp only
 unfold rungOf sgn
 by_cases h1:b % 2^63<2^52
 ·rw [if_pos h1]
  exact⟨_,0,rfl,by rw [mag_small h1,Nat.pow_zero,Nat.mul_one],.inl rfl,by omega⟩
 ·rw [if_neg h1,if_pos (show b % 2^63<M from h)];refine⟨_,b % 2^63 / 2^52 - 1,rfl,?_,.inr (by omega),by omega⟩;unfold mag;rw [if_neg h1]
theorem read_inf{b:Nat}(h:rungOf b=M):double.read b=.infinity (sgn b):=by
 unfold rungOf M at h;unfold Format.read;rw [signWeight_eq,binade_eq,infRung_eq,leastPlace_eq]
 dsimp only
 rw [if_neg (by omega),if_neg (by unfold M;omega),if_pos (show b % 2^63=M from h)]
 rfl
theorem read_nan{b:Nat}(h:M<rungOf b):double.read b=.nan (sgn b) (rungOf b - M):=by
 unfold rungOf M at h;unfold Format.read;rw [signWeight_eq,binade_eq,infRung_eq,leastPlace_eq]
 dsimp only
 rw [if_neg (by omega),if_neg (by unfold M;omega),if_neg (by unfold M;omega)]
 rfl
theorem read_val{b:Nat}{m k:Nat}(h:m*2^k=mag (rungOf b)):signed (sgn b) m k=val (idx b):=by
 rw [signed_eq,val_idx,h]
theorem signed_split(s:Bool)(m a c:Nat):signed s m (a+c)=signed s m a*2^c:=by
 rw [signed_eq,signed_eq,Nat.pow_add,<- Nat.mul_assoc]
 split
 ·rw [Int.natCast_mul,Int.neg_mul];simp
 ·rw [Int.natCast_mul];simp
theorem compare_scale(a b:Int)(k:Nat):compare (a*2^k) (b*2^k)=compare a b:=by
 have hp:(0:Int)<2^k:=by exact_mod_cast Nat.two_pow_pos k
 rcases Int.lt_trichotomy a b with h | h | h
 ·rw [Int.compare_eq_lt.2 h,Int.compare_eq_lt.2 (Int.mul_lt_mul_of_pos_right h hp)]
 ·subst h;rw [Int.compare_eq_eq.2 rfl,Int.compare_eq_eq.2 rfl]
 ·rw [Int.compare_eq_gt.2 h,Int.compare_eq_gt.2 (Int.mul_lt_mul_of_pos_right h hp)]
theorem compare_val(i j:Int):compare (val i) (val j)=compare i j:=by
 rcases Int.lt_trichotomy i j with h | h | h
 ·rw [Int.compare_eq_lt.2 h,Int.compare_eq_lt.2 (val_lt_iff.2 h)]
 ·subst h;rw [Int.compare_eq_eq.2 rfl,Int.compare_eq_eq.2 rfl]
 ·rw [Int.compare_eq_gt.2 h,Int.compare_eq_gt.2 (val_lt_iff.2 h)]
theorem order_real{x y:Nat}(hx:real x)(hy:real y):double.order x y=some (compare (idx x) (idx y)):=by
 unfold Format.order;have ax:=idx_natAbs x;have ay:=idx_natAbs y
 have sx:idx x=if sgn x then -(rungOf x:Int) else rungOf x:=rfl
 have sy:idx y=if sgn y then -(rungOf y:Int) else rungOf y:=rfl
 have hM:0<M:=by decide
 unfold real at hx hy
 rcases Nat.lt_or_ge (rungOf x) M with fx | fx<;>rcases Nat.lt_or_ge (rungOf y) M with fy | fy
 ·obtain⟨m,k,e,hm,_⟩:=read_fin fx;obtain⟨n,l,e',hn,_⟩:=read_fin fy;rw [e,e']
  simp only [Datum.order]
  congr 1
  rw [<- compare_val (idx x),<- read_val hm,<- read_val hn]
  rcases Nat.le_total k l with h | h
  ·rw [show min (-1074+(k:Int)) (-1074+(l:Int))=-1074+(k:Int) from by omega,show (-1074+(k:Int) - (-1074+(k:Int))).toNat=0 from by omega,show (-1074+(l:Int) - (-1074+(k:Int))).toNat=l - k from by omega];rw [<- compare_scale _ _ k,<- signed_split,<- signed_split,Nat.zero_add,Nat.sub_add_cancel h]
  ·rw [show min (-1074+(k:Int)) (-1074+(l:Int))=-1074+(l:Int) from by omega,show (-1074+(l:Int) - (-1074+(l:Int))).toNat=0 from by omega,show (-1074+(k:Int) - (-1074+(l:Int))).toNat=k - l from by omega];rw [<- compare_scale _ _ l,<- signed_split,<- signed_split,Nat.zero_add,Nat.sub_add_cancel h]
 ·obtain⟨m,k,e,hm,_⟩:=read_fin fx;rw [e,read_inf (by omega)]
  simp only [Datum.order]
  congr 1;symm
  cases h:sgn y
  ·simp [h] at sy ⊢;rw [Int.compare_eq_lt];omega
  ·simp [h] at sy ⊢;rw [Int.compare_eq_gt];omega
 ·obtain⟨m,k,e,hm,_⟩:=read_fin fy;rw [e,read_inf (by omega)]
  simp only [Datum.order]
  congr 1;symm
  cases h:sgn x
  ·simp [h] at sx ⊢;rw [Int.compare_eq_gt];omega
  ·simp [h] at sx ⊢;rw [Int.compare_eq_lt];omega
 ·rw [read_inf (by omega),read_inf (by omega)]
  simp only [Datum.order]
  congr 1;symm
  cases h:sgn x<;>cases h':sgn y<;>simp [h,h'] at sx sy ⊢
  ·omega
  ·rw [show compare 1 0=Ordering.gt from rfl,Int.compare_eq_gt];omega
  ·rw [show compare 0 1=Ordering.lt from rfl,Int.compare_eq_lt];omega
  ·omega
theorem order_nan_left{x:Nat}(y:Nat)(hx:M<rungOf x):double.order x y=none:=by
 unfold Format.order;rw [read_nan hx];rfl
theorem order_nan_right(x:Nat){y:Nat}(hy:M<rungOf y):double.order x y=none:=by
 unfold Format.order;rw [read_nan hy];cases double.read x<;>rfl
end
def pat(i:Int):Nat:=if i<0 then 9223372036854775808+i.natAbs else i.natAbs
theorem M_val:M=9218868437227405312:=rfl
theorem pat_cases{b:Nat}(hb:b<18446744073709551616):(b<9223372036854775808/\rungOf b=b/\sgn b=false/\idx b=(b:Int))\/(9223372036854775808<=b/\rungOf b=b - 9223372036854775808/\sgn b=true/\idx b=9223372036854775808 - (b:Int)):=by
 have e:(2:Nat)^63=9223372036854775808:=rfl
 rcases Nat.lt_or_ge b 9223372036854775808 with h | h
 ·left
  have h1:rungOf b=b:=by unfold rungOf;rw [e];omega
  have h2:sgn b=false:=by unfold sgn;rw [e,show b / 9223372036854775808 % 2=0 from by omega];rfl
  refine⟨h,h1,h2,?_⟩;unfold idx;rw [h2,h1];rfl
 ·right
  have h1:rungOf b=b - 9223372036854775808:=by unfold rungOf;rw [e];omega
  have h2:sgn b=true:=by unfold sgn;rw [e,show b / 9223372036854775808 % 2=1 from by omega];rfl
  refine⟨h,h1,h2,?_⟩;unfold idx;rw [h2,h1,if_pos rfl];omega
theorem pat_lt{i:Int}(h0:-(M:Int)<=i)(h1:i<=M):pat i<18446744073709551616:=by
 rw [M_val] at *;unfold pat;split<;>omega
theorem pat_neg{i:Int}(h:i<0):pat i=9223372036854775808+i.natAbs:=if_pos h
theorem pat_nn{i:Int}(h:¬ i<0):pat i=i.natAbs:=if_neg h
theorem idx_pat{i:Int}(h0:-(M:Int)<=i)(h1:i<=M):idx (pat i)=i:=by
 have h:=pat_lt h0 h1;rw [M_val] at *;have:=pat_cases h
 by_cases hi:i<0
 ·rw [pat_neg hi] at *;omega
 ·rw [pat_nn hi] at *;omega
theorem rung_pat{i:Int}(h0:-(M:Int)<=i)(h1:i<=M):rungOf (pat i)=i.natAbs:=by
 rw [<- idx_natAbs,idx_pat h0 h1]
theorem pat_inj{i j:Int}(h0:-(M:Int)<=i)(h1:i<=M)(h2:-(M:Int)<=j)(h3:j<=M)(h:pat i=pat j):i=j:=by
 rw [<- idx_pat h0 h1,<- idx_pat h2 h3,h]
theorem pat_max:pat M=9218868437227405312:=by decide
theorem pat_min:pat (-(M:Int))=18442240474082181120:=by decide
theorem pat_zero:pat 0=0:=rfl
theorem idx_bounds{b:Nat}(h:rungOf b<=M):-(M:Int)<=idx b/\idx b<=M:=by
 have:=idx_natAbs b;omega
def pl(b:Nat):Nat:=if b=9223372036854775808 then 0 else if M<rungOf b then 9221120237041090561 else b
theorem pl_real{b:Nat}(hb:b<18446744073709551616)(h:rungOf b<=M):pl b=pat (idx b):=by
 have:=pat_cases hb;rw [M_val] at *;unfold pl;rw [M_val]
 split
 ·rename_i e
  have h0:idx b=0:=by omega
  rw [h0];rfl
 ·rw [if_neg (by omega)]
  by_cases hi:idx b<0
  ·rw [pat_neg hi];omega
  ·rw [pat_nn hi];omega
def keyOf(b:Nat):Nat:=if 9223372036854775808<=pl b then 18446744073709551615 - pl b else pl b+9223372036854775808
theorem keyOf_real{b:Nat}(hb:b<18446744073709551616)(h:rungOf b<=M):(keyOf b:Int)=9223372036854775808+idx b - (if idx b<0 then 1 else 0):=by
 have hi:=idx_bounds h;unfold keyOf;rw [pl_real hb h];rw [M_val] at *
 by_cases hi:idx b<0
 ·rw [pat_neg hi,if_pos hi];split<;>omega
 ·rw [pat_nn hi,if_neg hi];split<;>omega
theorem key_lt{x y:Nat}(hx:x<18446744073709551616)(hy:y<18446744073709551616)(h:rungOf x<=M)(h':rungOf y<=M):keyOf x<keyOf y↔idx x<idx y:=by
 have:=keyOf_real hx h;have:=keyOf_real hy h'
 split at*<;> split at*<;> omega
theorem pl_lt(b:Nat)(hb:b<18446744073709551616):pl b<18446744073709551616:=by unfold pl;split<;>(try split)<;>omega
def snd(lo hi:Nat):Bool:=decide (rungOf lo<=M/\rungOf hi<=M/\idx lo<=idx hi/\idx lo<M/\-(M:Int)<idx hi)
def rd(lo hi:Nat):Int × Int:=if snd lo hi then (idx lo,idx hi) else ((M:Int),-(M:Int))
def Iv(i j:Int):Prop:=(-(M:Int)<=i/\i<=j/\j<=M/\i<M/\-(M:Int)<j)\/(i=M/\j=-(M:Int))
theorem Iv.lo{i j:Int}(h:Iv i j):-(M:Int)<=i/\i<=M:=by unfold Iv at h;rw [M_val] at *;omega
theorem Iv.hi{i j:Int}(h:Iv i j):-(M:Int)<=j/\j<=M:=by unfold Iv at h;rw [M_val] at *;omega
theorem Iv.none:Iv M (-(M:Int)):=.inr ⟨rfl,rfl⟩
theorem rd_iv(lo hi:Nat):Iv (rd lo hi).1 (rd lo hi).2:=by
 unfold rd
 split
 ·rename_i h;have h:=of_decide_eq_true h;obtain⟨h1,h2,h3,h4,h5⟩:=h;have:=idx_bounds h1;have:=idx_bounds h2
  exact .inl ⟨by omega,h3,by omega,h4,h5⟩
 ·exact Iv.none
theorem rd_pat{i j:Int}(h:Iv i j):rd (pat i) (pat j)=(i,j):=by
 have h1:=h.lo;have h2:=h.hi;unfold rd snd;rw [rung_pat h1.1 h1.2,rung_pat h2.1 h2.2,idx_pat h1.1 h1.2,idx_pat h2.1 h2.2];unfold Iv at h
 split
 ·rfl
 ·rename_i hh
  simp only [decide_eq_true_eq] at hh
  rcases h with h | h
  ·omega
  ·rw [h.1,h.2]
def rsg(x:Rat):Int:=if x=0 then 0 else if x<0 then -1 else 1
theorem rv_pos{p q:Nat}(hp:0<p)(hq:0<q):0<rv false p q:=by
 unfold rv;have h1:=cast_pos hp;have h2:=cast_pos hq;have h3:(0:Rat)<(q:Rat)⁻¹:=Rat.inv_pos.2 h2;rw [Rat.div_def]
 exact Rat.mul_pos h1 h3
theorem rv_true(p q:Nat):rv true p q=- rv false p q:=by
 unfold rv
 simp only [Rat.div_def,if_true,Bool.false_eq_true,if_false]
 grind
theorem rsg_rv{neg:Bool}{p q:Nat}(hq:0<q)(h0:p=0->neg=false):rsg (rv neg p q)=if p=0 then 0 else if neg then -1 else 1:=by
 rcases Nat.eq_zero_or_pos p with hp | hp
 ·subst hp;rw [rv_zero];simp [rsg]
 ·have h1:=rv_pos hp hq;have h2:=rv_true p q;unfold rsg
  cases neg
  ·rw [if_neg (by grind),if_neg (by grind),if_neg (by omega)];rfl
  ·rw [if_neg (by grind),if_pos (by grind),if_neg (by omega)];rfl
theorem small_any(v:Nat)(w:World)(hv:L64 v):
  Calls prog 115 #[.int .u64 (v:Int)] w (NewU32 w (digs v)):=by
 have e1:=mask32_u64 hv
 go_enter func115,ntmps115
 go_wp2_with fail;rw [show (v:Int) % 4294967296=((v % 4294967296:Nat):Int) from by omega,show (v:Int) / 4294967296=((v / 4294967296:Nat):Int) from by omega];have h2:=U32s.lit2 w 117 (a:=v % 4294967296) (b:=v / 4294967296) (by omega) (by omega);refine (norm_any _ 2 2 _ _ h2 (by omega)).mono ?_;rintro e w' ⟨A,n,c,rfl,hu,hb⟩
 have e2:trim [v % 4294967296,v / 4294967296]=digs v:=by
  rw [trim_eq_digs h2.w32];congr 1;simp [num];omega
 have H:=Hd (show NewU32 w (digs v) (.returned (.slice A n c)) w' from NewU32.trans ⟨A,n,c,rfl,by rw [<- e2];exact hu,hb⟩ (below_alloc _ _));clear hu hb e2 e1 h2;go_wp2
 go_ret
 exact H.out
def fl(i:Int):Rat:=(val i:Rat)*2^(-1074:Int)
theorem rv_one(neg:Bool)(s k:Nat):rv neg s 1*2^((k:Int) - 1074)=((if neg then -((s*2^k:Nat):Int) else ((s*2^k:Nat):Int):Int):Rat)*2^(-1074:Int):=by
 rw [show ((k:Int) - 1074)=(k:Int)+(-1074) from by omega,zpow_add,zpow_nat];unfold rv;have h1:((1:Nat):Rat)=1:=rfl;have h2:∀ x:Rat,x / ((1:Nat):Rat)=x:=fun x=>div_eq (by rw [h1];decide) (by rw [h1,Rat.mul_one]);rw [h2]
 cases neg
 ·simp only [Bool.false_eq_true,if_false]
  rw [Rat.intCast_natCast,Rat.natCast_mul];grind
 ·simp only [if_true]
  rw [Rat.intCast_neg,Rat.intCast_natCast,Rat.natCast_mul];grind
theorem fl_parts{b e f:Nat}{neg:Bool}(hf:fin b)(he:b / 4503599627370496 % 2048=e)(hff:b % 4503599627370496=f)(hn:sgn b=neg):
  e<2047/\f<4503599627370496/\(0<e->fl (idx b)=rv neg (f+4503599627370496) 1*2^((e:Int) - 1 - 1074))/\(e=0->fl (idx b)=rv neg f 1*2^((e:Int) - 1074)):=by
 unfold fin rungOf M at hf
 have e1:b % 2^63 / 2^52=e:=by omega
 have e2:b % 2^63 % 2^52=f:=by omega
 refine⟨by omega,by omega,fun h=>?_,fun h=>?_⟩
 ·rw [show (e:Int) - 1 - 1074=((e - 1:Nat):Int) - 1074 from by omega,rv_one];unfold fl;have e0:(2:Nat)^52=4503599627370496:=rfl
  have e3:mag (b % 2^63)=(f+4503599627370496)*2^(e - 1):=by
   unfold mag;rw [if_neg (show ¬ b % 2^63<2^52 from by omega),e1,e2,e0,Nat.add_comm 4503599627370496 f]
  rw [val_idx,hn];unfold rungOf;rw [e3]
 ·subst h;rw [show ((0:Nat):Int) - 1074=((0:Nat):Int) - 1074 from rfl,rv_one];unfold fl;rw [val_idx,hn];unfold rungOf;rw [mag_small (by omega),show b % 2^63=f from by omega,Nat.pow_zero,Nat.mul_one]
theorem NewRat.lay{w W w1:World}{K g:Nat}{t:TypeId}{cs:Array Value}{neg:Bool}{vn vd:Value}{x:Rat}(h:RatV w1 K neg vn vd x)(hb:Below w.heap.size w W)(hb1:Below W.heap.size W w1)(hk:Blk W g t cs)(hc:NoWd cs)(hg:w.heap.size<=g):
  NewRat w K x (.returned (.agg #[.bool neg,vn,vd])) (((w1.setCell ⟨g,0,none⟩ (.bool neg)).setCell ⟨g,1,none⟩ vn).setCell ⟨g,2,none⟩ vd):=
 h.ret (hb.trans (hb1.mono hb.size)) (hk.keep hb1) hc hg
theorem pow_34{f K:Nat}(hK:K=34)(hf:f<2^53){x:Int}(hx:x<=971):f*2^x.toNat<2^(32*K):=by
 obtain⟨k,hk⟩:∃ k,x.toNat=k:=⟨_,rfl⟩
 rw [hk];have h1:f*2^k<2^53*2^k:=Nat.mul_lt_mul_of_pos_right hf (Nat.two_pow_pos k);rw [<- Nat.pow_add] at h1
 exact Nat.lt_of_lt_of_le h1 (Nat.pow_le_pow_right (by omega) (by omega))
theorem pow_34'{x:Int}{K:Nat}(hK:K=34)(hx:-1074<=x):1*2^(-x).toNat<2^(32*K):=by
 rw [Nat.one_mul]
 exact Nat.pow_lt_pow_right (by omega) (by omega)
theorem frombits_K(K b:Nat)(w:World)(hK:K=34)(hb:L64 b)(hf:fin b):
  Calls prog 210 #[.int .u64 (b:Int)] w (NewRat w K (fl (idx b))):=by
 obtain⟨e,he⟩:∃ e,b / 4503599627370496 % 2048=e:=⟨_,rfl⟩
 obtain⟨f,hff⟩:∃ f,b % 4503599627370496=f:=⟨_,rfl⟩
 obtain⟨neg,hn⟩:∃ neg,sgn b=neg:=⟨_,rfl⟩
 obtain⟨he1,hf1,v1,v2⟩:=fl_parts hf he hff hn;have m1:=mask11_u64 (x:=b / 4503599627370496) (by omega);rw [he,show ((b / 4503599627370496:Nat):Int)=(b:Int) / 4503599627370496 from by omega] at m1;have m2:=mask52_u64 (x:=b) hb;rw [hff] at m2
 have m3:((b:Int) / 9223372036854775808 == 1)=neg:=by
  rw [<- hn];unfold sgn
  have:b / 2^63 % 2=b / 9223372036854775808:=by omega
  rw [this]
  rcases Nat.eq_zero_or_pos (b / 9223372036854775808) with h | h
  ·rw [h,show (b:Int) / 9223372036854775808=0 from by omega];rfl
  ·rw [show b / 9223372036854775808=1 from by omega,show (b:Int) / 9223372036854775808=1 from by omega];rfl
 obtain⟨x,hx⟩:∃ x,fl (idx b)=x:=⟨_,rfl⟩
 rw [hx] at v1 v2 ⊢;have HK34:=Hd hK;have V1:=Hd v1;have V2:=Hd v2;have M1:=Hd m1;have M2:=Hd m2;have M3:=Hd m3;have ba:=below_alloc w (.cells (Zr false none 0 0 none 0 0) 42);have BA:=Hd ba;have BLK:=Hd (Blk.new w 42 (Zr false none 0 0 none 0 0));clear v1 v2 hx hn hff he hf ba m1 m2 m3 hK
 rcases Nat.eq_zero_or_pos e with h0 | h0
 ·have hs:=small_any (f) (w.alloc (.cells (Zr false none 0 0 none 0 0) 42)) (by omega);have HS:=Hd hs;clear hs;have m1:=M1.out;have m2:=M2.out;have m3:=M3.out
  have hei:(e:Int)<=0:=by omega
  have H0:=Hd h0;clear h0
  go_enter func210,ntmps210
  go_wp2_with fail;refine HS.out.mono ?_;rintro e1 w1 ⟨A,n,c,rfl,hu1,hb1⟩;have hn2:n<=2:=hu1.len_le (k:=2) (Nat.lt_of_lt_of_le (show f<2^53 from by omega) (by decide));have hW:Below w.heap.size w (w1.alloc (.cells #[wd 1] 117)):=(BA.out.trans (hb1.mono BA.out.size)).alloc (by have:=BA.out.size;have:=hb1.size;omega) _;have hKK:=(BLK.out.keep hb1).alloc (.cells #[wd 1] 117)
  have HF:=Hd (frac_any neg A (some ⟨w1.heap.size,0,none⟩) n c 1 1 K (f) 1 _ [1] ((e:Int) - 1074) (w1.alloc (.cells #[wd 1] 117)) (hu1.alloc _) (U32s.lit1 w1 117 (a:=1) (by omega)) (by omega) (by omega) (num_digs _) (by decide) (by omega) (by omega) (by omega)
   (pow_34 HK34.out (by omega) (by omega)) (pow_34' HK34.out (by omega)) (by have:=HK34.out;omega))
  have HW:=Hd hW;have HK:=Hd hKK;clear hu1 hb1 hW hKK HS;have m1:=M1.out;have m3:=M3.out;go_wp2_with fail;refine HF.out.mono ?_;rintro e2 w2 ⟨neg2,vn,vd,rfl,hr,hb2⟩;rw [<- V2.out H0.out] at hr;obtain⟨A5,n5,c5,A6,n6,c6,rfl,rfl⟩:=hr.shape;have hblk:=HK.out.keep hb2;have k0:=hblk.cell 0;have k1:=hblk.cell 1;have k2:=hblk.cell 2;have f0:=hblk.frozen 0;have f1:=hblk.frozen 1;have f2:=hblk.frozen 2;have hlt:=hblk.lt;have FF:=Hd (NewRat.lay hr HW.out hb2 HK.out NoWd.zero (Nat.le_refl _));clear hblk hb2 hr HF
  simp at k0 k1 k2
  go_wp2;refine bodyPost_ret (v:=Zg neg2 A5 n5 c5 A6 n6 c6) (by simp [results,results210,go_sem,k0,k1,k2]) rfl ?_
  exact FF.out
 ·have hs:=small_any (f+4503599627370496) (w.alloc (.cells (Zr false none 0 0 none 0 0) 42)) (by omega);rw [show ((f+4503599627370496:Nat):Int)=(f:Int)+4503599627370496 from by omega] at hs;have HS:=Hd hs;clear hs;have m1:=M1.out;have m2:=M2.out;have m3:=M3.out
  have hei:(0:Int)<(e:Int):=by omega
  go_enter func210,ntmps210
  go_wp2_with fail;refine HS.out.mono ?_;rintro e1 w1 ⟨A,n,c,rfl,hu1,hb1⟩;have hn2:n<=2:=hu1.len_le (k:=2) (Nat.lt_of_lt_of_le (show f+4503599627370496<2^53 from by omega) (by decide));have hW:Below w.heap.size w (w1.alloc (.cells #[wd 1] 117)):=(BA.out.trans (hb1.mono BA.out.size)).alloc (by have:=BA.out.size;have:=hb1.size;omega) _;have hKK:=(BLK.out.keep hb1).alloc (.cells #[wd 1] 117)
  have HF:=Hd (frac_any neg A (some ⟨w1.heap.size,0,none⟩) n c 1 1 K (f+4503599627370496) 1 _ [1] ((e:Int) - 1 - 1074) (w1.alloc (.cells #[wd 1] 117)) (hu1.alloc _) (U32s.lit1 w1 117 (a:=1) (by omega)) (by omega) (by omega) (num_digs _) (by decide) (by omega) (by omega) (by omega)
   (pow_34 HK34.out (by omega) (by omega)) (pow_34' HK34.out (by omega)) (by have:=HK34.out;omega))
  have HW:=Hd hW;have HK:=Hd hKK;clear hu1 hb1 hW hKK HS;have m1:=M1.out;have m3:=M3.out;go_wp2_with fail;refine HF.out.mono ?_;rintro e2 w2 ⟨neg2,vn,vd,rfl,hr,hb2⟩;rw [<- V1.out h0] at hr;obtain⟨A5,n5,c5,A6,n6,c6,rfl,rfl⟩:=hr.shape;have hblk:=HK.out.keep hb2;have k0:=hblk.cell 0;have k1:=hblk.cell 1;have k2:=hblk.cell 2;have f0:=hblk.frozen 0;have f1:=hblk.frozen 1;have f2:=hblk.frozen 2;have hlt:=hblk.lt;have FF:=Hd (NewRat.lay hr HW.out hb2 HK.out NoWd.zero (Nat.le_refl _));clear hblk hb2 hr HF
  simp at k0 k1 k2
  go_wp2;refine bodyPost_ret (v:=Zg neg2 A5 n5 c5 A6 n6 c6) (by simp [results,results210,go_sem,k0,k1,k2]) rfl ?_
  exact FF.out
theorem frombits_any(b:Nat)(w:World)(hb:L64 b)(hf:fin b):
  Calls prog 210 #[.int .u64 (b:Int)] w (NewRat w 34 (fl (idx b))):=frombits_K 34 b w rfl hb hf
def rc(x y:Rat):Int:=if x<y then -1 else if y<x then 1 else 0
theorem div_lt{a b c d:Rat}(hc:0<c)(hd:0<d):a / c<b / d↔a*d<b*c:=by
 have h1:0<c*d:=Rat.mul_pos hc hd
 have e1:a / c*(c*d)=a*d:=by
  rw [<- Rat.mul_assoc,Rat.div_mul_cancel (by grind)]
 have e2:b / d*(c*d)=b*c:=by
  rw [Rat.mul_comm c d,<- Rat.mul_assoc,Rat.div_mul_cancel (by grind)]
 rw [<- e1,<- e2]
 exact (Rat.mul_lt_mul_right h1).symm
theorem rv_lt_false{p q p' q':Nat}(hq:0<q)(hq':0<q'):rv false p q<rv false p' q'↔p*q'<p'*q:=by
 unfold rv
 simp only [Bool.false_eq_true,if_false]
 rw [div_lt (cast_pos hq) (cast_pos hq'),<- Rat.natCast_mul,<- Rat.natCast_mul,Rat.natCast_lt_natCast]
theorem rc_below{x y:Rat}(h:rsg x<rsg y):rc x y=-1:=by
 unfold rsg at h;unfold rc
 by_cases h1:x=0
 ·rw [if_pos h1] at h
  by_cases h2:y=0
  ·rw [if_pos h2] at h;omega
  ·rw [if_neg h2] at h
   by_cases h3:y<0
   ·rw [if_pos h3] at h;omega
   ·rw [if_pos (by grind)]
 ·rw [if_neg h1] at h
  by_cases h4:x<0
  ·rw [if_pos h4] at h
   by_cases h2:y=0
   ·rw [if_pos (by grind)]
   ·rw [if_neg h2] at h
    by_cases h3:y<0
    ·rw [if_pos h3] at h;omega
    ·rw [if_pos (by grind)]
  ·rw [if_neg h4] at h
   by_cases h2:y=0
   ·rw [if_pos h2] at h;omega
   ·rw [if_neg h2] at h
    by_cases h3:y<0
    ·rw [if_pos h3] at h;omega
    ·rw [if_neg h3] at h;omega
theorem rc_swap(x y:Rat):rc x y=-rc y x:=by
 unfold rc
 by_cases h1:x<y
 ·rw [if_pos h1,if_neg (by grind),if_pos h1]
 ·by_cases h2:y<x
  ·rw [if_neg h1,if_pos h2,if_pos h2];rfl
  ·rw [if_neg h1,if_neg h2,if_neg h2,if_neg h1];rfl
theorem rc_above{x y:Rat}(h:rsg y<rsg x):rc x y=1:=by rw [rc_swap,rc_below h];rfl
def Sc(n m:Nat)(f:Int):Prop:=(0<=f->m*2^f.toNat<=n/\n<m*2^(f.toNat+1))/\(f<0->m<=n*2^(-f).toNat/\n*2^(-f).toNat<2*m)
theorem blen_bounds{n:Nat}(h:0<n):∃ L,blen n=L+1/\2^L<=n/\n<2^(L+1):=by
 have h1:=pow_blen_le h;have h2:=lt_pow_blen n
 have h3:blen n≠0:=by rw [Ne,blen_eq_zero];omega
 refine⟨blen n - 1,by omega,?_,?_⟩
 ·exact h1
 ·rwa [show blen n - 1+1=blen n from by omega]
theorem scale_keep{n m:Nat}{f:Int}(hn:0<n)(hm:0<m)(hf:f=(blen n:Int) - blen m)(h1:0<=f->m*2^f.toNat<=n)(h2:f<0->m<=n*2^(-f).toNat):Sc n m f:=by
 obtain⟨L,e1,a1,a2⟩:=blen_bounds hn;obtain⟨R,e2,b1,b2⟩:=blen_bounds hm;refine⟨fun h=>⟨h1 h,?_⟩,fun h=>⟨h2 h,?_⟩⟩
 ·obtain⟨k,rfl⟩:∃ k:Nat,f=k:=⟨f.toNat,by omega⟩
  rw [Int.toNat_natCast]
  have:L=R+k:=by omega
  subst this
  calc n<2^(R+k+1):=a2
   _=2^R*2^(k+1):=by rw [<- Nat.pow_add];congr 1
   _<=m*2^(k+1):=Nat.mul_le_mul_right _ b1
 ·obtain⟨k,hk⟩:∃ k:Nat,-f=k:=⟨(-f).toNat,by omega⟩
  rw [hk,Int.toNat_natCast]
  have:R=L+k:=by omega
  subst this
  calc n*2^k<2^(L+1)*2^k:=Nat.mul_lt_mul_of_pos_right a2 (Nat.two_pow_pos k)
   _=2*2^(L+k):=by rw [<- Nat.pow_add,show L+1+k=(L+k)+1 from by omega,Nat.pow_succ,Nat.mul_comm]
   _<=2*m:=Nat.mul_le_mul_left _ b1
theorem scale_down{n m:Nat}{f:Int}(hn:0<n)(hm:0<m)(hf:f=(blen n:Int) - blen m)(h1:0<=f->n<m*2^f.toNat)(h2:f<0->n*2^(-f).toNat<m):Sc n m (f - 1):=by
 obtain⟨L,e1,a1,a2⟩:=blen_bounds hn;obtain⟨R,e2,b1,b2⟩:=blen_bounds hm
 rcases Int.lt_trichotomy f 0 with h | h | h
 ·refine⟨fun h'=>by omega,fun _=>?_⟩;have h2:=h2 h
  obtain⟨k,hk⟩:∃ k:Nat,-f=k:=⟨(-f).toNat,by omega⟩
  rw [hk,Int.toNat_natCast] at h2;rw [show -(f - 1)=((k+1:Nat):Int) from by omega,Int.toNat_natCast]
  have:R=L+k:=by omega
  subst this;refine⟨?_,by rw [Nat.pow_succ,<- Nat.mul_assoc];omega⟩;refine Nat.le_of_lt ?_
  calc m<2^(L+k+1):=b2
   _=2^L*2^(k+1):=by rw [<- Nat.pow_add];congr 1
   _<=n*2^(k+1):=Nat.mul_le_mul_right _ a1
 ·subst h;refine⟨fun h'=>by omega,fun _=>?_⟩;have h1:=h1 (by omega)
  simp at h1 ⊢
  have:R=L:=by omega
  subst this;rw [Nat.pow_succ] at b2
  omega
 ·refine⟨fun _=>?_,fun h'=>by omega⟩;have h1:=h1 (by omega)
  obtain⟨k,hk⟩:∃ k:Nat,f=((k+1:Nat):Int):=⟨(f - 1).toNat,by omega⟩
  rw [hk,Int.toNat_natCast] at h1;rw [show f - 1=(k:Int) from by omega,Int.toNat_natCast];refine⟨?_,h1⟩
  have:L=R+(k+1):=by omega
  subst this;refine Nat.le_of_lt ?_
  calc m*2^k<2^(R+1)*2^k:=Nat.mul_lt_mul_of_pos_right b2 (Nat.two_pow_pos k)
   _=2^(R+(k+1)):=by rw [<- Nat.pow_add];congr 1;omega
   _<=n:=a1
def lastBit(f:Int):Int:=if f - 52 < -1074 then -1074 else f - 52
def upN(n:Nat)(e:Int):Nat:=n*2^(-e).toNat
def upM(m:Nat)(e:Int):Nat:=m*2^e.toNat
theorem w_lt{n m:Nat}{f:Int}(hm:0<m)(h:Sc n m f):upN n (lastBit f) / upM m (lastBit f)<2^53:=by
 have hM:0<upM m (lastBit f):=Nat.mul_pos hm (Nat.two_pow_pos _);rw [Nat.div_lt_iff_lt_mul hM]
 have he:f - 52<=lastBit f:=by unfold lastBit;split<;>omega
 obtain⟨e,hee⟩:∃ e,lastBit f=e:=⟨_,rfl⟩
 rw [hee] at he ⊢;unfold upN upM
 rcases Int.lt_or_le f 0 with hf | hf
 ·have h2:=(h.2 hf).2
  obtain⟨k,hk⟩:∃ k:Nat,-f=k:=⟨(-f).toNat,by omega⟩
  rw [hk,Int.toNat_natCast] at h2
  rcases Int.lt_or_le e 0 with h0 | h0
  ·rw [show e.toNat=0 from by omega,Nat.pow_zero,Nat.mul_one]
   calc n*2^(-e).toNat<=n*2^(k+52):=Nat.mul_le_mul_left _ (Nat.pow_le_pow_right (by omega) (by omega))
    _=n*2^k*2^52:=by rw [Nat.pow_add,Nat.mul_assoc]
    _<2*m*2^52:=Nat.mul_lt_mul_of_pos_right h2 (Nat.two_pow_pos 52)
    _=2^53*m:=by omega
  ·rw [show (-e).toNat=0 from by omega,Nat.pow_zero,Nat.mul_one];have h3:n<=n*2^k:=Nat.le_mul_of_pos_right _ (Nat.two_pow_pos k);have h4:m<=m*2^e.toNat:=Nat.le_mul_of_pos_right _ (Nat.two_pow_pos _);have:2*m<=2^53*(m*2^e.toNat):=Nat.mul_le_mul (by omega) h4
   omega
 ·have h2:=(h.1 hf).2
  obtain⟨k,rfl⟩:∃ k:Nat,f=k:=⟨f.toNat,by omega⟩
  rw [Int.toNat_natCast] at h2
  rcases Int.lt_or_le e 0 with h0 | h0
  ·rw [show e.toNat=0 from by omega,Nat.pow_zero,Nat.mul_one]
   calc n*2^(-e).toNat<m*2^(k+1)*2^(-e).toNat:=Nat.mul_lt_mul_of_pos_right h2 (Nat.two_pow_pos _)
    _=m*2^(k+1+(-e).toNat):=by rw [Nat.mul_assoc,<- Nat.pow_add]
    _<=m*2^53:=Nat.mul_le_mul_left _ (Nat.pow_le_pow_right (by omega) (by omega))
    _=2^53*m:=Nat.mul_comm _ _
  ·rw [show (-e).toNat=0 from by omega,Nat.pow_zero,Nat.mul_one]
   calc n<m*2^(k+1):=h2
    _<=m*2^(53+e.toNat):=Nat.mul_le_mul_left _ (Nat.pow_le_pow_right (by omega) (by omega))
    _=2^53*(m*2^e.toNat):=by rw [Nat.pow_add];ac_rfl
theorem w_ge{n m:Nat}{f:Int}(hm:0<m)(h:Sc n m f)(hb:-1074<lastBit f):2^52<=upN n (lastBit f) / upM m (lastBit f):=by
 have hM:0<upM m (lastBit f):=Nat.mul_pos hm (Nat.two_pow_pos _);rw [Nat.le_div_iff_mul_le hM]
 have he:lastBit f=f - 52:=by unfold lastBit at *;split at*<;> omega
 rw [he];unfold upN upM
 rcases Int.lt_or_le f 0 with hf | hf
 ·have h2:=(h.2 hf).1
  obtain⟨k,hk⟩:∃ k:Nat,-f=k:=⟨(-f).toNat,by omega⟩
  rw [hk,Int.toNat_natCast] at h2;rw [show (f - 52).toNat=0 from by omega,Nat.pow_zero,Nat.mul_one,show -(f - 52)=((k+52:Nat):Int) from by omega,Int.toNat_natCast,Nat.pow_add]
  calc 2^52*m<=2^52*(n*2^k):=Nat.mul_le_mul_left _ h2
   _=n*(2^k*2^52):=by ac_rfl
 ·have h2:=(h.1 hf).1
  obtain⟨k,rfl⟩:∃ k:Nat,f=k:=⟨f.toNat,by omega⟩
  rw [Int.toNat_natCast] at h2
  rcases Int.lt_or_le (k:Int) 52 with h0 | h0
  ·rw [show ((k:Int) - 52).toNat=0 from by omega,Nat.pow_zero,Nat.mul_one]
   have:52=k+(-((k:Int) - 52)).toNat:=by omega
   calc 2^52*m=2^(k+(-((k:Int) - 52)).toNat)*m:=by rw [<- this]
    _=m*2^k*2^(-((k:Int) - 52)).toNat:=by rw [Nat.pow_add];ac_rfl
    _<=n*2^(-((k:Int) - 52)).toNat:=Nat.mul_le_mul_right _ h2
  ·rw [show (-((k:Int) - 52)).toNat=0 from by omega,Nat.pow_zero,Nat.mul_one]
   have:k=52+((k:Int) - 52).toNat:=by omega
   calc 2^52*(m*2^((k:Int) - 52).toNat)=m*2^(52+((k:Int) - 52).toNat):=by rw [Nat.pow_add];ac_rfl
    _=m*2^k:=by rw [<- this]
    _<=n:=h2
theorem units{n m U:Nat}{e:Int}(hm:0<m)(he:-(U:Int)<=e):
  (upN n e / upM m e)*2^(e+U).toNat*m<=n*2^U/\n*2^U<(upN n e / upM m e+1)*2^(e+U).toNat*m /\
   (upN n e % upM m e=0->n*2^U=(upN n e / upM m e)*2^(e+U).toNat*m)/\(upN n e % upM m e≠0->(upN n e / upM m e)*2^(e+U).toNat*m<n*2^U):=by
 have hM:0<upM m e:=Nat.mul_pos hm (Nat.two_pow_pos _);have h1:=Nat.div_add_mod (upN n e) (upM m e);have h2:=Nat.mod_lt (upN n e) hM
 obtain⟨c,hc,hN,hP⟩:∃ c,0<c/\n*2^U=upN n e*c/\2^(e+U).toNat*m=upM m e*c:=by
  rcases Int.lt_or_le e 0 with h0 | h0
  ·refine⟨2^(e+U).toNat,Nat.two_pow_pos _,?_,?_⟩
   ·unfold upN;rw [Nat.mul_assoc,<- Nat.pow_add]
    congr 2;omega
   ·unfold upM;rw [show e.toNat=0 from by omega,Nat.pow_zero,Nat.mul_one,Nat.mul_comm]
  ·refine⟨2^U,Nat.two_pow_pos _,?_,?_⟩
   ·unfold upN;rw [show (-e).toNat=0 from by omega,Nat.pow_zero,Nat.mul_one]
   ·unfold upM;rw [show (e+U).toNat=e.toNat+U from by omega,Nat.pow_add];ac_rfl
 obtain⟨D,hD⟩:∃ D,upM m e=D:=⟨_,rfl⟩
 obtain⟨q,hq⟩:∃ q,upN n e / D=q:=⟨_,rfl⟩
 obtain⟨r,hr⟩:∃ r,upN n e % D=r:=⟨_,rfl⟩
 rw [hD] at h1 h2 hP ⊢;rw [hq,hr] at h1;rw [hr] at h2;rw [hq,hr,hN,Nat.mul_assoc,Nat.mul_assoc,hP,<- h1]
 have e1:q*(D*c)=D*q*c:=by ac_rfl
 have e2:(q+1)*(D*c)=(D*q+D)*c:=by rw [Nat.add_mul,Nat.one_mul,e1,Nat.add_mul]
 rw [e1,e2];refine⟨Nat.mul_le_mul_right _ (by omega),Nat.mul_lt_mul_of_pos_right (by omega) hc,fun h=>by rw [h,Nat.add_zero],fun h=>Nat.mul_lt_mul_of_pos_right (by omega) hc⟩
def cutT(n m:Nat)(e:Int):Nat:=(e+1074).toNat*2^52+upN n e / upM m e
def capT(n m:Nat)(e:Int):Nat:=(e+1074).toNat*2^52+(upN n e / upM m e+if upN n e % upM m e=0 then 0 else 1)
theorem lastBit_bounds{f:Int}(hf:f<=1023):-1074<=lastBit f/\lastBit f<=971:=by unfold lastBit;split<;>omega
theorem mag_cut{n m:Nat}{f:Int}(hm:0<m)(h:Sc n m f)(c:Nat)(hc:c<=1):
  mag ((lastBit f+1074).toNat*2^52+(upN n (lastBit f) / upM m (lastBit f)+c))=(upN n (lastBit f) / upM m (lastBit f)+c)*2^(lastBit f+1074).toNat:=by
 have h1:=w_lt hm h;refine mag_form _ _ ?_ (by omega)
 by_cases hb:-1074<lastBit f
 ·have:=w_ge hm h hb;right;omega
 ·left;omega
theorem cut_lt{n m:Nat}{f:Int}(hm:0<m)(h:Sc n m f)(hf:f<=1023):cutT n m (lastBit f)<M:=by
 have h1:=w_lt hm h;have h2:=lastBit_bounds hf;unfold cutT;rw [M_val];omega
theorem cap_le{n m:Nat}{f:Int}(hm:0<m)(h:Sc n m f)(hf:f<=1023):capT n m (lastBit f)<=M:=by
 have h1:=w_lt hm h;have h2:=lastBit_bounds hf
 unfold capT;rw [M_val];split<;>omega
theorem cut_law{n m U:Nat}{f:Int}(hU:U=1074)(hm:0<m)(h:Sc n m f)(hf:f<=1023)(r:Nat):r<=cutT n m (lastBit f)↔mag r*m<=n*2^U:=by
 have hb:=lastBit_bounds hf;obtain⟨u1,u2,-,-⟩:=units (n:=n) (U:=U) hm (show -(U:Int)<=lastBit f by omega);have m0:=mag_cut hm h 0 (by omega);have m1:=mag_cut hm h 1 (by omega);rw [Nat.add_zero] at m0;rw [show (lastBit f+(U:Int)).toNat=(lastBit f+1074).toNat from by omega] at u1 u2;rw [<- m0] at u1;rw [<- m1] at u2
 have e:(lastBit f+1074).toNat*2^52+(upN n (lastBit f) / upM m (lastBit f)+1)=cutT n m (lastBit f)+1:=by unfold cutT;omega
 rw [e] at u2
 constructor
 ·intro hr;have h1:mag r<=mag (cutT n m (lastBit f)):=mag_le_iff.2 hr
  exact Nat.le_trans (Nat.mul_le_mul_right m h1) u1
 ·intro hr
  by_cases hc:r<=cutT n m (lastBit f)
  ·exact hc
  ·have h1:mag (cutT n m (lastBit f)+1)<=mag r:=mag_le_iff.2 (by omega);have h2:=Nat.mul_le_mul_right m h1
   exact absurd (Nat.lt_of_lt_of_le u2 h2) (by omega)
theorem cap_law{n m U:Nat}{f:Int}(hU:U=1074)(hm:0<m)(h:Sc n m f)(hf:f<=1023)(r:Nat):capT n m (lastBit f)<=r↔n*2^U<=mag r*m:=by
 have hb:=lastBit_bounds hf;obtain⟨u1,u2,u3,u4⟩:=units (n:=n) (U:=U) hm (show -(U:Int)<=lastBit f by omega);have m0:=mag_cut hm h 0 (by omega);have m1:=mag_cut hm h 1 (by omega);rw [Nat.add_zero] at m0;rw [show (lastBit f+(U:Int)).toNat=(lastBit f+1074).toNat from by omega] at u1 u2 u3 u4;rw [<- m0] at u1 u3 u4;rw [<- m1] at u2
 have e:(lastBit f+1074).toNat*2^52+(upN n (lastBit f) / upM m (lastBit f)+1)=cutT n m (lastBit f)+1:=by unfold cutT;omega
 have e0:(lastBit f+1074).toNat*2^52+(upN n (lastBit f) / upM m (lastBit f))=cutT n m (lastBit f):=rfl;rw [e] at u2;rw [e0] at u1 u3 u4
 by_cases hz:upN n (lastBit f) % upM m (lastBit f)=0
 ·have hc:capT n m (lastBit f)=cutT n m (lastBit f):=by unfold capT cutT;rw [if_pos hz,Nat.add_zero]
  rw [hc,u3 hz]
  constructor
  ·intro hr;exact Nat.mul_le_mul_right m (mag_le_iff.2 hr)
  ·intro hr
   exact mag_le_iff.1 (Nat.le_of_mul_le_mul_right hr hm)
 ·have hc:capT n m (lastBit f)=cutT n m (lastBit f)+1:=by unfold capT cutT;rw [if_neg hz];omega
  rw [hc];have u4:=u4 hz
  constructor
  ·intro hr
   exact Nat.le_trans (Nat.le_of_lt u2) (Nat.mul_le_mul_right m (mag_le_iff.2 hr))
  ·intro hr;have h2:=Nat.lt_of_mul_lt_mul_right (Nat.lt_of_lt_of_le u4 hr);have:=mag_lt_iff.1 h2
   omega
theorem over_law{n m U:Nat}{f:Int}(hU:U=1074)(hm:0<m)(h:Sc n m f)(hf:1023<f)(r:Nat)(hr:r<M):mag r*m<n*2^U:=by
 have h1:=(h.1 (by omega)).1;have h2:mag r<mag M:=mag_lt_iff.2 hr
 have h3:mag M=2^52*2^2046:=by
  have:=mag_form 2046 (2^52) (.inr (Nat.le_refl _)) (by decide);rw [<- this];rfl
 rw [h3] at h2
 obtain⟨k,rfl⟩:∃ k:Nat,f=((1024+k:Nat):Int):=⟨(f - 1024).toNat,by omega⟩
 rw [Int.toNat_natCast] at h1
 obtain⟨V,hV⟩:∃ V,V=2046:=⟨_,rfl⟩
 rw [<- hV] at h2
 calc mag r*m<2^52*2^V*m:=Nat.mul_lt_mul_of_pos_right h2 hm
  _=m*2^(52+V):=by rw [Nat.pow_add];ac_rfl
  _<=m*2^(1024+k+U):=Nat.mul_le_mul_left _ (Nat.pow_le_pow_right (by omega) (by omega))
  _=m*2^(1024+k)*2^U:=by rw [Nat.pow_add 2 (1024+k) U,Nat.mul_assoc]
  _<=n*2^U:=Nat.mul_le_mul_right _ h1
theorem rv_le_false{p q p' q':Nat}(hq:0<q)(hq':0<q'):rv false p q<=rv false p' q'↔p*q'<=p'*q:=by
 have:=rv_lt_false (p:=p') (p':=p) hq' hq
 constructor
 ·intro h
  by_cases hc:p*q'<=p'*q
  ·exact hc
  ·exact absurd (this.2 (by omega)) (by grind)
 ·intro h
  by_cases hc:rv false p q<=rv false p' q'
  ·exact hc
  ·have:=this.1 (by grind);omega
theorem fl_nat(r:Nat){U:Nat}(hU:U=1074):fl (r:Int)=rv false (mag r) (2^U):=by
 unfold rv fl;rw [if_neg (by decide),val_nat];refine eq_div (cast_ne (Nat.two_pow_pos U)) ?_;rw [<- zpow_nat,show (-1074:Int)=-(U:Int) from by omega,Rat.mul_assoc,<- zpow_add,show -(U:Int)+(U:Int)=0 from by omega,Rat.zpow_zero,Rat.mul_one]
 rfl
theorem fl_neg(i:Int):fl (-i)=- fl i:=by
 unfold fl;rw [val_neg,Rat.intCast_neg];grind
theorem fl_lt_iff{i j:Int}:fl i<fl j↔i<j:=by
 unfold fl;rw [Rat.mul_lt_mul_right (zpow_pos _),Rat.intCast_lt_intCast,val_lt_iff]
theorem fl_le_iff{i j:Int}:fl i<=fl j↔i<=j:=by
 have:=@fl_lt_iff j i
 constructor
 ·intro h
  by_cases hc:i<=j
  ·exact hc
  ·exact absurd (this.2 (by omega)) (by grind)
 ·intro h
  by_cases hc:fl i<=fl j
  ·exact hc
  ·have:=this.1 (by grind);omega
theorem fl_zero:fl 0=0:=by unfold fl;rw [val_zero];grind
def Rnd(d:Int)(x:Rat)(i:Int):Prop:=
 (d=-1/\-(M:Int)<=i/\i<M/\∀ j:Int,-(M:Int)<j->j<M->(j<=i↔fl j<=x)) \/
 (d=1/\-(M:Int)<i/\i<=M/\∀ j:Int,-(M:Int)<j->j<M->(i<=j↔x<=fl j))
theorem Rnd.neg{d:Int}{x:Rat}{i:Int}(h:Rnd d x i):Rnd (-d) (-x) (-i):=by
 rcases h with ⟨rfl,h1,h2,h3⟩ | ⟨rfl,h1,h2,h3⟩
 ·refine .inr ⟨rfl,by omega,by omega,fun j hj hj'=>?_⟩;have:=h3 (-j) (by omega) (by omega);rw [fl_neg] at this
  constructor
  ·intro h;have:=this.1 (by omega);grind
  ·intro h;have:=this.2 (by grind);omega
 ·refine .inl ⟨rfl,by omega,by omega,fun j hj hj'=>?_⟩;have:=h3 (-j) (by omega) (by omega);rw [fl_neg] at this
  constructor
  ·intro h;have:=this.1 (by omega);grind
  ·intro h;have:=this.2 (by grind);omega
theorem Rnd.exact{d a i:Int}(h:Rnd d (fl a) i)(h0:-(M:Int)<a)(h1:a<M):i=a:=by
 rcases h with ⟨rfl,a1,a2,a3⟩ | ⟨rfl,a1,a2,a3⟩
 ·have h2:=(a3 a h0 h1).2 Rat.le_refl
  by_cases hc:i=a
  ·exact hc
  ·have:=(a3 i (by omega) a2).1 (by omega);rw [fl_le_iff] at this;omega
 ·have h2:=(a3 a h0 h1).2 Rat.le_refl
  by_cases hc:i=a
  ·exact hc
  ·have:=(a3 i a1 (by omega)).1 (by omega);rw [fl_le_iff] at this;omega
theorem rnd_zero{d:Int}(hd:d=-1\/d=1):Rnd d 0 0:=by
 rw [<- fl_zero]
 rcases hd with rfl | rfl
 ·exact .inl ⟨rfl,by rw [M_val];omega,by rw [M_val];omega,fun j _ _=>fl_le_iff.symm⟩
 ·exact .inr ⟨rfl,by rw [M_val];omega,by rw [M_val];omega,fun j _ _=>fl_le_iff.symm⟩
theorem rnd_down{n m t U:Nat}(hU:U=1074)(hn:0<n)(hm:0<m)(ht:t<M)(h:∀ r:Nat,r<M->(r<=t↔mag r*m<=n*2^U)):Rnd (-1) (rv false n m) t:=by
 refine .inl ⟨rfl,by omega,by omega,fun j hj hj'=>?_⟩
 rcases Int.lt_or_le j 0 with h0 | h0
 ·have h1:fl j<fl 0:=fl_lt_iff.2 h0;rw [fl_zero] at h1;have h2:=rv_pos hn hm
  constructor
  ·intro _;grind
  ·intro _;omega
 ·obtain⟨r,rfl⟩:∃ r:Nat,j=r:=⟨j.toNat,by omega⟩
  rw [fl_nat r hU,rv_le_false (Nat.two_pow_pos U) hm,<- h r (by omega)]
  omega
theorem rnd_up{n m t U:Nat}(hU:U=1074)(hn:0<n)(hm:0<m)(ht:t<=M)(h:∀ r:Nat,r<M->(t<=r↔n*2^U<=mag r*m)):Rnd 1 (rv false n m) t:=by
 have hp:0<n*2^U:=Nat.mul_pos hn (Nat.two_pow_pos U)
 have h0:0<t:=by
  have h1:=h 0 (by rw [M_val];omega);rw [mag_zero,Nat.zero_mul] at h1
  omega
 refine .inr ⟨rfl,by omega,by omega,fun j hj hj'=>?_⟩
 rcases Int.lt_or_le j 0 with h0 | h0
 ·have h1:fl j<fl 0:=fl_lt_iff.2 h0;rw [fl_zero] at h1;have h2:=rv_pos hn hm
  constructor
  ·intro _;omega
  ·intro _;grind
 ·obtain⟨r,rfl⟩:∃ r:Nat,j=r:=⟨j.toNat,by omega⟩
  rw [fl_nat r hU,rv_le_false hm (Nat.two_pow_pos U),<- h r (by omega)]
  omega
def sg(neg:Bool)(t:Nat):Int:=if neg then -(t:Int) else (t:Int)
def ansT(p q:Nat)(f:Int)(away:Bool):Nat:=if 1023<f then (if away then M else M - 1) else (if away then capT p q (lastBit f) else cutT p q (lastBit f))
theorem rnd_ans{p q:Nat}{f d:Int}{neg:Bool}(hp:0<p)(hq:0<q)(h:Sc p q f)(hd:d=-1\/d=1):Rnd d (rv neg p q) (sg neg (ansT p q f (decide (d=1) != neg))):=by
 obtain⟨U,hU⟩:∃ U,U=1074:=⟨_,rfl⟩
 have up:Rnd 1 (rv false p q) (ansT p q f true):=by
  unfold ansT
  by_cases hf:1023<f
  ·rw [if_pos hf,if_pos rfl];refine rnd_up hU hp hq (Nat.le_refl _) fun r hr=>?_;have:=over_law hU hq h hf r hr
   omega
  ·rw [if_neg hf,if_pos rfl]
   exact rnd_up hU hp hq (cap_le hq h (by omega)) fun r _=>cap_law hU hq h (by omega) r
 have down:Rnd (-1) (rv false p q) (ansT p q f false):=by
  unfold ansT
  by_cases hf:1023<f
  ·rw [if_pos hf,if_neg (by decide)];refine rnd_down hU hp hq (by rw [M_val];omega) fun r hr=>?_;have:=over_law hU hq h hf r hr
   omega
  ·rw [if_neg hf,if_neg (by decide)]
   exact rnd_down hU hp hq (cut_lt hq h (by omega)) fun r _=>cut_law hU hq h (by omega) r
 rcases hd with rfl | rfl<;>cases neg
 ·exact down
 ·have:=up.neg;rw [<- rv_true] at this
  exact this
 ·exact up
 ·have:=down.neg;rw [<- rv_true] at this
  exact this
end Go.Proofs.YthlmlmfebpjgdaaGreatDoor
