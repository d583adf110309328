/-
Lemmas for the statement: FracT SignT NegT Sets Co.
-/
import Derived.Test.YthlmlmfebpjgdaaGreatDoorM01
import Derived.Test.YthlmlmfebpjgdaaGreatDoorM02
import Derived.Deep.RegionHeld3
set_option linter.unusedSimpArgs false
set_option linter.unusedVariables false
set_option maxHeartbeats 12800000
namespace Go.Proofs.YthlmlmfebpjgdaaGreatDoor
section
open Go.RowKit
theorem frac_value{neg:Bool}{a b ka kb K:Nat}{exp e:Int}(he:e=exp+ka - kb)(hb:0<b)(ha1:a % 2^ka=0)(hb1:b % 2^kb=0)
  (hka:a*2^exp.toNat<2^(32*K))(hkb:b*2^(-exp).toNat<2^(32*K))(ha:0<a):
  0<a / 2^ka*2^e.toNat∧0<b / 2^kb*2^(-e).toNat∧a / 2^ka*2^e.toNat<2^(32*K)∧b / 2^kb*2^(-e).toNat<2^(32*K) ∧
   rv neg a b*2^exp=rv neg (a / 2^ka*2^e.toNat) (b / 2^kb*2^(-e).toNat):=by
 have hea:=odd_part ha1;have heb:=odd_part hb1
 have pa:0<a / 2^ka:=by
  rcases Nat.eq_zero_or_pos (a / 2^ka) with h | h
  ·rw [h] at hea;omega
  ·exact h
 have pb:0<b / 2^kb:=by
  rcases Nat.eq_zero_or_pos (b / 2^kb) with h | h
  ·rw [h] at heb;omega
  ·exact h
 have q1:=Nat.mul_pos pa (Nat.two_pow_pos e.toNat);have q2:=Nat.mul_pos pb (Nat.two_pow_pos (-e).toNat);refine⟨q1,q2,?_,?_,?_⟩
 ·refine Nat.lt_of_le_of_lt ?_ hka;rw [← hea,Nat.mul_div_cancel _ (Nat.two_pow_pos ka),Nat.mul_assoc,← Nat.pow_add]
  exact Nat.mul_le_mul_left _ (Nat.pow_le_pow_right (by omega) (by omega))
 ·refine Nat.lt_of_le_of_lt ?_ hkb;rw [← heb,Nat.mul_div_cancel _ (Nat.two_pow_pos kb),Nat.mul_assoc,← Nat.pow_add]
  exact Nat.mul_le_mul_left _ (Nat.pow_le_pow_right (by omega) (by omega))
 ·rw [← rv_scale neg hb];refine rv_eq (Nat.mul_pos hb (Nat.two_pow_pos _)) q2 ?_;generalize a / 2^ka=x at *;generalize b / 2^kb=y at *;subst hea heb;rw [Nat.mul_assoc,Nat.mul_assoc,Nat.mul_assoc,Nat.mul_assoc]
  congr 1
  rw [Nat.mul_left_comm _ y,Nat.mul_left_comm _ y,Nat.mul_left_comm _ y]
  congr 1
  rw [← Nat.pow_add,← Nat.pow_add,← Nat.pow_add,← Nat.pow_add]
  congr 1;omega
theorem frac_zero(neg:Bool)(A B:Option Addr)(n c m d K:Nat)(xs ys:List Nat)(exp:Int)(w:World)(hx:U32s w A n c xs)(hy:U32s w B m d ys)(hs1:n≤8589934592)(hs2:m≤8589934592)(h0:num xs=0)(hK:1≤K):
  Calls Tryz.prog 96 #[.bool neg,.slice A n c,.slice B m d,.int .i64 exp] w (NewRat w K 0):=by
 have HX:=Hd hx;have HY:=Hd hy;clear hx hy;have ba:=below_alloc w (.cells #[.bool false,.slice none 0 0,.slice none 0 0] 42);have hn1:=norm_any A n c xs _ (HX.out.below ba) (by omega);rw [trim_eq_digs HX.out.w32,h0,digs_zero] at hn1;have HN1:=Hd hn1;clear hn1
 go_enter Tryz.func96,Tryz.ntmps96
 go_wp2_with fail;refine HN1.out.mono ?_;rintro e w1 ⟨A1,n1,c1,rfl,hu1,hb1⟩
 obtain rfl:n1=0:=hu1.len.symm
 have hn2:=norm_any B m d ys w1 ((HY.out.below ba).below hb1) (by omega);have HN2:=Hd hn2;go_wp2_with fail;refine HN2.out.mono ?_;rintro e w2 ⟨A2,n2,c2,rfl,hu2,hb2⟩;have hblk:=((Blk.new w 42 #[.bool false,.slice none 0 0,.slice none 0 0]).keep hb1).keep hb2;have k0:=hblk.cell 0;have k1:=hblk.cell 1;have k2:=hblk.cell 2;have f0:=hblk.frozen 0;have f1:=hblk.frozen 1;have f2:=hblk.frozen 2;have hlt:=hblk.lt;have HB:=Hd (show Below w.heap.size w w2 from (ba.trans (hb1.mono (by simp))).trans (hb2.mono (by have:=hb1.size;simp at this;omega)));clear hblk hb1 hb2 hu2 hu1 HN1 HN2 hn2 ba
 simp at k0 k1 k2
 go_wp2;refine bodyPost_ret (v:=.agg #[.bool false,.slice none 0 0,.slice (some ⟨w2.heap.size,0,none⟩) 1 1]) (by simp [results,Tryz.results96,go_sem,hlt,k0,k1,k2]) rfl ?_;refine⟨false,.slice none 0 0,.slice (some ⟨w2.heap.size,0,none⟩) 1 1,rfl,⟨0,1,none,0,0,_,1,1,rfl,rfl,?_,?_,by omega,fun _=>rfl,Nat.two_pow_pos _,?_,(rv_zero _ _).symm⟩,?_⟩
 ·rw [digs_zero];exact U32s.nil _ _ _
 ·rw [digs_one]
  exact U32s.lit1_at (by simp) 117 (a:=1) (by omega)
 ·exact Nat.one_lt_two_pow (by omega)
 ·exact (below_set3 HB.out (Nat.le_refl _) _ _ _).alloc (by simpa using HB.out.size) _
theorem norm_v{v:Nat}(A:Option Addr)(n c:Nat)(xs:List Nat)(w:World)(h:U32s w A n c xs)(hs:n≤34359738367)(ev:num xs=v):
  Calls Tryz.prog 93 #[.slice A n c] w fun e w'=>∃ A1 n1 c1,e=.returned (.slice A1 n1 c1)∧U32s w' A1 n1 c1 (digs v)∧n1≤n∧(0<v→0<n1)∧Below w.heap.size w w':=by
 have h1:=norm_any A n c xs w h hs;rw [trim_eq_digs h.w32,ev] at h1;refine h1.mono ?_;rintro e w' ⟨A1,n1,c1,rfl,hu,hb⟩;have l:=wlen_le xs
 have l2:wlen xs=(digs v).length:=by unfold wlen;rw [trim_eq_digs h.w32,ev]
 have l3:=hu.len;refine⟨A1,n1,c1,rfl,hu,by rw [h.len] at l;omega,fun hv=>?_,hb⟩
 rcases Nat.eq_zero_or_pos n1 with h0 | h0
 ·have:=digs_length_eq_zero.1 (show (digs v).length=0 by omega)
  omega
 ·exact h0
theorem zeros_v{v:Nat}(A:Option Addr)(n c:Nat)(w:World)(hx:U32s w A n c (digs v))(h0:0<v):
  Calls Tryz.prog 164 #[.slice A n c] w fun e w'=>(∃ k:Nat,e=.returned (.int .i64 (k:Int))∧k≤32*n∧v % 2^k=0)∧w=w':=by
 refine (zeros_any A n c _ w hx (by rw [num_digs];omega)).mono ?_;rintro e w' ⟨⟨k,rfl,h1,h2,_⟩,rfl⟩;rw [num_digs] at h2
 exact⟨⟨k,rfl,h1,h2⟩,rfl⟩
theorem right_v{v:Nat}(A:Option Addr)(n c k:Nat)(w:World)(hx:U32s w A n c (digs v))(hs1:n≤1073741824)(hk:k≤32*n):
  Calls Tryz.prog 165 #[.slice A n c,.int .i64 (k:Int)] w fun e w'=>∃ A1 n1 c1 t,e=.returned (.tuple #[.slice A1 n1 c1,.bool t])∧U32s w' A1 n1 c1 (digs (v / 2^k))∧n1≤n∧Below w.heap.size w w':=by
 have h1:=right_any A n c k _ w hx (by omega) (by omega);rw [num_digs] at h1;refine h1.mono ?_;rintro e w' ⟨A1,n1,c1,rfl,hu,hb⟩;refine⟨A1,n1,c1,_,rfl,hu,?_,hb⟩;have l:=hu.len;have l2:(digs (v / 2^k)).length≤n:=digs_length_le (Nat.lt_of_le_of_lt (Nat.div_le_self _ _) (by have:=num_lt hx.w32;rw [num_digs,hx.len] at this;exact this))
 omega
theorem left_v{v:Nat}(A:Option Addr)(n c k:Nat)(w:World)(hx:U32s w A n c (digs v))(hs1:n≤1073741824)(hk:k≤137438953472):
  Calls Tryz.prog 166 #[.slice A n c,.int .i64 (k:Int)] w (NewU32 w (digs (v*2^k))):=by
 have h1:=left_any A n c k _ w hx (by omega) hk;rw [num_digs] at h1
 exact h1
theorem mul_one_pow(v:Nat):v*2^0=v:=by simp
theorem frac_pos(neg:Bool)(A B:Option Addr)(n c m d K a b:Nat)(xs ys:List Nat)(exp:Int)(w:World)(hx:U32s w A n c xs)(hy:U32s w B m d ys)(hs1:n≤1073741824)(hs2:m≤1073741824)
  (ea:num xs=a)(eb:num ys=b)(ha:0<a)(hb:0<b)(he1:-1073741824≤exp)(he2:exp≤1073741824)
  (hka:a*2^exp.toNat<2^(32*K))(hkb:b*2^(-exp).toNat<2^(32*K)):
  Calls Tryz.prog 96 #[.bool neg,.slice A n c,.slice B m d,.int .i64 exp] w (NewRat w K (rv neg a b*2^exp)):=by
 have HX:=Hd hx;have HY:=Hd hy;have HKA:=Hd hka;have HKB:=Hd hkb;have ba:=below_alloc w (.cells #[.bool false,.slice none 0 0,.slice none 0 0] 42);have hn1:=norm_v A n c xs _ (hx.below ba) (by omega) ea;have HN1:=Hd hn1;have BA:=Hd ba;clear hn1 hx hy hka hkb ba ea
 go_enter Tryz.func96,Tryz.ntmps96
 go_wp2_with fail;refine HN1.out.mono ?_;rintro e w1 ⟨A1,n1,c1,rfl,hu1,hn1,hp1,hb1⟩;have hp1:=hp1 ha;have HN2:=Hd (norm_v B m d ys w1 ((HY.out.below BA.out).below hb1) (by omega) eb);have U1:=Hd hu1;have B1:=Hd hb1;clear hu1 hb1 HN1 eb;go_wp2_with fail;refine HN2.out.mono ?_;rintro e w2 ⟨A2,n2,c2,rfl,hu2,hn2,hp2,hb2⟩;have hp2:=hp2 hb;have U2:=Hd hu2;have U1':=Hd (U1.out.below hb2);have HZ1:=Hd (zeros_v A1 n1 c1 w2 U1'.out ha);have B2:=Hd hb2;clear hu2 hb2 U1 HN2;go_wp2_with fail;refine HZ1.out.mono ?_;rintro e w2' ⟨⟨ka,rfl,hka,hza⟩,rfl⟩;have HR1:=Hd (right_v A1 n1 c1 ka w2 U1'.out (by omega) hka);go_wp2_with fail;refine HR1.out.mono ?_;rintro e w3 ⟨A3,n3,c3,t3,rfl,hu3,hn3,hb3⟩;have U3:=Hd hu3;have U2':=Hd (U2.out.below hb3);have HZ2:=Hd (zeros_v A2 n2 c2 w3 U2'.out hb);have B3:=Hd hb3;clear hu3 hb3 HR1 HZ1 U2 U1';go_wp2_with fail;refine HZ2.out.mono ?_;rintro e w3' ⟨⟨kb,rfl,hkb,hzb⟩,rfl⟩;have HR2:=Hd (right_v A2 n2 c2 kb w3 U2'.out (by omega) hkb);go_wp2_with fail;refine HR2.out.mono ?_;rintro e w4 ⟨A4,n4,c4,t4,rfl,hu4,hn4,hb4⟩;have U4:=Hd hu4;have U3':=Hd (U3.out.below hb4);have hblk:=((((Blk.new w 42 #[.bool false,.slice none 0 0,.slice none 0 0]).keep B1.out).keep B2.out).keep B3.out).keep hb4;have HB:=Hd (show Below w.heap.size w w4 from (((BA.out.trans (B1.out.mono BA.out.size)).trans (B2.out.mono (by have:=BA.out.size;have:=B1.out.size;omega))).trans (B3.out.mono (by have:=BA.out.size;have:=B1.out.size;have:=B2.out.size;omega))).trans (hb4.mono (by have:=BA.out.size;have:=B1.out.size;have:=B2.out.size;have:=B3.out.size;omega)))
 have HBLK:=Hd hblk;clear hu4 hb4 HR2 HZ2 U3 B1 B2 B3 hblk U2'
 obtain⟨ex,hex⟩:∃ ex,exp+ka - kb=ex:=⟨_,rfl⟩
 have F:=Hd (frac_value (neg:=neg) (K:=K) hex.symm hb hza hzb HKA.out HKB.out ha)
 have FIN0:∀ w5 A5 n5 c5 A6 n6 c6,U32s w5 A5 n5 c5 (digs (a / 2^ka*2^ex.toNat))→U32s w5 A6 n6 c6 (digs (b / 2^kb*2^(-ex).toNat))→Below w.heap.size w w5→Blk w5 w.heap.size 42 #[.bool false,.slice none 0 0,.slice none 0 0] →
   NewRat w K (rv neg a b*2^exp) (.returned (.agg #[.bool neg,.slice A5 n5 c5,.slice A6 n6 c6])) (((w5.setCell ⟨w.heap.size,0,none⟩ (.bool neg)).setCell ⟨w.heap.size,1,none⟩ (.slice A5 n5 c5)).setCell ⟨w.heap.size,2,none⟩ (.slice A6 n6 c6)):=by
  intro w5 A5 n5 c5 A6 n6 c6 h5 h6 hb5 hk5;obtain⟨f1,f2,f3,f4,f5⟩:=F.out
  exact RatV.ret ⟨_,_,A5,n5,c5,A6,n6,c6,rfl,rfl,h5,h6,f2,by omega,f3,f4,f5⟩ hb5 hk5 NoWd.zero (Nat.le_refl _)
 obtain⟨xl,hxl⟩:∃ xl:Nat,ex.toNat=xl:=⟨_,rfl⟩
 obtain⟨xr,hxr⟩:∃ xr:Nat,(-ex).toNat=xr:=⟨_,rfl⟩
 rw [hxl,hxr] at FIN0;have FIN:=Hd FIN0;clear F FIN0
 by_cases e1:0<ex
 ·have ex1:ex=(xl:Int):=by omega
  obtain rfl:xr=0:=by omega
  have HL:=Hd (left_v A3 n3 c3 xl w4 U3'.out (by omega) (by omega));clear hxl hxr;subst ex1;go_wp2_with fail;refine HL.out.mono ?_;rintro e w5 ⟨A5,n5,c5,rfl,hu5,hb5⟩;have hblk:=HBLK.out.keep hb5;have HB5:=HB.out.trans (hb5.mono HB.out.size);have k0:=hblk.cell 0;have k1:=hblk.cell 1;have k2:=hblk.cell 2;have f0:=hblk.frozen 0;have f1:=hblk.frozen 1;have f2:=hblk.frozen 2;have hlt:=hblk.lt;have FF:=Hd (FIN.out w5 A5 n5 c5 A4 n4 c4 hu5 (by rw [mul_one_pow];exact U4.out.below hb5) HB5 hblk);clear hblk hb5 hu5 HB5
  simp at k0 k1 k2
  go_wp2
  exact bodyPost_ret (v:=.agg #[.bool neg,.slice A5 n5 c5,.slice A4 n4 c4]) (by simp [results,Tryz.results96,go_sem,k0,k1,k2]) rfl FF.out
 ·by_cases e2:ex<0
  ·have ex1:-ex=(xr:Int):=by omega
   obtain rfl:xl=0:=by omega
   have HL:=Hd (left_v A4 n4 c4 xr w4 U4.out (by omega) (by omega));clear hxl hxr
   obtain rfl:ex=-(xr:Int):=by omega
   have nn:-(-(xr:Int))=(xr:Int):=by omega
   go_wp2_with fail;refine HL.out.mono ?_;rintro e w5 ⟨A5,n5,c5,rfl,hu5,hb5⟩;have hblk:=HBLK.out.keep hb5;have HB5:=HB.out.trans (hb5.mono HB.out.size);have k0:=hblk.cell 0;have k1:=hblk.cell 1;have k2:=hblk.cell 2;have f0:=hblk.frozen 0;have f1:=hblk.frozen 1;have f2:=hblk.frozen 2;have hlt:=hblk.lt;have FF:=Hd (FIN.out w5 A3 n3 c3 A5 n5 c5 (by rw [mul_one_pow];exact U3'.out.below hb5) hu5 HB5 hblk);clear hblk hb5 hu5 HB5
   simp at k0 k1 k2
   go_wp2
   exact bodyPost_ret (v:=.agg #[.bool neg,.slice A3 n3 c3,.slice A5 n5 c5]) (by simp [results,Tryz.results96,go_sem,k0,k1,k2]) rfl FF.out
  ·obtain rfl:xl=0:=by omega
   obtain rfl:xr=0:=by omega
   have hblk:=HBLK.out;have k0:=hblk.cell 0;have k1:=hblk.cell 1;have k2:=hblk.cell 2;have f0:=hblk.frozen 0;have f1:=hblk.frozen 1;have f2:=hblk.frozen 2;have hlt:=hblk.lt;have FF:=Hd (FIN.out w4 A3 n3 c3 A4 n4 c4 (by rw [mul_one_pow];exact U3'.out) (by rw [mul_one_pow];exact U4.out) HB.out hblk);clear hblk
   simp at k0 k1 k2
   go_wp2
   exact bodyPost_ret (v:=.agg #[.bool neg,.slice A3 n3 c3,.slice A4 n4 c4]) (by simp [results,Tryz.results96,go_sem,k0,k1,k2]) rfl FF.out
theorem frac_any(neg:Bool)(A B:Option Addr)(n c m d K a b:Nat)(xs ys:List Nat)(exp:Int)(w:World)(hx:U32s w A n c xs)(hy:U32s w B m d ys)(hs1:n≤1073741824)(hs2:m≤1073741824)
  (ea:num xs=a)(eb:num ys=b)(hb:0<b)(he1:-1073741824≤exp)(he2:exp≤1073741824)
  (hka:a*2^exp.toNat<2^(32*K))(hkb:b*2^(-exp).toNat<2^(32*K))(hK:1≤K):
  Calls Tryz.prog 96 #[.bool neg,.slice A n c,.slice B m d,.int .i64 exp] w (NewRat w K (rv neg a b*2^exp)):=by
 rcases Nat.eq_zero_or_pos a with h | h
 ·subst h;rw [rv_zero,Rat.zero_mul]
  exact frac_zero neg A B n c m d K xs ys exp w hx hy (by omega) (by omega) ea hK
 ·exact frac_pos neg A B n c m d K a b xs ys exp w hx hy hs1 hs2 ea eb h hb he1 he2 hka hkb
theorem frac_plain(neg:Bool)(A B:Option Addr)(n c m d K a b:Nat)(w:World)(hx:U32s w A n c (digs a))(hy:U32s w B m d (digs b))(hb:0<b)(hka:a<2^(32*K))(hkb:b<2^(32*K))(hK:1≤K)(hK2:K≤1073741824):
  Calls Tryz.prog 96 #[.bool neg,.slice A n c,.slice B m d,.int .i64 0] w (NewRat w K (rv neg a b)):=by
 have h:=frac_any neg A B n c m d K a b _ _ 0 w hx hy (by have:=hx.len_le hka;omega) (by have:=hy.len_le hkb;omega) (num_digs _) (num_digs _) hb (by omega) (by omega) (by simpa using hka) (by simpa using hkb) hK;rw [show (2:Rat)^(0:Int)=1 from rfl,Rat.mul_one] at h
 exact h
end
section
open Go.RowKit
def rsg(x:Rat):Int:=if x=0 then 0 else if x<0 then -1 else 1
theorem rv_pos{p q:Nat}(hp:0<p)(hq:0<q):0<rv false p q:=by
 unfold rv;have h1:=cast_pos hp;have h2:=cast_pos hq;have h3:(0:Rat)<(q:Rat)⁻¹:=Rat.inv_pos.2 h2;rw [Rat.div_def]
 exact Rat.mul_pos h1 h3
theorem rv_true(p q:Nat):rv true p q=- rv false p q:=by
 unfold rv
 simp only [Rat.div_def,if_true,Bool.false_eq_true,if_false]
 grind
theorem rsg_rv{neg:Bool}{p q:Nat}(hq:0<q)(h0:p=0→neg=false):rsg (rv neg p q)=if p=0 then 0 else if neg then -1 else 1:=by
 rcases Nat.eq_zero_or_pos p with hp | hp
 ·subst hp;rw [rv_zero];simp [rsg]
 ·have h1:=rv_pos hp hq;have h2:=rv_true p q;unfold rsg
  cases neg
  ·rw [if_neg (by grind),if_neg (by grind),if_neg (by omega)];rfl
  ·rw [if_neg (by grind),if_pos (by grind),if_neg (by omega)];rfl
theorem rsign_any(K:Nat)(neg:Bool)(vn vd:Value)(x:Rat)(w:World)(h:RatV w K neg vn vd x)(hK:K≤1073741824):
  Calls Tryz.prog 42 #[.agg #[.bool neg,vn,vd]] w fun e w'=>e=.returned (.int .i64 (rsg x))∧Below w.heap.size w w':=by
 obtain⟨p,q,A,n,c,B,m,d,rfl,rfl,hu,-,hq,h0,hp,-,rfl⟩:=h;rw [rsg_rv hq h0]
 obtain⟨s,hs⟩:∃ s:Int,(if p=0 then 0 else if neg then -1 else 1)=s:=⟨_,rfl⟩
 have hs0:p=0→s=0:=by intro h;rw [if_pos h] at hs;exact hs.symm
 have hs1:p≠0→neg=true→s=-1:=by intro h h';rw [if_neg h,if_pos h'] at hs;exact hs.symm
 have hs2:p≠0→neg=false→s=1:=by intro h h';rw [if_neg h,h'] at hs;exact hs.symm
 rw [hs];clear hs;have hn:=hu.len_le hp;have ba:=below_alloc w (.cells #[.bool neg,.slice A n c,.slice B m d] 42);have HN:=Hd (norm_v A n c _ _ (hu.below ba) (by omega) (num_digs p));clear hp hu
 go_enter Tryz.func42,Tryz.ntmps42
 go_wp2_with fail;refine HN.out.mono ?_;rintro e w1 ⟨A1,n1,c1,rfl,hu1,hn1,hp1,hb1⟩;have hblk:=(Blk.new w 42 #[.bool neg,.slice A n c,.slice B m d]).keep hb1;have k0:=hblk.cell 0;have hlt:=hblk.lt
 have hz:n1=0↔p=0:=by
  have:=@digs_length_eq_zero p;rw [hu1.len] at this;exact this
 have HB:=Hd (ba.trans (hb1.mono ba.size));clear hblk hb1 hu1 hp1 HN ba
 simp at k0
 go_wp2
 ·obtain rfl:p=0:=by simp at *;omega
  go_ret
  exact⟨ret_int (hs0 rfl).symm,HB.out⟩
 ·have hp0:p≠0:=by simp at *;omega
  go_ret
  exact⟨ret_int (hs1 hp0 (by assumption)).symm,HB.out⟩
 ·have hp0:p≠0:=by simp at *;omega
  go_ret
  exact⟨ret_int (hs2 hp0 (by assumption)).symm,HB.out⟩
end
section
open Go.RowKit
theorem cell_below{W W':World}{a:Addr}{v:Value}(h:W.cell? a=some v)(hb:Below W.heap.size W W'):W'.cell? a=some v:=by
 have hlt:a.block<W.heap.size:=by
  unfold World.cell? at h
  split at h
  ·rename_i e
   exact (Array.getElem?_eq_some_iff.1 e).1
  ·cases h
 rw [World.cell?_of_block (w:=W)]
 ·exact h
 ·exact hb.block _ hlt
def cellOf(W:World)(a:Addr):Value:=(W.cell? a).getD (.bool false)
theorem cellOf_some{W:World}{a:Addr}{v:Value}(h:W.cell? a=some v):W.cell? a=some (cellOf W a):=by
 unfold cellOf;rw [h];rfl
theorem frozen_below{W W':World}{a:Addr}{v:Value}(h:W.cell? a=some v)(hf:W.frozen? a=false)(hb:Below W.heap.size W W'):W'.frozen? a=false:=by
 have hlt:a.block<W.heap.size:=by
  unfold World.cell? at h
  split at h
  ·rename_i e
   exact (Array.getElem?_eq_some_iff.1 e).1
  ·cases h
 rw [World.frozen?_of_block (w:=W)]
 ·exact hf
 ·exact hb.block _ hlt
theorem held3{w W W':World}{a0 a1 a2 r0 r1 r2:Addr}{v0 v1 v2:Value} (h:W.cell? a0=some v0∧W.cell? a1=some v1∧W.cell? a2=some v2∧W.cell? r0=some (cellOf W r0)∧W.cell? r1=some (cellOf W r1)∧W.cell? r2=some (cellOf W r2) ∧
   W.frozen? r0=false∧W.frozen? r1=false∧W.frozen? r2=false∧Below w.heap.size w W) (hb:Below W.heap.size W W') :
  W'.cell? a0=some v0∧W'.cell? a1=some v1∧W'.cell? a2=some v2∧W'.cell? r0=some (cellOf W' r0)∧W'.cell? r1=some (cellOf W' r1)∧W'.cell? r2=some (cellOf W' r2) ∧
   W'.frozen? r0=false∧W'.frozen? r1=false∧W'.frozen? r2=false∧Below w.heap.size w W':=by
 obtain⟨h0,h1,h2,h3,h4,h5,h6,h7,h8,h9⟩:=h
 exact⟨cell_below h0 hb,cell_below h1 hb,cell_below h2 hb,cellOf_some (cell_below h3 hb),cellOf_some (cell_below h4 hb),cellOf_some (cell_below h5 hb),
  frozen_below h3 h6 hb,frozen_below h4 h7 hb,frozen_below h5 h8 hb,h9.trans (hb.mono h9.size)⟩
theorem cell_other{W:World}{a b:Addr}{v:Value}(h:a≠b):(W.setCell a v).cell? b=W.cell? b:=World.cell?_setCell_other (h:=h) ..
theorem cell_same{W:World}{a:Addr}{v u:Value}(h:W.cell? a=some u):(W.setCell a v).cell? a=some v:=World.cell?_setCell_same (h:=h) ..
theorem set3_cells{W:World}{r:Nat}{u0 u1 u2:Value}(h0:W.cell? ⟨r,0,none⟩=some u0)(h1:W.cell? ⟨r,1,none⟩=some u1)(h2:W.cell? ⟨r,2,none⟩=some u2)(a b d:Value):
  (((W.setCell ⟨r,0,none⟩ a).setCell ⟨r,1,none⟩ b).setCell ⟨r,2,none⟩ d).cell? ⟨r,0,none⟩=some a∧(((W.setCell ⟨r,0,none⟩ a).setCell ⟨r,1,none⟩ b).setCell ⟨r,2,none⟩ d).cell? ⟨r,1,none⟩=some b ∧
   (((W.setCell ⟨r,0,none⟩ a).setCell ⟨r,1,none⟩ b).setCell ⟨r,2,none⟩ d).cell? ⟨r,2,none⟩=some d:=by
 have n01:(⟨r,0,none⟩:Addr)≠⟨r,1,none⟩:=by intro h;injection h;omega
 have n02:(⟨r,0,none⟩:Addr)≠⟨r,2,none⟩:=by intro h;injection h;omega
 have n12:(⟨r,1,none⟩:Addr)≠⟨r,2,none⟩:=by intro h;injection h;omega
 refine⟨?_,?_,?_⟩
 ·rw [cell_other n02.symm,cell_other n01.symm,cell_same h0]
 ·rw [cell_other n12.symm,cell_same (u:=u1)];rw [cell_other n01];exact h1
 ·rw [cell_same (u:=u2)];rw [cell_other n12,cell_other n02];exact h2
theorem held3_set{w W:World}{g r:Nat}{v0 v1 v2:Value}(hgr:g≠r)(hr:w.heap.size≤r)
  (h:W.cell? ⟨g,0,none⟩=some v0∧W.cell? ⟨g,1,none⟩=some v1∧W.cell? ⟨g,2,none⟩=some v2∧W.cell? ⟨r,0,none⟩=some (cellOf W ⟨r,0,none⟩)∧W.cell? ⟨r,1,none⟩=some (cellOf W ⟨r,1,none⟩)∧W.cell? ⟨r,2,none⟩=some (cellOf W ⟨r,2,none⟩) ∧
    W.frozen? ⟨r,0,none⟩=false∧W.frozen? ⟨r,1,none⟩=false∧W.frozen? ⟨r,2,none⟩=false∧Below w.heap.size w W) (a b d:Value) :
  ∀ W',W'=(((W.setCell ⟨r,0,none⟩ a).setCell ⟨r,1,none⟩ b).setCell ⟨r,2,none⟩ d) →
  W'.cell? ⟨g,0,none⟩=some v0∧W'.cell? ⟨g,1,none⟩=some v1∧W'.cell? ⟨g,2,none⟩=some v2∧W'.cell? ⟨r,0,none⟩=some (cellOf W' ⟨r,0,none⟩)∧W'.cell? ⟨r,1,none⟩=some (cellOf W' ⟨r,1,none⟩)∧W'.cell? ⟨r,2,none⟩=some (cellOf W' ⟨r,2,none⟩) ∧
   W'.frozen? ⟨r,0,none⟩=false∧W'.frozen? ⟨r,1,none⟩=false∧W'.frozen? ⟨r,2,none⟩=false∧Below w.heap.size w W':=by
 obtain⟨h0,h1,h2,h3,h4,h5,h6,h7,h8,h9⟩:=h;rintro W' rfl;obtain⟨s0,s1,s2⟩:=set3_cells h3 h4 h5 a b d
 have e:∀ (i j:Nat),(⟨r,j,none⟩:Addr)≠⟨g,i,none⟩:=by intro i j h;injection h;omega
 have far:∀ i,(((W.setCell ⟨r,0,none⟩ a).setCell ⟨r,1,none⟩ b).setCell ⟨r,2,none⟩ d).cell? ⟨g,i,none⟩=W.cell? ⟨g,i,none⟩:=by
  intro i;rw [cell_other (e i 2),cell_other (e i 1),cell_other (e i 0)]
 refine⟨(far 0).trans h0,(far 1).trans h1,(far 2).trans h2,cellOf_some s0,cellOf_some s1,cellOf_some s2,?_,?_,?_,below_set3 h9 hr a b d⟩<;>simp only [World.frozen?_setCell]<;>assumption
theorem Blk.new2(w:World)(o:Obj)(t:TypeId)(cs:Array Value):Blk ((w.alloc o).alloc (.cells cs t)) (w.heap.size+1) t cs:=by
 have h:=Blk.new (w.alloc o) t cs;rw [show (w.alloc o).heap.size=w.heap.size+1 from by simp] at h
 exact h
theorem below_two(w:World)(a b:Obj):Below w.heap.size w (((w.alloc a).alloc b).drew):=((below_alloc w a).alloc (by simp) b).drew
theorem rneg_false(K:Nat)(vn vd:Value)(x:Rat)(w:World)(h:RatV w K false vn vd x)(hK:K≤1073741824):
  Calls Tryz.prog 47 #[.agg #[.bool false,vn,vd]] w (NewRat w K (-x)):=by
 obtain⟨p,q,A,n,c,B,m,d,rfl,rfl,hu,hv,hq,h0,hp,hq2,rfl⟩:=h;have hn:=hu.len_le hp;have hm:=hv.len_le hq2;have HU:=Hd hu;have HV:=Hd hv
 have hz:n=0↔p=0:=by
  have:=@digs_length_eq_zero p;rw [hu.len] at this;exact this
 have HP:=Hd hp;have HQ:=Hd hq2;have H0:=Hd h0;have HZ:=Hd hz;clear hp hq2 hu hv h0 hz
 have HN:∀ (W:World) (A:Option Addr) (n c v:Nat),Below w.heap.size w W→U32s w A n c (digs v)→n≤K→Calls Tryz.prog 93 #[.slice A n c] W fun e w'=>∃ A1 n1 c1,e=.returned (.slice A1 n1 c1)∧U32s w' A1 n1 c1 (digs v)∧Below W.heap.size W w'∧Below w.heap.size w w':=fun W A n c v hW hu hn=>
  (norm_v A n c _ W (hu.below hW) (by omega) (num_digs v)).mono (by
   rintro e w' ⟨A1,n1,c1,h1,h2,h3,h4,h5⟩
   exact⟨A1,n1,c1,h1,h2,h5,hW.trans (h5.mono hW.size)⟩)
 have H:=Hd HN;clear HN
 go_enter Tryz.func47,Tryz.ntmps47
 go_wp2_with fail
 go_region_held3 (fun w'=>w'.cell? ⟨w.heap.size,0,none⟩=some (.bool false)∧w'.cell? ⟨w.heap.size,1,none⟩=some (.slice A n c)∧w'.cell? ⟨w.heap.size,2,none⟩=some (.slice B m d) ∧
   w'.cell? ⟨w.heap.size+1,0,none⟩=some (cellOf w' ⟨w.heap.size+1,0,none⟩)∧w'.cell? ⟨w.heap.size+1,1,none⟩=some (cellOf w' ⟨w.heap.size+1,1,none⟩)∧w'.cell? ⟨w.heap.size+1,2,none⟩=some (cellOf w' ⟨w.heap.size+1,2,none⟩) ∧
   w'.frozen? ⟨w.heap.size+1,0,none⟩=false∧w'.frozen? ⟨w.heap.size+1,1,none⟩=false∧w'.frozen? ⟨w.heap.size+1,2,none⟩=false∧Below w.heap.size w w')
  (first | (exact held3_set (by omega) (by omega) (by assumption) _ _ _ _ rfl) | (exact held3 (by assumption) hb1) | (refine⟨?_,?_,?_,?_,?_,?_,?_,?_,?_,?_⟩<;>first | exact below_two _ _ _ | (simp [cellOf];done) | (go_keep;done) | (trace_state;fail)))
  (first | (go_at_call 93;refine (H.out _ _ _ _ ?_ ?_ ?_ ?_).mono ?_;rotate_left;(first | exact below_two _ _ _ | assumption);(first | exact HU.out | exact HV.out);(assumption);rintro e w1 ⟨A1,n1,c1,rfl,hu1,hb1,hbw⟩))
 rename_i wa Aa na ca hua hba hbwa hHeld;have hblk:=(((Blk.new2 w (.cells #[.bool false,.slice A n c,.slice B m d] 42) 42 #[.bool false,.slice none 0 0,.slice none 0 0]).drewN 1).keep hba).keep hb1
 have z1:p=0→decide (0<n)=false:=by
  intro h;have:=HZ.out.2 h;subst this;rfl
 have z2:-rv false p q=rv (decide (0<n)) p q:=by
  rcases Nat.eq_zero_or_pos n with h | h
  ·rw [HZ.out.1 h,rv_zero,rv_zero];rfl
  ·rw [decide_eq_true h,rv_true]
 have hNR:NewRat w K (-rv false p q) (.returned (.agg #[.bool (decide (0<n)),.slice Aa na ca,.slice A1 n1 c1])) _:=
  RatV.ret (g:=w.heap.size+1) ⟨p,q,Aa,na,ca,A1,n1,c1,rfl,rfl,hua.below hb1,hu1,hq,z1,HP.out,HQ.out,z2⟩ hbw hblk NoWd.zero (by omega)
 have k:=set3_cells (hblk.cell 0) (hblk.cell 1) (hblk.cell 2) (.bool (decide (0<n))) (.slice Aa na ca) (.slice A1 n1 c1);have HNR:=Hd hNR;obtain⟨k0,k1,k2⟩:=k;clear hHeld hNR hblk z1 z2 hba hbwa hua hu1 hb1 hbw;go_wp2
 exact bodyPost_ret (v:=.agg #[.bool (decide (0<n)),.slice Aa na ca,.slice A1 n1 c1]) (by simp [results,Tryz.results47,go_sem,k0,k1,k2]) rfl HNR.out
end
section
open Go.RowKit
def sets(W:World)(r:Nat):Nat→List Value→World
 | _,[]=>W
 | i,v :: vs=>sets (W.setCell ⟨r,i,none⟩ v) r (i+1) vs
theorem below_sets{w0:World}{B r:Nat}(hr:B≤r):∀ (vs:List Value) (i:Nat) (W:World),Below B w0 W→Below B w0 (sets W r i vs)
 | [],_,_,h=>h
 | v :: vs,i,_,h=>below_sets hr vs (i+1) _ (h.setCell (p:=⟨r,i,none⟩) hr v)
theorem heap_sets{r k:Nat}(h:k≠r):∀ (vs:List Value) (i:Nat) (W:World),(sets W r i vs).heap[k]?=W.heap[k]?
 | [],_,_=>rfl
 | v :: vs,i,W=>by
  show (sets (W.setCell ⟨r,i,none⟩ v) r (i+1) vs).heap[k]?=_
  rw [heap_sets h vs (i+1)]
  exact Below.heap_setCell W ⟨r,i,none⟩ v k h
theorem size_sets{r:Nat}:∀ (vs:List Value) (i:Nat) (W:World),(sets W r i vs).heap.size=W.heap.size
 | [],_,_=>rfl
 | v :: vs,i,W=>by
  show (sets (W.setCell ⟨r,i,none⟩ v) r (i+1) vs).heap.size=_
  rw [size_sets vs (i+1)]
  simp [World.setCell]
theorem Blk.set{W:World}{g:Nat}{t:TypeId}{cs:Array Value}(h:Blk W g t cs)(i:Nat)(v:Value):Blk (W.setCell ⟨g,i,none⟩ v) g t (cs.setIfInBounds i v):=by
 unfold Blk World.setCell at *
 simp only [Array.getElem?_modify,if_true,h]
 rfl
def laid(cs:Array Value):Nat→List Value→Array Value
 | _,[]=>cs
 | i,v :: vs=>laid (cs.setIfInBounds i v) (i+1) vs
theorem Blk.sets{g:Nat}{t:TypeId}:∀ (vs:List Value) (i:Nat) (W:World) (cs:Array Value),Blk W g t cs→Blk (sets W g i vs) g t (laid cs i vs)
 | [],_,_,_,h=>h
 | v :: vs,i,_,_,h=>Blk.sets vs (i+1) _ _ (h.set i v)
theorem laid_size:∀ (vs:List Value) (i:Nat) (cs:Array Value),(laid cs i vs).size=cs.size
 | [],_,_=>rfl
 | v :: vs,i,cs=>by
  show (laid (cs.setIfInBounds i v) (i+1) vs).size=_
  rw [laid_size vs (i+1)];simp
theorem laid_lt:∀ (vs:List Value) (i j:Nat) (cs:Array Value),j<i→(laid cs i vs)[j]?=cs[j]?
 | [],_,_,_,_=>rfl
 | v :: vs,i,j,cs,h=>by
  show (laid (cs.setIfInBounds i v) (i+1) vs)[j]?=_
  rw [laid_lt vs (i+1) j _ (by omega),Array.getElem?_setIfInBounds];rw [if_neg (by omega)]
theorem laid_get:∀ (vs:List Value) (i j:Nat) (cs:Array Value),j<vs.length→i+vs.length≤cs.size→(laid cs i vs)[i+j]?=vs[j]?
 | [],_,_,_,h,_=>by simp at h
 | v :: vs,i,0,cs,_,h=>by
  show (laid (cs.setIfInBounds i v) (i+1) vs)[i+0]?=_
  simp only [List.length_cons] at h
  rw [laid_lt vs (i+1) (i+0) _ (by omega),Array.getElem?_setIfInBounds,Nat.add_zero,if_pos rfl,if_pos (by omega)]
  rfl
 | v :: vs,i,j+1,cs,h,h'=>by
  show (laid (cs.setIfInBounds i v) (i+1) vs)[i+(j+1)]?=_
  simp only [List.length_cons] at h h'
  rw [show i+(j+1)=(i+1)+j from by omega,laid_get vs (i+1) j _ (by omega) (by simp;omega)]
  rfl
theorem sets_cell{W:World}{g:Nat}{t:TypeId}{cs:Array Value}(h:Blk W g t cs)(vs:List Value)(j:Nat)(hj:j<vs.length)(hs:vs.length≤cs.size):
  (sets W g 0 vs).cell? ⟨g,j,none⟩=vs[j]?:=by
 rw [(h.sets vs 0 W cs).cell j];have:=laid_get vs 0 j cs hj (by omega);rw [Nat.zero_add] at this
 exact this
def notWd:Value→Bool
 | .int .u32 _=>false
 | _=>true
theorem NoWd.of{cs:Array Value}(h:cs.all notWd=true):NoWd cs:=by
 intro i x hi;obtain⟨hlt,he⟩:=Array.getElem?_eq_some_iff.1 hi;have:=Array.all_eq_true.1 h i hlt;rw [he] at this
 cases this
theorem U32s.sets{W:World}{A:Option Addr}{n c g:Nat}{t:TypeId}{cs:Array Value}{xs:List Nat}(h:U32s W A n c xs)(hb:Blk W g t cs)(hc:NoWd cs)(i:Nat)(vs:List Value):U32s (sets W g i vs) A n c xs:=
 h.keep (by rw [size_sets];exact Nat.le_refl _) fun ad e hn=>heap_sets (hb.apart hc h ad e hn) vs i W
theorem RatV.sets{W:World}{K:Nat}{neg:Bool}{vn vd:Value}{x:Rat}{g:Nat}{t:TypeId}{cs:Array Value}(h:RatV W K neg vn vd x)(hb:Blk W g t cs)(hc:NoWd cs)(i:Nat)(vs:List Value):RatV (sets W g i vs) K neg vn vd x:=by
 obtain⟨p,q,A,n,c,B,m,d,rfl,rfl,h3,h4,h5⟩:=h
 exact⟨p,q,A,n,c,B,m,d,rfl,rfl,h3.sets hb hc i vs,h4.sets hb hc i vs,h5⟩
theorem Blk.at{W:World}{g:Nat}(h:W.heap.size=g)(t:TypeId)(cs:Array Value):Blk (W.alloc (.cells cs t)) g t cs:=by
 subst h;exact Blk.new W t cs
def HasBlk(W:World)(r:Nat)(t:TypeId)(n:Nat):Prop:=∃ cs,Blk W r t cs∧cs.size=n∧NoWd cs
theorem HasBlk.keep{W W':World}{r:Nat}{t:TypeId}{n:Nat}(h:HasBlk W r t n)(hb:Below W.heap.size W W'):HasBlk W' r t n:=by
 obtain⟨cs,h1,h2,h3⟩:=h
 exact⟨cs,h1.keep hb,h2,h3⟩
theorem HasBlk.of{W:World}{r:Nat}{t:TypeId}{cs:Array Value}{n:Nat}(h:Blk W r t cs)(hs:cs.size=n)(hc:cs.toList.all notWd=true):HasBlk W r t n:=⟨cs,h,hs,NoWd.of (by rw [← Array.all_toList];exact hc)⟩
theorem Blk.someCell{W:World}{g:Nat}{t:TypeId}{cs:Array Value}(h:Blk W g t cs){j:Nat}(hj:j<cs.size):W.cell? ⟨g,j,none⟩=some (cellOf W ⟨g,j,none⟩):=by
 have h1:=h.cell j;rw [Array.getElem?_eq_getElem hj] at h1
 exact cellOf_some h1
theorem laid_all(vs:List Value)(cs:Array Value)(h:vs.length=cs.size):laid cs 0 vs=vs.toArray:=by
 apply Array.ext_getElem?
 intro j
 rcases Nat.lt_or_ge j vs.length with hj | hj
 ·have:=laid_get vs 0 j cs hj (by omega);rw [Nat.zero_add] at this;rw [this];simp
 ·rw [Array.getElem?_eq_none (by rw [laid_size];omega)]
  simp [hj]
theorem HasBlk.sets{W:World}{r:Nat}{t:TypeId}{n:Nat}(h:HasBlk W r t n)(vs:List Value)(hl:vs.length=n)(hv:vs.all notWd=true):HasBlk (sets W r 0 vs) r t n:=by
 obtain⟨cs,h1,h2,-⟩:=h;have:=h1.sets vs 0 W cs;rw [laid_all vs cs (by omega)] at this
 exact .of this (by simp [hl]) (by simpa using hv)
theorem Blk.other{W:World}{g r:Nat}{t:TypeId}{cs:Array Value}(h:Blk W g t cs)(hg:g≠r)(i:Nat)(vs:List Value):Blk (Proofs.YthlmlmfebpjgdaaGreatDoor.sets W r i vs) g t cs:=(heap_sets hg vs i W).trans h
theorem HasBlk.laid{W:World}{r:Nat}{t:TypeId}{n:Nat}(h:HasBlk W r t n)(vs:List Value)(hl:vs.length=n):Blk (Proofs.YthlmlmfebpjgdaaGreatDoor.sets W r 0 vs) r t vs.toArray:=by
 obtain⟨cs,h1,h2,-⟩:=h;have:=h1.sets vs 0 W cs
 rwa [laid_all vs cs (by omega)] at this
theorem HasBlk.lt{W:World}{r:Nat}{t:TypeId}{n:Nat}(h:HasBlk W r t n):r<W.heap.size:=by
 obtain⟨cs,h1,-⟩:=h
 exact h1.lt
theorem HasBlk.rat{W:World}{K:Nat}{neg:Bool}{vn vd:Value}{x:Rat}{r:Nat}{t:TypeId}{n:Nat}(h:HasBlk W r t n)(hr:RatV W K neg vn vd x)(vs:List Value):RatV (Proofs.YthlmlmfebpjgdaaGreatDoor.sets W r 0 vs) K neg vn vd x:=by
 obtain⟨cs,h1,-,h2⟩:=h
 exact hr.sets h1 h2 0 vs
theorem HasBlk.someCell{W:World}{r:Nat}{t:TypeId}{n:Nat}(h:HasBlk W r t n)(j:Nat)(hj:j<n):W.cell? ⟨r,j,none⟩=some (cellOf W ⟨r,j,none⟩):=by
 obtain⟨cs,h1,h2,-⟩:=h
 exact h1.someCell (by omega)
theorem HasBlk.frozen{W:World}{r:Nat}{t:TypeId}{n:Nat}(h:HasBlk W r t n)(j:Nat):W.frozen? ⟨r,j,none⟩=false:=by
 obtain⟨cs,h1,h2,-⟩:=h
 exact h1.frozen j
theorem HasBlk.setCell{W:World}{r:Nat}{t:TypeId}{n:Nat}(h:HasBlk W r t n)(vs:List Value)(hl:vs.length=n)(j:Nat)(hj:j<n):(Proofs.YthlmlmfebpjgdaaGreatDoor.sets W r 0 vs).cell? ⟨r,j,none⟩=vs[j]?:=by
 obtain⟨cs,h1,h2,-⟩:=h
 exact sets_cell h1 vs j (by omega) (by omega)
theorem HasBlk.drew{W:World}{r:Nat}{t:TypeId}{n:Nat}(h:HasBlk W r t n):HasBlk W.drew r t n:=h
theorem Blk.drew{W:World}{g:Nat}{t:TypeId}{cs:Array Value}(h:Blk W g t cs):Blk W.drew g t cs:=h
theorem HasBlk.alloc{W:World}{r:Nat}{t:TypeId}{n:Nat}(h:HasBlk W r t n)(o:Obj):HasBlk (W.alloc o) r t n:=by
 obtain⟨cs,h1,h2⟩:=h
 exact⟨cs,h1.alloc o,h2⟩
theorem HasBlk.other{W:World}{g r:Nat}{t:TypeId}{n:Nat}(h:HasBlk W g t n)(hg:g≠r)(i:Nat)(vs:List Value):HasBlk (Proofs.YthlmlmfebpjgdaaGreatDoor.sets W r i vs) g t n:=by
 obtain⟨cs,h1,h2⟩:=h
 exact⟨cs,h1.other hg i vs,h2⟩
theorem RatV.far{W:World}{K:Nat}{neg:Bool}{vn vd:Value}{x:Rat}{g:Nat}{t:TypeId}{cs:Array Value}(h:RatV W K neg vn vd x)(hb:Blk W g t cs)(hc:cs.toList.all notWd=true)(i:Nat)(v:Value):RatV (W.setCell ⟨g,i,none⟩ v) K neg vn vd x:=
 h.sets hb (NoWd.of (by rw [← Array.all_toList];exact hc)) i [v]
end
section
open Go.RowKit
section
variable {P:Program} {ops:Array Oper} {Q:Exit→Act→World→Prop} {md:Region.Mode} {S:World→Prop} {fuel:Nat} {listed:Array Bool} {a:Act} {w:World}
theorem tk(i:Nat){oi:Oper}{v:Value}(h:wpAnyH P md ops Q S fuel (listed.setIfInBounds i true) (a.put oi.dst v) w)(hi:ops[i]?=some oi:=by rfl)(hs:Region.noSelect ops=true:=by kernel_rfl)(hf:Region.free md ops listed i=true:=by kernel_rfl)(hr:(Region.ready md ops listed).contains i=true:=by kernel_rfl)
  (hQ:∀ c a w,Q (.panic c) (a.put oi.dst v) w→Q (.panic c) a w:=by exact fun _ _ _ h=>h)(hw:Region.wanted oi (yielded ops a.tmps)=true:=by rfl)(hv:∀ w,S w→(execOp a.eval oi).run P w=.ok (.value v) w:=by intro W2 hSw;go_simp;(try with_reducible rfl))(hS:S w:=by assumption):wpAnyH P md ops Q S (fuel+1) listed a w:=
 wpAnyH_take hi hs hf hr hQ (Or.inl ⟨hw,hv⟩) hS h
theorem tkn(i:Nat){oi:Oper}(h:wpAnyH P md ops Q S fuel (listed.setIfInBounds i true) (a.put oi.dst undef) w)(hi:ops[i]?=some oi:=by rfl)(hs:Region.noSelect ops=true:=by kernel_rfl)(hf:Region.free md ops listed i=true:=by kernel_rfl)(hr:(Region.ready md ops listed).contains i=true:=by kernel_rfl)
  (hQ:∀ c a w,Q (.panic c) (a.put oi.dst undef) w→Q (.panic c) a w:=by exact fun _ _ _ h=>h)(hw:Region.wanted oi (yielded ops a.tmps)=false:=by rfl)(hS:S w:=by assumption):wpAnyH P md ops Q S (fuel+1) listed a w:=
 wpAnyH_take hi hs hf hr hQ (Or.inr ⟨hw,rfl⟩) hS h
theorem rdy(i:Nat){o:Oper}(h:∀ K':Act→World→Prop,Shut (∀ a w,S w→(S w→wpAnyH P md ops Q S fuel (listed.setIfInBounds i true) a w)→K' a w)→if Region.wanted o (yielded ops a.tmps)=true then Oper.wp P o a w K' Q else K' (a.put o.dst undef) w)
  (hr:Region.ready md ops listed=[i]:=by kernel_rfl)(ho:ops[i]?=some o:=by rfl):wpAnyH P md ops Q S (fuel+1) listed a w:=
 wpAnyH_ready hr (by simp) (AllReadyH.cons ho h AllReadyH.nil)
end
theorem lay:(∀ (α:Type) (l:List α) (i:Nat) (h:i<l.toArray.size),l.toArray[i]=l[i]'(by simpa using h))∧(∀ (α:Type) (a:α) (l:List α) (i:Nat) (h:i+1<(a :: l).length),(a :: l)[i+1]=l[i]'(by simpa using h)) ∧
  (∀ (α:Type) (a:α) (l:List α) (h:0<(a :: l).length),(a :: l)[0]=a)∧(∀ (α:Type) (l:List α) (i:Nat) (a:α),l.toArray.setIfInBounds i a=(l.set i a).toArray)∧(∀ (α:Type) (a b:α) (l:List α),(a :: l).set 0 b=b :: l)∧(∀ (α:Type) (a b:α) (l:List α) (n:Nat),(a :: l).set (n+1) b=a :: l.set n b):=
 ⟨fun _ _ _ _=>by simp,fun _ _ _ _ _=>rfl,fun _ _ _ _=>rfl,fun _ _ _ _=>by simp,fun _ _ _ _=>rfl,fun _ _ _ _ _=>rfl⟩
section
variable {w0 W W':World} {g:Nat} {t:TypeId} {cs:Array Value} {B n:Nat}
theorem stB(h:Hid (Below B w0 W))(hb:Below W.heap.size W W')(hs:B≤W.heap.size:=by exact Below.size (Hid.out (by assumption))):Hid (Below B w0 W'):=Hd (h.out.trans (hb.mono hs))
theorem stG(h:Hid (Blk W g t cs))(hb:Below W.heap.size W W'):Hid (Blk W' g t cs):=Hd (h.out.keep hb)
theorem stR(h:Hid (HasBlk W g t n))(hb:Below W.heap.size W W'):Hid (HasBlk W' g t n):=Hd (h.out.keep hb)
theorem Blk.ce(h:Blk W g t cs)(i:Nat){v:Value}(hv:cs[i]?=some v):W.cell? ⟨g,i,none⟩=some v:=(h.cell i).trans hv
theorem Blk.c2{v0 v1:Value}(h:Blk W g t #[v0,v1]):W.cell? ⟨g,0,none⟩=some v0∧W.cell? ⟨g,1,none⟩=some v1:=⟨h.cell 0,h.cell 1⟩
theorem Blk.c3{v0 v1 v2:Value}(h:Blk W g t #[v0,v1,v2]):W.cell? ⟨g,0,none⟩=some v0∧W.cell? ⟨g,1,none⟩=some v1∧W.cell? ⟨g,2,none⟩=some v2:=⟨h.cell 0,h.cell 1,h.cell 2⟩
theorem Blk.c4{v0 v1 v2 v3:Value}(h:Blk W g t #[v0,v1,v2,v3]):W.cell? ⟨g,0,none⟩=some v0∧W.cell? ⟨g,1,none⟩=some v1∧W.cell? ⟨g,2,none⟩=some v2∧W.cell? ⟨g,3,none⟩=some v3:=⟨h.cell 0,h.cell 1,h.cell 2,h.cell 3⟩
theorem Blk.c6{v0 v1 v2 v3 v4 v5:Value}(h:Blk W g t #[v0,v1,v2,v3,v4,v5]):W.cell? ⟨g,0,none⟩=some v0∧W.cell? ⟨g,1,none⟩=some v1∧W.cell? ⟨g,2,none⟩=some v2∧W.cell? ⟨g,3,none⟩=some v3∧W.cell? ⟨g,4,none⟩=some v4∧W.cell? ⟨g,5,none⟩=some v5:=⟨h.cell 0,h.cell 1,h.cell 2,h.cell 3,h.cell 4,h.cell 5⟩
theorem Blk.c9{v0 v1 v2 v3 v4 v5 v6 v7 v8:Value}(h:Blk W g t #[v0,v1,v2,v3,v4,v5,v6,v7,v8]):W.cell? ⟨g,0,none⟩=some v0∧W.cell? ⟨g,1,none⟩=some v1∧W.cell? ⟨g,2,none⟩=some v2∧W.cell? ⟨g,3,none⟩=some v3∧W.cell? ⟨g,4,none⟩=some v4∧W.cell? ⟨g,5,none⟩=some v5∧W.cell? ⟨g,6,none⟩=some v6∧W.cell? ⟨g,7,none⟩=some v7∧W.cell? ⟨g,8,none⟩=some v8:=⟨h.cell 0,h.cell 1,h.cell 2,h.cell 3,h.cell 4,h.cell 5,h.cell 6,h.cell 7,h.cell 8⟩
theorem Blk.c13{v0 v1 v2 v3 v4 v5 v6 v7 v8 v9 v10 v11 v12:Value}(h:Blk W g t #[v0,v1,v2,v3,v4,v5,v6,v7,v8,v9,v10,v11,v12]):W.cell? ⟨g,0,none⟩=some v0∧W.cell? ⟨g,1,none⟩=some v1∧W.cell? ⟨g,2,none⟩=some v2∧W.cell? ⟨g,3,none⟩=some v3∧W.cell? ⟨g,4,none⟩=some v4∧W.cell? ⟨g,5,none⟩=some v5∧W.cell? ⟨g,6,none⟩=some v6∧W.cell? ⟨g,7,none⟩=some v7∧W.cell? ⟨g,8,none⟩=some v8∧W.cell? ⟨g,9,none⟩=some v9∧W.cell? ⟨g,10,none⟩=some v10∧W.cell? ⟨g,11,none⟩=some v11∧W.cell? ⟨g,12,none⟩=some v12:=⟨h.cell 0,h.cell 1,h.cell 2,h.cell 3,h.cell 4,h.cell 5,h.cell 6,h.cell 7,h.cell 8,h.cell 9,h.cell 10,h.cell 11,h.cell 12⟩
theorem HasBlk.sf2(h:HasBlk W g t 2):W.cell? ⟨g,0,none⟩=some (cellOf W ⟨g,0,none⟩)∧W.frozen? ⟨g,0,none⟩=false∧W.cell? ⟨g,1,none⟩=some (cellOf W ⟨g,1,none⟩)∧W.frozen? ⟨g,1,none⟩=false:=⟨h.someCell 0 (by decide),h.frozen 0,h.someCell 1 (by decide),h.frozen 1⟩
theorem HasBlk.sf3(h:HasBlk W g t 3):W.cell? ⟨g,0,none⟩=some (cellOf W ⟨g,0,none⟩)∧W.frozen? ⟨g,0,none⟩=false∧W.cell? ⟨g,1,none⟩=some (cellOf W ⟨g,1,none⟩)∧W.frozen? ⟨g,1,none⟩=false∧W.cell? ⟨g,2,none⟩=some (cellOf W ⟨g,2,none⟩)∧W.frozen? ⟨g,2,none⟩=false:=⟨h.someCell 0 (by decide),h.frozen 0,h.someCell 1 (by decide),h.frozen 1,h.someCell 2 (by decide),h.frozen 2⟩
theorem HasBlk.sf4(h:HasBlk W g t 4):W.cell? ⟨g,0,none⟩=some (cellOf W ⟨g,0,none⟩)∧W.frozen? ⟨g,0,none⟩=false∧W.cell? ⟨g,1,none⟩=some (cellOf W ⟨g,1,none⟩)∧W.frozen? ⟨g,1,none⟩=false∧W.cell? ⟨g,2,none⟩=some (cellOf W ⟨g,2,none⟩)∧W.frozen? ⟨g,2,none⟩=false∧W.cell? ⟨g,3,none⟩=some (cellOf W ⟨g,3,none⟩)∧W.frozen? ⟨g,3,none⟩=false:=⟨h.someCell 0 (by decide),h.frozen 0,h.someCell 1 (by decide),h.frozen 1,h.someCell 2 (by decide),h.frozen 2,h.someCell 3 (by decide),h.frozen 3⟩
theorem HasBlk.sf6(h:HasBlk W g t 6):W.cell? ⟨g,0,none⟩=some (cellOf W ⟨g,0,none⟩)∧W.frozen? ⟨g,0,none⟩=false∧W.cell? ⟨g,1,none⟩=some (cellOf W ⟨g,1,none⟩)∧W.frozen? ⟨g,1,none⟩=false∧W.cell? ⟨g,2,none⟩=some (cellOf W ⟨g,2,none⟩)∧W.frozen? ⟨g,2,none⟩=false∧W.cell? ⟨g,3,none⟩=some (cellOf W ⟨g,3,none⟩)∧W.frozen? ⟨g,3,none⟩=false∧W.cell? ⟨g,4,none⟩=some (cellOf W ⟨g,4,none⟩)∧W.frozen? ⟨g,4,none⟩=false∧W.cell? ⟨g,5,none⟩=some (cellOf W ⟨g,5,none⟩)∧W.frozen? ⟨g,5,none⟩=false:=⟨h.someCell 0 (by decide),h.frozen 0,h.someCell 1 (by decide),h.frozen 1,h.someCell 2 (by decide),h.frozen 2,h.someCell 3 (by decide),h.frozen 3,h.someCell 4 (by decide),h.frozen 4,h.someCell 5 (by decide),h.frozen 5⟩
theorem HasBlk.sf9(h:HasBlk W g t 9):W.cell? ⟨g,0,none⟩=some (cellOf W ⟨g,0,none⟩)∧W.frozen? ⟨g,0,none⟩=false∧W.cell? ⟨g,1,none⟩=some (cellOf W ⟨g,1,none⟩)∧W.frozen? ⟨g,1,none⟩=false∧W.cell? ⟨g,2,none⟩=some (cellOf W ⟨g,2,none⟩)∧W.frozen? ⟨g,2,none⟩=false∧W.cell? ⟨g,3,none⟩=some (cellOf W ⟨g,3,none⟩)∧W.frozen? ⟨g,3,none⟩=false∧W.cell? ⟨g,4,none⟩=some (cellOf W ⟨g,4,none⟩)∧W.frozen? ⟨g,4,none⟩=false∧W.cell? ⟨g,5,none⟩=some (cellOf W ⟨g,5,none⟩)∧W.frozen? ⟨g,5,none⟩=false∧W.cell? ⟨g,6,none⟩=some (cellOf W ⟨g,6,none⟩)∧W.frozen? ⟨g,6,none⟩=false∧W.cell? ⟨g,7,none⟩=some (cellOf W ⟨g,7,none⟩)∧W.frozen? ⟨g,7,none⟩=false∧W.cell? ⟨g,8,none⟩=some (cellOf W ⟨g,8,none⟩)∧W.frozen? ⟨g,8,none⟩=false:=⟨h.someCell 0 (by decide),h.frozen 0,h.someCell 1 (by decide),h.frozen 1,h.someCell 2 (by decide),h.frozen 2,h.someCell 3 (by decide),h.frozen 3,h.someCell 4 (by decide),h.frozen 4,h.someCell 5 (by decide),h.frozen 5,h.someCell 6 (by decide),h.frozen 6,h.someCell 7 (by decide),h.frozen 7,h.someCell 8 (by decide),h.frozen 8⟩
theorem HasBlk.sf13(h:HasBlk W g t 13):W.cell? ⟨g,0,none⟩=some (cellOf W ⟨g,0,none⟩)∧W.frozen? ⟨g,0,none⟩=false∧W.cell? ⟨g,1,none⟩=some (cellOf W ⟨g,1,none⟩)∧W.frozen? ⟨g,1,none⟩=false∧W.cell? ⟨g,2,none⟩=some (cellOf W ⟨g,2,none⟩)∧W.frozen? ⟨g,2,none⟩=false∧W.cell? ⟨g,3,none⟩=some (cellOf W ⟨g,3,none⟩)∧W.frozen? ⟨g,3,none⟩=false∧W.cell? ⟨g,4,none⟩=some (cellOf W ⟨g,4,none⟩)∧W.frozen? ⟨g,4,none⟩=false∧W.cell? ⟨g,5,none⟩=some (cellOf W ⟨g,5,none⟩)∧W.frozen? ⟨g,5,none⟩=false∧W.cell? ⟨g,6,none⟩=some (cellOf W ⟨g,6,none⟩)∧W.frozen? ⟨g,6,none⟩=false∧W.cell? ⟨g,7,none⟩=some (cellOf W ⟨g,7,none⟩)∧W.frozen? ⟨g,7,none⟩=false∧W.cell? ⟨g,8,none⟩=some (cellOf W ⟨g,8,none⟩)∧W.frozen? ⟨g,8,none⟩=false∧W.cell? ⟨g,9,none⟩=some (cellOf W ⟨g,9,none⟩)∧W.frozen? ⟨g,9,none⟩=false∧W.cell? ⟨g,10,none⟩=some (cellOf W ⟨g,10,none⟩)∧W.frozen? ⟨g,10,none⟩=false∧W.cell? ⟨g,11,none⟩=some (cellOf W ⟨g,11,none⟩)∧W.frozen? ⟨g,11,none⟩=false∧W.cell? ⟨g,12,none⟩=some (cellOf W ⟨g,12,none⟩)∧W.frozen? ⟨g,12,none⟩=false:=⟨h.someCell 0 (by decide),h.frozen 0,h.someCell 1 (by decide),h.frozen 1,h.someCell 2 (by decide),h.frozen 2,h.someCell 3 (by decide),h.frozen 3,h.someCell 4 (by decide),h.frozen 4,h.someCell 5 (by decide),h.frozen 5,h.someCell 6 (by decide),h.frozen 6,h.someCell 7 (by decide),h.frozen 7,h.someCell 8 (by decide),h.frozen 8,h.someCell 9 (by decide),h.frozen 9,h.someCell 10 (by decide),h.frozen 10,h.someCell 11 (by decide),h.frozen 11,h.someCell 12 (by decide),h.frozen 12⟩
theorem HasBlk.sc2(h:HasBlk W g t 2)(v0 v1:Value):(Proofs.YthlmlmfebpjgdaaGreatDoor.sets W g 0 [v0,v1]).cell? ⟨g,0,none⟩=some v0∧(Proofs.YthlmlmfebpjgdaaGreatDoor.sets W g 0 [v0,v1]).cell? ⟨g,1,none⟩=some v1:=⟨h.setCell _ rfl 0 (by decide),h.setCell _ rfl 1 (by decide)⟩
theorem HasBlk.sc3(h:HasBlk W g t 3)(v0 v1 v2:Value):(Proofs.YthlmlmfebpjgdaaGreatDoor.sets W g 0 [v0,v1,v2]).cell? ⟨g,0,none⟩=some v0∧(Proofs.YthlmlmfebpjgdaaGreatDoor.sets W g 0 [v0,v1,v2]).cell? ⟨g,1,none⟩=some v1∧(Proofs.YthlmlmfebpjgdaaGreatDoor.sets W g 0 [v0,v1,v2]).cell? ⟨g,2,none⟩=some v2:=⟨h.setCell _ rfl 0 (by decide),h.setCell _ rfl 1 (by decide),h.setCell _ rfl 2 (by decide)⟩
theorem HasBlk.sc4(h:HasBlk W g t 4)(v0 v1 v2 v3:Value):(Proofs.YthlmlmfebpjgdaaGreatDoor.sets W g 0 [v0,v1,v2,v3]).cell? ⟨g,0,none⟩=some v0∧(Proofs.YthlmlmfebpjgdaaGreatDoor.sets W g 0 [v0,v1,v2,v3]).cell? ⟨g,1,none⟩=some v1∧(Proofs.YthlmlmfebpjgdaaGreatDoor.sets W g 0 [v0,v1,v2,v3]).cell? ⟨g,2,none⟩=some v2∧(Proofs.YthlmlmfebpjgdaaGreatDoor.sets W g 0 [v0,v1,v2,v3]).cell? ⟨g,3,none⟩=some v3:=⟨h.setCell _ rfl 0 (by decide),h.setCell _ rfl 1 (by decide),h.setCell _ rfl 2 (by decide),h.setCell _ rfl 3 (by decide)⟩
theorem HasBlk.sc6(h:HasBlk W g t 6)(v0 v1 v2 v3 v4 v5:Value):(Proofs.YthlmlmfebpjgdaaGreatDoor.sets W g 0 [v0,v1,v2,v3,v4,v5]).cell? ⟨g,0,none⟩=some v0∧(Proofs.YthlmlmfebpjgdaaGreatDoor.sets W g 0 [v0,v1,v2,v3,v4,v5]).cell? ⟨g,1,none⟩=some v1∧(Proofs.YthlmlmfebpjgdaaGreatDoor.sets W g 0 [v0,v1,v2,v3,v4,v5]).cell? ⟨g,2,none⟩=some v2∧(Proofs.YthlmlmfebpjgdaaGreatDoor.sets W g 0 [v0,v1,v2,v3,v4,v5]).cell? ⟨g,3,none⟩=some v3∧(Proofs.YthlmlmfebpjgdaaGreatDoor.sets W g 0 [v0,v1,v2,v3,v4,v5]).cell? ⟨g,4,none⟩=some v4∧(Proofs.YthlmlmfebpjgdaaGreatDoor.sets W g 0 [v0,v1,v2,v3,v4,v5]).cell? ⟨g,5,none⟩=some v5:=⟨h.setCell _ rfl 0 (by decide),h.setCell _ rfl 1 (by decide),h.setCell _ rfl 2 (by decide),h.setCell _ rfl 3 (by decide),h.setCell _ rfl 4 (by decide),h.setCell _ rfl 5 (by decide)⟩
theorem HasBlk.sc9(h:HasBlk W g t 9)(v0 v1 v2 v3 v4 v5 v6 v7 v8:Value):(Proofs.YthlmlmfebpjgdaaGreatDoor.sets W g 0 [v0,v1,v2,v3,v4,v5,v6,v7,v8]).cell? ⟨g,0,none⟩=some v0∧(Proofs.YthlmlmfebpjgdaaGreatDoor.sets W g 0 [v0,v1,v2,v3,v4,v5,v6,v7,v8]).cell? ⟨g,1,none⟩=some v1∧(Proofs.YthlmlmfebpjgdaaGreatDoor.sets W g 0 [v0,v1,v2,v3,v4,v5,v6,v7,v8]).cell? ⟨g,2,none⟩=some v2∧(Proofs.YthlmlmfebpjgdaaGreatDoor.sets W g 0 [v0,v1,v2,v3,v4,v5,v6,v7,v8]).cell? ⟨g,3,none⟩=some v3∧(Proofs.YthlmlmfebpjgdaaGreatDoor.sets W g 0 [v0,v1,v2,v3,v4,v5,v6,v7,v8]).cell? ⟨g,4,none⟩=some v4∧(Proofs.YthlmlmfebpjgdaaGreatDoor.sets W g 0 [v0,v1,v2,v3,v4,v5,v6,v7,v8]).cell? ⟨g,5,none⟩=some v5∧(Proofs.YthlmlmfebpjgdaaGreatDoor.sets W g 0 [v0,v1,v2,v3,v4,v5,v6,v7,v8]).cell? ⟨g,6,none⟩=some v6∧(Proofs.YthlmlmfebpjgdaaGreatDoor.sets W g 0 [v0,v1,v2,v3,v4,v5,v6,v7,v8]).cell? ⟨g,7,none⟩=some v7∧(Proofs.YthlmlmfebpjgdaaGreatDoor.sets W g 0 [v0,v1,v2,v3,v4,v5,v6,v7,v8]).cell? ⟨g,8,none⟩=some v8:=⟨h.setCell _ rfl 0 (by decide),h.setCell _ rfl 1 (by decide),h.setCell _ rfl 2 (by decide),h.setCell _ rfl 3 (by decide),h.setCell _ rfl 4 (by decide),h.setCell _ rfl 5 (by decide),h.setCell _ rfl 6 (by decide),h.setCell _ rfl 7 (by decide),h.setCell _ rfl 8 (by decide)⟩
theorem HasBlk.sc13(h:HasBlk W g t 13)(v0 v1 v2 v3 v4 v5 v6 v7 v8 v9 v10 v11 v12:Value):(Proofs.YthlmlmfebpjgdaaGreatDoor.sets W g 0 [v0,v1,v2,v3,v4,v5,v6,v7,v8,v9,v10,v11,v12]).cell? ⟨g,0,none⟩=some v0∧(Proofs.YthlmlmfebpjgdaaGreatDoor.sets W g 0 [v0,v1,v2,v3,v4,v5,v6,v7,v8,v9,v10,v11,v12]).cell? ⟨g,1,none⟩=some v1∧(Proofs.YthlmlmfebpjgdaaGreatDoor.sets W g 0 [v0,v1,v2,v3,v4,v5,v6,v7,v8,v9,v10,v11,v12]).cell? ⟨g,2,none⟩=some v2∧(Proofs.YthlmlmfebpjgdaaGreatDoor.sets W g 0 [v0,v1,v2,v3,v4,v5,v6,v7,v8,v9,v10,v11,v12]).cell? ⟨g,3,none⟩=some v3∧(Proofs.YthlmlmfebpjgdaaGreatDoor.sets W g 0 [v0,v1,v2,v3,v4,v5,v6,v7,v8,v9,v10,v11,v12]).cell? ⟨g,4,none⟩=some v4∧(Proofs.YthlmlmfebpjgdaaGreatDoor.sets W g 0 [v0,v1,v2,v3,v4,v5,v6,v7,v8,v9,v10,v11,v12]).cell? ⟨g,5,none⟩=some v5∧(Proofs.YthlmlmfebpjgdaaGreatDoor.sets W g 0 [v0,v1,v2,v3,v4,v5,v6,v7,v8,v9,v10,v11,v12]).cell? ⟨g,6,none⟩=some v6∧(Proofs.YthlmlmfebpjgdaaGreatDoor.sets W g 0 [v0,v1,v2,v3,v4,v5,v6,v7,v8,v9,v10,v11,v12]).cell? ⟨g,7,none⟩=some v7∧(Proofs.YthlmlmfebpjgdaaGreatDoor.sets W g 0 [v0,v1,v2,v3,v4,v5,v6,v7,v8,v9,v10,v11,v12]).cell? ⟨g,8,none⟩=some v8∧(Proofs.YthlmlmfebpjgdaaGreatDoor.sets W g 0 [v0,v1,v2,v3,v4,v5,v6,v7,v8,v9,v10,v11,v12]).cell? ⟨g,9,none⟩=some v9∧(Proofs.YthlmlmfebpjgdaaGreatDoor.sets W g 0 [v0,v1,v2,v3,v4,v5,v6,v7,v8,v9,v10,v11,v12]).cell? ⟨g,10,none⟩=some v10∧(Proofs.YthlmlmfebpjgdaaGreatDoor.sets W g 0 [v0,v1,v2,v3,v4,v5,v6,v7,v8,v9,v10,v11,v12]).cell? ⟨g,11,none⟩=some v11∧(Proofs.YthlmlmfebpjgdaaGreatDoor.sets W g 0 [v0,v1,v2,v3,v4,v5,v6,v7,v8,v9,v10,v11,v12]).cell? ⟨g,12,none⟩=some v12:=⟨h.setCell _ rfl 0 (by decide),h.setCell _ rfl 1 (by decide),h.setCell _ rfl 2 (by decide),h.setCell _ rfl 3 (by decide),h.setCell _ rfl 4 (by decide),h.setCell _ rfl 5 (by decide),h.setCell _ rfl 6 (by decide),h.setCell _ rfl 7 (by decide),h.setCell _ rfl 8 (by decide),h.setCell _ rfl 9 (by decide),h.setCell _ rfl 10 (by decide),h.setCell _ rfl 11 (by decide),h.setCell _ rfl 12 (by decide)⟩
end
theorem bx1(w:World)(c0:Array Value)(t0:TypeId):Hid (Below w.heap.size w (w.alloc (.cells c0 t0)))∧Hid (Blk (w.alloc (.cells c0 t0)) w.heap.size t0 c0):=⟨Hd (below_alloc w _),Hd (Blk.at (W:=w) (g:=w.heap.size) (by simp<;>omega) t0 c0)⟩
theorem bx2(w:World)(c0:Array Value)(t0:TypeId)(c1:Array Value)(t1:TypeId):Hid (Below w.heap.size w ((w.alloc (.cells c0 t0)).alloc (.cells c1 t1)))∧Hid (Blk ((w.alloc (.cells c0 t0)).alloc (.cells c1 t1)) w.heap.size t0 c0)∧Hid (Blk ((w.alloc (.cells c0 t0)).alloc (.cells c1 t1)) (w.heap.size+1) t1 c1):=⟨Hd ((below_alloc w _).alloc (by simp<;>omega) _),Hd ((Blk.at (W:=w) (g:=w.heap.size) (by simp<;>omega) t0 c0).alloc _),Hd (Blk.at (W:=(w.alloc (.cells c0 t0))) (g:=(w.heap.size+1)) (by simp<;>omega) t1 c1)⟩
theorem bx3(w:World)(c0:Array Value)(t0:TypeId)(c1:Array Value)(t1:TypeId)(c2:Array Value)(t2:TypeId):Hid (Below w.heap.size w (((w.alloc (.cells c0 t0)).alloc (.cells c1 t1)).alloc (.cells c2 t2)))∧Hid (Blk (((w.alloc (.cells c0 t0)).alloc (.cells c1 t1)).alloc (.cells c2 t2)) w.heap.size t0 c0)∧Hid (Blk (((w.alloc (.cells c0 t0)).alloc (.cells c1 t1)).alloc (.cells c2 t2)) (w.heap.size+1) t1 c1)∧Hid (Blk (((w.alloc (.cells c0 t0)).alloc (.cells c1 t1)).alloc (.cells c2 t2)) (w.heap.size+2) t2 c2):=⟨Hd (((below_alloc w _).alloc (by simp<;>omega) _).alloc (by simp<;>omega) _),Hd (((Blk.at (W:=w) (g:=w.heap.size) (by simp<;>omega) t0 c0).alloc _).alloc _),Hd ((Blk.at (W:=(w.alloc (.cells c0 t0))) (g:=(w.heap.size+1)) (by simp<;>omega) t1 c1).alloc _),Hd (Blk.at (W:=((w.alloc (.cells c0 t0)).alloc (.cells c1 t1))) (g:=(w.heap.size+2)) (by simp<;>omega) t2 c2)⟩
theorem bx4(w:World)(c0:Array Value)(t0:TypeId)(c1:Array Value)(t1:TypeId)(c2:Array Value)(t2:TypeId)(c3:Array Value)(t3:TypeId):Hid (Below w.heap.size w ((((w.alloc (.cells c0 t0)).alloc (.cells c1 t1)).alloc (.cells c2 t2)).alloc (.cells c3 t3)))∧Hid (Blk ((((w.alloc (.cells c0 t0)).alloc (.cells c1 t1)).alloc (.cells c2 t2)).alloc (.cells c3 t3)) w.heap.size t0 c0)∧Hid (Blk ((((w.alloc (.cells c0 t0)).alloc (.cells c1 t1)).alloc (.cells c2 t2)).alloc (.cells c3 t3)) (w.heap.size+1) t1 c1)∧Hid (Blk ((((w.alloc (.cells c0 t0)).alloc (.cells c1 t1)).alloc (.cells c2 t2)).alloc (.cells c3 t3)) (w.heap.size+2) t2 c2)∧Hid (Blk ((((w.alloc (.cells c0 t0)).alloc (.cells c1 t1)).alloc (.cells c2 t2)).alloc (.cells c3 t3)) (w.heap.size+3) t3 c3):=⟨Hd ((((below_alloc w _).alloc (by simp<;>omega) _).alloc (by simp<;>omega) _).alloc (by simp<;>omega) _),Hd ((((Blk.at (W:=w) (g:=w.heap.size) (by simp<;>omega) t0 c0).alloc _).alloc _).alloc _),Hd (((Blk.at (W:=(w.alloc (.cells c0 t0))) (g:=(w.heap.size+1)) (by simp<;>omega) t1 c1).alloc _).alloc _),Hd ((Blk.at (W:=((w.alloc (.cells c0 t0)).alloc (.cells c1 t1))) (g:=(w.heap.size+2)) (by simp<;>omega) t2 c2).alloc _),Hd (Blk.at (W:=(((w.alloc (.cells c0 t0)).alloc (.cells c1 t1)).alloc (.cells c2 t2))) (g:=(w.heap.size+3)) (by simp<;>omega) t3 c3)⟩
end
end Go.Proofs.YthlmlmfebpjgdaaGreatDoor
