/-
Walks: package vergeref2, Minus.
Plain: lengths and values of signed naturals; cells that are no words beside words.
Walks: package vergeref2, RAdd.
The blocks that a walk holds, in one fact; a region's steps in whatever order.
Walks: package vergeref2, RFloor.
-/
import Derived.Test.YtfcpabgampebaaaGreatM07
import Derived.Test.YtfcpabgampebaaaGreatM03
import Derived.Test.YtfcpabgampebaaaGreatM01
import Derived.Test.YtfcpabgampebaaaGreatM05
import Derived.Test.YtfcpabgampebaaaGreatM06
import Derived.Deep.CutRange
import Derived.Test.YtfcpabgampebaaaGreatM04
import Derived.Deep.DeepCutAuto
set_option linter.unusedSimpArgs false
set_option linter.unusedVariables false
set_option maxHeartbeats 12800000
namespace Go.Proofs.YtfcpabgampebaaaGreat
open Go.RowKit
theorem nminus_any(A B:Option Addr)(n c m d:Nat)(xs ys:List Nat)(w:World)(hx:U32s w A n c xs)(hy:U32s w B m d ys)(hs1:n≤34359738360)(hle:num ys≤num xs):
  Calls Tryz.prog 108 #[.slice A n c,.slice B m d] w (NewU32 w (digs (num xs - num ys))):=by
 have HX:=Hd hx;have HY:=Hd hy;have HLE:=Hd hle;clear hx hy hle
 go_enter Tryz.func108,Tryz.ntmps108
 go_wp2
 go_loopw [5,6,7] (fun v cv iv wr=>∃ (i k:Nat) (ls:List Nat),iv=.int .i64 i∧cv=.int .u64 k∧i≤n∧MinusInv xs ys ls i k∧Own wr w.heap.size v ls∧Below w.heap.size w wr) (fun _ _ iv _=>n - (intOf iv).toNat)
 case atStart=>exact⟨0,0,[],rfl,rfl,Nat.zero_le _,MinusInv.start _ _,Own.nil _ _,Below.refl _ _⟩
 case round=>
  obtain⟨i,k,ls,rfl,rfl,hi,hinv,hown,hb⟩:=hrel;have hk1:=hinv.carry;have hlen:=hinv.len;have HI:=Hd hinv;have HO:=Hd hown;clear hinv hown;have hbs:=hb.size;have HL:=Hd hlen;clear hlen
  by_cases ha:i<n
  ·obtain⟨ad,e,hc⟩:=(HX.out.below hb).cell (j:=i) ha
   cases e
   have hx1:=HX.out.lt i;have hst:=fun d c'=>HI.out.step (d:=d) (c':=c')
   obtain⟨x,hxx⟩:∃ r,xs[i]?.getD 0=r:=⟨_,rfl⟩
   rw [hxx] at hc hx1
   simp only [hxx] at hst
   clear hxx
   by_cases hbb:i<m
   ·obtain⟨ad',e,hc'⟩:=(HY.out.below hb).cell (j:=i) hbb
    cases e
    have hy1:=HY.out.lt i
    obtain⟨y,hyy⟩:∃ r,ys[i]?.getD 0=r:=⟨_,rfl⟩
    rw [hyy] at hc' hy1
    simp only [hyy] at hst
    clear hyy
    by_cases hxy:x<k+y
    ·obtain⟨D,hD⟩:∃ D:Nat,D+(k+y)=x+4294967296:=⟨x+4294967296 - (k+y),by omega⟩
     have hlt:(x:Int)<(k:Int)+(y:Int):=by omega
     have e1:(x:Int)+4294967296 - ((k:Int)+(y:Int))=(D:Int):=by omega
     have hD1:D<4294967296:=by omega
     have HS:=Hd (hst D 1 hD1 (by omega) (by omega));clear hst hD hxy
     go_wp2_with (at_builtin;refine wpList_append_u32 _ rfl _ _ rfl w.heap.size _ ls rfl (HO.out.alloc _) ⟨_,0,none⟩ 1 D rfl ?c1al ?c2al ?c3al ?_)
     try case c1al=>simp
     case c2al=>rw [HL.out];omega
     case c3al=>first | omega | (simp;omega)
     intro v' w' hown' hgrow;have HO':=Hd hown';have hb':Below w.heap.size w w':=(hb.alloc hbs _).grown hgrow (by simp;omega) (fun g hg=>(HO.out.lt g hg).1);clear hown' hb hgrow hc hc' hbs hlt e1;go_wp2
     go_roundw
     case rel=>exact⟨i+1,1,_,by go_num,by go_num,by omega,HS.out,HO'.out,hb'⟩
     case measure=>simp [intOf];omega
    ·obtain⟨D,hD⟩:∃ D:Nat,D+(k+y)=x:=⟨x - (k+y),by omega⟩
     have hlt:¬ (x:Int)<(k:Int)+(y:Int):=by omega
     have e1:(x:Int) - ((k:Int)+(y:Int))=(D:Int):=by omega
     have hD1:D<4294967296:=by omega
     have HS:=Hd (hst D 0 hD1 (by omega) (by omega));clear hst hD hxy
     go_wp2_with (at_builtin;refine wpList_append_u32 _ rfl _ _ rfl w.heap.size _ ls rfl (HO.out.alloc _) ⟨_,0,none⟩ 1 D rfl ?c1ag ?c2ag ?c3ag ?_)
     try case c1ag=>simp
     case c2ag=>rw [HL.out];omega
     case c3ag=>first | omega | (simp;omega)
     intro v' w' hown' hgrow;have HO':=Hd hown';have hb':Below w.heap.size w w':=(hb.alloc hbs _).grown hgrow (by simp;omega) (fun g hg=>(HO.out.lt g hg).1);clear hown' hb hgrow hc hc' hbs hlt e1;go_wp2
     go_roundw
     case rel=>exact⟨i+1,0,_,by go_num,by go_num,by omega,HS.out,HO'.out,hb'⟩
     case measure=>simp [intOf];omega
   ·have hz:ys[i]?.getD 0=0:=by rw [List.getElem?_eq_none (by rw [HY.out.len];omega)];rfl
    simp only [hz] at hst
    clear hz
    by_cases hxy:x<k
    ·obtain⟨D,hD⟩:∃ D:Nat,D+(k)=x+4294967296:=⟨x+4294967296 - (k),by omega⟩
     have hlt:(x:Int)<(k:Int):=by omega
     have e1:(x:Int)+4294967296 - ((k:Int))=(D:Int):=by omega
     have hD1:D<4294967296:=by omega
     have HS:=Hd (hst D 1 hD1 (by omega) (by omega));clear hst hD hxy
     go_wp2_with (at_builtin;refine wpList_append_u32 _ rfl _ _ rfl w.heap.size _ ls rfl (HO.out.alloc _) ⟨_,0,none⟩ 1 D rfl ?c1bl ?c2bl ?c3bl ?_)
     try case c1bl=>simp
     case c2bl=>rw [HL.out];omega
     case c3bl=>first | omega | (simp;omega)
     intro v' w' hown' hgrow;have HO':=Hd hown';have hb':Below w.heap.size w w':=(hb.alloc hbs _).grown hgrow (by simp;omega) (fun g hg=>(HO.out.lt g hg).1);clear hown' hb hgrow hc hbs hlt e1;go_wp2
     go_roundw
     case rel=>exact⟨i+1,1,_,by go_num,by go_num,by omega,HS.out,HO'.out,hb'⟩
     case measure=>simp [intOf];omega
    ·obtain⟨D,hD⟩:∃ D:Nat,D+(k)=x:=⟨x - (k),by omega⟩
     have hlt:¬ (x:Int)<(k:Int):=by omega
     have e1:(x:Int) - ((k:Int))=(D:Int):=by omega
     have hD1:D<4294967296:=by omega
     have HS:=Hd (hst D 0 hD1 (by omega) (by omega));clear hst hD hxy
     go_wp2_with (at_builtin;refine wpList_append_u32 _ rfl _ _ rfl w.heap.size _ ls rfl (HO.out.alloc _) ⟨_,0,none⟩ 1 D rfl ?c1bg ?c2bg ?c3bg ?_)
     try case c1bg=>simp
     case c2bg=>rw [HL.out];omega
     case c3bg=>first | omega | (simp;omega)
     intro v' w' hown' hgrow;have HO':=Hd hown';have hb':Below w.heap.size w w':=(hb.alloc hbs _).grown hgrow (by simp;omega) (fun g hg=>(HO.out.lt g hg).1);clear hown' hb hgrow hc hbs hlt e1;go_wp2
     go_roundw
     case rel=>exact⟨i+1,0,_,by go_num,by go_num,by omega,HS.out,HO'.out,hb'⟩
     case measure=>simp [intOf];omega
  ·have hW:=HI.out.1;have hD:=HI.out.done (by rw [HX.out.len];omega) HX.out.w32 HY.out.w32 HLE.out;obtain⟨A',c',rfl⟩:=HO.out.form;have hu:=HO.out.u32s rfl hW (by rw [HL.out];omega);have hnorm:=norm_any _ _ _ _ _ hu (by rw [HL.out];omega);rw [trim_eq_digs hW,hD] at hnorm;have HN:=Hd hnorm;have HB:=Hd hb;clear hnorm hu hW hD hb hbs HI HO;go_wp2_with fail;refine HN.out.mono ?_;rintro e w'' ⟨A2,n2,c2,rfl,hu2,hb2⟩;have H2:=Hd (show NewU32 w (digs (num xs - num ys)) (.returned (.slice A2 n2 c2)) w'' from NewU32.trans ⟨A2,n2,c2,rfl,hu2,hb2⟩ HB.out);clear hu2 hb2 HB;go_wp2
   go_ret
   exact H2.out
theorem digs_len_pos{S:Nat}(h:0<S){n:Nat}(hl:(digs S).length=n):0<n:=by
 rcases Nat.eq_zero_or_pos n with h0 | h0
 ·rw [h0,digs_length_eq_zero] at hl;omega
 ·exact h0
theorem U32s.carry{W:World}{g:Nat}{t:TypeId}{cs:Array Value}{A:Option Addr}{n c:Nat}{xs:List Nat}(h:U32s W A n c xs)(hb:Blk W g t cs)(hc:cs.toList.all notWd=true)(i:Nat)(v:Value):U32s (W.setCell ⟨g,i,none⟩ v) A n c xs:=
 h.sets hb (NoWd.of (by rw [← Array.all_toList];exact hc)) i [v]
theorem wlen_digs_le{S K:Nat}(h:blen S≤32*K):wlen (digs S)≤K:=by
 rw [wlen_digs];exact digs_length_le (blen_le_iff.1 h)
theorem blen_shl(S k:Nat)(h:0<S):blen (S*2^k)=blen S+k:=by
 have h1:=blen_high (hi:=S) (lo:=0) (k:=k) h (Nat.two_pow_pos k);rw [Nat.zero_add,Nat.mul_comm] at h1;rw [h1,Nat.add_comm]
def dsum(n1:Bool)(S1:Nat)(n2:Bool)(T2:Nat):Bool × Nat:=if n1=n2 then (n1,S1+T2) else if S1<T2 then (n2,T2 - S1) else (n1,S1 - T2)
theorem rv_int(n:Bool)(S:Nat):rv n S 1=((if n then -(S:Int) else (S:Int):Int):Rat):=by
 unfold rv
 cases n
 ·simp [Rat.div_def]
  rw [Rat.intCast_natCast];grind
 ·simp [Rat.div_def]
  rw [Rat.intCast_natCast];grind
theorem dsum_val(n1:Bool)(S1:Nat)(n2:Bool)(T2:Nat):rv (dsum n1 S1 n2 T2).1 (dsum n1 S1 n2 T2).2 1=rv n1 S1 1+rv n2 T2 1:=by
 rw [rv_int,rv_int,rv_int,← Rat.intCast_add]
 congr 1
 unfold dsum
 by_cases h:n1=n2
 ·subst h;rw [if_pos rfl]
  cases n1<;>simp<;>omega
 ·rw [if_neg h]
  by_cases hlt:S1<T2
  ·rw [if_pos hlt]
   cases n1<;>cases n2<;>simp at h ⊢<;>omega
  ·rw [if_neg hlt]
   cases n1<;>cases n2<;>simp at h ⊢<;>omega
theorem rv_shift(n:Bool)(S k:Nat)(a b:Int)(h:b=a+k):rv n (S*2^k) 1*2^a=rv n S 1*2^b:=by
 rw [h,zpow_add,zpow_nat,rv_int,rv_int]
 cases n
 ·simp only [Bool.false_eq_true,if_false]
  rw [Rat.intCast_natCast,Rat.intCast_natCast,Rat.natCast_mul];grind
 ·simp only [if_true]
  rw [Rat.intCast_neg,Rat.intCast_neg,Rat.intCast_natCast,Rat.intCast_natCast,Rat.natCast_mul];grind
theorem blen_mono{a b:Nat}(h:a≤b):blen a≤blen b:=blen_le_iff.2 (Nat.lt_of_le_of_lt h (lt_pow_blen b))
theorem dsum_blen(n1:Bool)(S1:Nat)(n2:Bool)(T2 P:Nat)(h1:blen S1≤P)(h2:blen T2≤P):blen (dsum n1 S1 n2 T2).2≤P+1:=by
 have a1:=blen_le_iff.1 h1;have a2:=blen_le_iff.1 h2;refine blen_le_iff.2 ?_;rw [Nat.pow_succ];unfold dsum
 split
 ·dsimp only;omega
 ·split<;>(dsimp only;omega)
theorem wlen_blen{S:Nat}(h:blen S≤524288):wlen (digs S)≤16384:=wlen_digs_le (K:=16384) (by omega)
theorem HasBlk.u32s{W:World}{r:Nat}{t:TypeId}{n0:Nat}{A:Option Addr}{n c:Nat}{xs:List Nat}(h:HasBlk W r t n0)(hu:U32s W A n c xs)(vs:List Value):U32s (Proofs.YtfcpabgampebaaaGreat.sets W r 0 vs) A n c xs:=by
 obtain⟨cs,h1,h2,h3⟩:=h
 exact hu.sets h1 h3 0 vs
theorem rv_over(n:Bool)(a D:Nat):rv n a D=rv n a 1*(D:Rat)⁻¹:=by
 unfold rv
 cases n<;>simp [Rat.div_def]<;>grind
theorem rv_add(n1:Bool)(p1 q1:Nat)(n2:Bool)(p2 q2:Nat)(h1:0<q1)(h2:0<q2):
  rv n1 p1 q1+rv n2 p2 q2=rv (dsum n1 (p1*q2) n2 (p2*q1)).1 (dsum n1 (p1*q2) n2 (p2*q1)).2 (q1*q2):=by
 have e1:rv n1 p1 q1=rv n1 (p1*q2) (q1*q2):=rv_eq h1 (Nat.mul_pos h1 h2) (by ac_rfl);have e2:rv n2 p2 q2=rv n2 (p2*q1) (q1*q2):=rv_eq h2 (Nat.mul_pos h1 h2) (by ac_rfl);rw [e1,e2,rv_over,rv_over n2,rv_over (dsum n1 (p1*q2) n2 (p2*q1)).1,dsum_val]
 grind
theorem times_v(A B:Option Addr)(n c m d a b:Nat)(w:World)(hx:U32s w A n c (digs a))(hy:U32s w B m d (digs b))(hs1:n≤8589934592)(hs2:m≤8589934592):
  Calls Tryz.prog 54 #[.slice A n c,.slice B m d] w (NewU32 w (digs (a*b))):=by
 have h:=times_any A B n c m d _ _ w hx hy hs1 hs2;rw [num_digs,num_digs] at h;exact h
theorem plus_v(A B:Option Addr)(n c m d a b:Nat)(w:World)(hx:U32s w A n c (digs a))(hy:U32s w B m d (digs b))(hs1:n≤8589934592)(hs2:m≤8589934592):
  Calls Tryz.prog 77 #[.slice A n c,.slice B m d] w (NewU32 w (digs (a+b))):=by
 have h:=plus_any A B n c m d _ _ w hx hy (by omega) (by omega);rw [num_digs,num_digs] at h;exact h
theorem minus_v(A B:Option Addr)(n c m d a b:Nat)(w:World)(hx:U32s w A n c (digs a))(hy:U32s w B m d (digs b))(hs1:n≤8589934592)(hle:b≤a):
  Calls Tryz.prog 108 #[.slice A n c,.slice B m d] w (NewU32 w (digs (a - b))):=by
 have h:=nminus_any A B n c m d _ _ w hx hy (by omega) (by rw [num_digs,num_digs];exact hle);rw [num_digs,num_digs] at h;exact h
theorem cmp_w(A B:Option Addr)(n c m d a b:Nat)(w:World)(hx:U32s w A n c (digs a))(hy:U32s w B m d (digs b)):
  Calls Tryz.prog 53 #[.slice A n c,.slice B m d] w fun e w'=>e=.returned (.int .i64 (cmp3 a b))∧Below w.heap.size w w':=by
 have h:=cmp_any A B n c m d _ _ w hx hy;rw [num_digs,num_digs] at h;refine h.mono ?_;rintro e w' ⟨rfl,k,rfl⟩
 exact⟨rfl,below_drewN (Below.refl _ _) k⟩
theorem radd_same(K:Nat)(g:Bool)(p1 q1 p2 q2:Nat)(A1:Option Addr)(n1 c1:Nat)(B1:Option Addr)(m1 d1:Nat)(A2:Option Addr)(n2 c2:Nat)(B2:Option Addr)(m2 d2:Nat)(w:World)(u1:U32s w A1 n1 c1 (digs p1))(v1:U32s w B1 m1 d1 (digs q1))(u2:U32s w A2 n2 c2 (digs p2))(v2:U32s w B2 m2 d2 (digs q2))(l1:n1≤8589934592)(l2:m1≤8589934592)(l3:n2≤8589934592)(l4:m2≤8589934592)(hq1:0<q1)(hq2:0<q2)(hk1:p1*q2<2^(32*K))(hk2:p2*q1<2^(32*K))(hk3:q1*q2<2^(32*K))(hk4:p1*q2+p2*q1<2^(32*K))(hK:1≤K)(hK2:K≤1073741824):
  Calls Tryz.prog 82 #[.agg #[.bool g,.slice A1 n1 c1,.slice B1 m1 d1],.agg #[.bool g,.slice A2 n2 c2,.slice B2 m2 d2]] w (NewRat w K (rv g (p1*q2+p2*q1) (q1*q2))):=by
 have T1:=Hd fun W (hW:Below w.heap.size w W)=>times_v A1 B2 n1 c1 m2 d2 p1 q2 W (u1.below hW) (v2.below hW) l1 l4;have T2:=Hd fun W (hW:Below w.heap.size w W)=>times_v A2 B1 n2 c2 m1 d1 p2 q1 W (u2.below hW) (v1.below hW) l3 l2;have T3:=Hd fun W (hW:Below w.heap.size w W)=>times_v B1 B2 m1 d1 m2 d2 q1 q2 W (v1.below hW) (v2.below hW) l2 l4;have HQ:=Hd (Nat.mul_pos hq1 hq2)
 obtain⟨X,eX⟩:∃ x,p1*q2=x:=⟨_,rfl⟩
 obtain⟨Y,eY⟩:∃ x,p2*q1=x:=⟨_,rfl⟩
 obtain⟨D,eD⟩:∃ x,q1*q2=x:=⟨_,rfl⟩
 rw [eX,eY] at hk4 ⊢;rw [eX] at T1 hk1;rw [eY] at T2 hk2;rw [eD] at T3 HQ hk3 ⊢;have T4:=Hd fun W (A:Option Addr) (n c:Nat) (B:Option Addr) (m d:Nat) (hx:U32s W A n c (digs X)) (hy:U32s W B m d (digs Y))=>plus_v A B n c m d X Y W hx hy (by have:=hx.len_le hk1;omega) (by have:=hy.len_le hk2;omega)
 obtain⟨Z,eZ⟩:∃ x,X+Y=x:=⟨_,rfl⟩
 rw [eZ] at T4 hk4 ⊢;have T5:=Hd fun W (A:Option Addr) (n c:Nat) (B:Option Addr) (m d:Nat) (hx:U32s W A n c (digs Z)) (hy:U32s W B m d (digs D))=>frac_plain g A B n c m d K Z D W hx hy HQ.out hk4 hk3 hK hK2;clear u1 v1 u2 v2 l1 l2 l3 l4 hq1 hq2 hk1 hk2 hk3 hk4 hK hK2 eX eY eD eZ HQ;obtain⟨LB0,LG0_0,LG1_0,LR⟩:=bx3 w #[.bool g,.slice A1 n1 c1,.slice B1 m1 d1] 41 #[.bool g,.slice A2 n2 c2,.slice B2 m2 d2] 41 #[.bool false,.slice none 0 0,.slice none 0 0] 41;have LR0:=Hd (HasBlk.of (n:=3) LR.out rfl rfl);clear LR
 go_enter Tryz.func82,Tryz.ntmps82
 go_wp2_with fail;refine (T1.out _ LB0.out).mono ?_;rintro e w1 ⟨AX,nX,cX,rfl,hX,hb1⟩;have LB1:=stB LB0 hb1 LB0.out.size;have LR1:=stR LR0 hb1;have LG0_1:=stG LG0_0 hb1;have LG1_1:=stG LG1_0 hb1;clear LB0 LR0 LG0_0 LG1_0;obtain⟨q0_0,q0_1,q0_2⟩:=LG0_1.out.c3;obtain⟨q1_0,q1_1,q1_2⟩:=LG1_1.out.c3;have HX1:=Hd hX;clear hX hb1 T1;go_wp2_with fail;refine (T2.out _ LB1.out).mono ?_;rintro e w2 ⟨AY,nY,cY,rfl,hY,hb2⟩;have LB2:=stB LB1 hb2 LB1.out.size;have LR2:=stR LR1 hb2;have LG0_2:=stG LG0_1 hb2;have LG1_2:=stG LG1_1 hb2;clear LB1 LR1 LG0_1 LG1_1;have HX2:=Hd (HX1.out.below hb2);have HY2:=Hd hY;clear hY hb2 HX1 T2 q0_0 q0_1 q0_2 q1_0 q1_1 q1_2;obtain⟨q0_0,q0_1,q0_2⟩:=LG0_2.out.c3;obtain⟨q1_0,q1_1,q1_2⟩:=LG1_2.out.c3;go_wp2_with fail;refine (T3.out _ LB2.out).mono ?_;rintro e w3 ⟨AD,nD,cD,rfl,hD,hb3⟩;have LB3:=stB LB2 hb3 LB2.out.size;have LR3:=stR LR2 hb3;have LG0_3:=stG LG0_2 hb3;have LG1_3:=stG LG1_2 hb3;clear LB2 LR2 LG0_2 LG1_2;have HX3:=Hd (HX2.out.below hb3);have HY3:=Hd (HY2.out.below hb3);have HD3:=Hd hD;clear hD hb3 HX2 HY2 T3 q0_0 q0_1 q0_2 q1_0 q1_1 q1_2;have q0_0:=LG0_3.out.ce 0 rfl;have q1_0:=LG1_3.out.ce 0 rfl;go_wp2_with fail;clear q0_0 q1_0;refine wp_region_held_drew (S:=fun W'=>Blk W' w.heap.size 41 #[.bool g,.slice A1 n1 c1,.slice B1 m1 d1]∧Blk W' (w.heap.size+1) 41 #[.bool g,.slice A2 n2 c2,.slice B2 m2 d2]∧HasBlk W' (w.heap.size+2) 41 3∧Below w.heap.size w W') (by kernel_rfl) (by exact⟨LG0_3.out.drew,LG1_3.out.drew,LR3.out.drew,LB3.out.drew⟩) (fun hHeld=>?_)
 refine tk 0 ?_;(try simp only [Act.put,lay]);refine tk 1 ?_ (hv:=by intro W2 hSw;obtain⟨q0,q1,q2⟩:=hSw.1.c3;go_simp;(try with_reducible rfl));(try simp only [Act.put,lay]);refine tk 2 ?_;(try simp only [Act.put,lay]);refine tk 3 ?_;(try simp only [Act.put,lay]);refine tk 5 ?_;(try simp only [Act.put,lay]);refine rdy 4 (fun KK hKK=>?_);go_simp;refine (T4.out _ _ _ _ _ _ _ HX3.out.drew HY3.out.drew).mono ?_;rintro e w6 ⟨AS,nS,cS,rfl,hS,hbA⟩;go_wp2_with fail;refine hKK.out _ _ (⟨hHeld.1.keep hbA,hHeld.2.1.keep hbA,hHeld.2.2.1.keep hbA,hHeld.2.2.2.trans (hbA.mono hHeld.2.2.2.size)⟩) (fun _=>?_);clear hKK KK hHeld;rename_i hHeld;(try simp only [Act.put,lay]);refine rdy 6 (fun KK hKK=>?_);go_simp;refine (T5.out _ _ _ _ _ _ _ hS (HD3.out.drew.below hbA)).mono ?_;rintro e w7 ⟨gz,vn,vd,rfl,hR,hbB⟩;obtain⟨AZ,nZ,cZ,BZ,mZ,dZ,rfl,rfl⟩:=hR.shape;go_wp2_with fail;refine hKK.out _ _ (⟨hHeld.1.keep hbB,hHeld.2.1.keep hbB,hHeld.2.2.1.keep hbB,hHeld.2.2.2.trans (hbB.mono hHeld.2.2.2.size)⟩) (fun _=>?_);clear hKK KK hHeld;rename_i hHeld;(try simp only [Act.put,lay]);refine rdy 7 (fun KK hKK=>?_);have ha0:=hHeld.2.2.1.someCell 0 (by decide);have hf0:=hHeld.2.2.1.frozen 0;have ha1:=hHeld.2.2.1.someCell 1 (by decide);have hf1:=hHeld.2.2.1.frozen 1;have ha2:=hHeld.2.2.1.someCell 2 (by decide);have hf2:=hHeld.2.2.1.frozen 2;have HK:=Hd (hHeld.2.2.1.setCell [.bool gz,.slice AZ nZ cZ,.slice BZ mZ dZ] rfl);have F:=Hd (below_sets (w0:=w) (r:=(w.heap.size+2)) (by omega) [.bool gz,.slice AZ nZ cZ,.slice BZ mZ dZ] 0 _ hHeld.2.2.2);have FR:=Hd (hHeld.2.2.1.rat hR [.bool gz,.slice AZ nZ cZ,.slice BZ mZ dZ])
 go_simp;refine hKK.out _ _ (⟨hHeld.1.other (by omega) 0 [.bool gz,.slice AZ nZ cZ,.slice BZ mZ dZ],hHeld.2.1.other (by omega) 0 [.bool gz,.slice AZ nZ cZ,.slice BZ mZ dZ],hHeld.2.2.1.sets [.bool gz,.slice AZ nZ cZ,.slice BZ mZ dZ] rfl rfl,below_sets (by omega) [.bool gz,.slice AZ nZ cZ,.slice BZ mZ dZ] 0 _ hHeld.2.2.2⟩) (fun _=>?_);clear hKK KK hHeld;rename_i hHeld;(try simp only [Act.put,lay]);refine wpAnyH_done (by kernel_rfl) ?_ _;have hk0:=HK.out 0 (by decide);have hk1:=HK.out 1 (by decide);have hk2:=HK.out 2 (by decide)
 simp [sets] at hk0 hk1 hk2
 clear hHeld HK hS hbA hR hbB;clear LB3 LR3 LG0_3 LG1_3;go_wp2;refine bodyPost_ret (v:=.agg #[.bool gz,.slice AZ nZ cZ,.slice BZ mZ dZ]) (by simp [results,Tryz.results82,go_sem,hk0,hk1,hk2]) rfl ?_
 exact⟨_,_,_,rfl,FR.out,F.out⟩
theorem radd_ge(K:Nat)(g h:Bool)(p1 q1 p2 q2:Nat)(A1:Option Addr)(n1 c1:Nat)(B1:Option Addr)(m1 d1:Nat)(A2:Option Addr)(n2 c2:Nat)(B2:Option Addr)(m2 d2:Nat)(w:World)(u1:U32s w A1 n1 c1 (digs p1))(v1:U32s w B1 m1 d1 (digs q1))(u2:U32s w A2 n2 c2 (digs p2))(v2:U32s w B2 m2 d2 (digs q2))(l1:n1≤8589934592)(l2:m1≤8589934592)(l3:n2≤8589934592)(l4:m2≤8589934592)(hgh:(g == h)=false)(hle:p2*q1≤p1*q2)(hq1:0<q1)(hq2:0<q2)(hk1:p1*q2<2^(32*K))(hk2:p2*q1<2^(32*K))(hk3:q1*q2<2^(32*K))(hk4:p1*q2 - p2*q1<2^(32*K))(hK:1≤K)(hK2:K≤1073741824):
  Calls Tryz.prog 82 #[.agg #[.bool g,.slice A1 n1 c1,.slice B1 m1 d1],.agg #[.bool h,.slice A2 n2 c2,.slice B2 m2 d2]] w (NewRat w K (rv g (p1*q2 - p2*q1) (q1*q2))):=by
 have T1:=Hd fun W (hW:Below w.heap.size w W)=>times_v A1 B2 n1 c1 m2 d2 p1 q2 W (u1.below hW) (v2.below hW) l1 l4;have T2:=Hd fun W (hW:Below w.heap.size w W)=>times_v A2 B1 n2 c2 m1 d1 p2 q1 W (u2.below hW) (v1.below hW) l3 l2;have T3:=Hd fun W (hW:Below w.heap.size w W)=>times_v B1 B2 m1 d1 m2 d2 q1 q2 W (v1.below hW) (v2.below hW) l2 l4;have HQ:=Hd (Nat.mul_pos hq1 hq2)
 obtain⟨X,eX⟩:∃ x,p1*q2=x:=⟨_,rfl⟩
 obtain⟨Y,eY⟩:∃ x,p2*q1=x:=⟨_,rfl⟩
 obtain⟨D,eD⟩:∃ x,q1*q2=x:=⟨_,rfl⟩
 rw [eX,eY] at hk4 ⊢;rw [eX,eY] at hle;rw [eX] at T1 hk1;rw [eY] at T2 hk2;rw [eD] at T3 HQ hk3 ⊢;have T4:=Hd fun W (A:Option Addr) (n c:Nat) (B:Option Addr) (m d:Nat) (hx:U32s W A n c (digs X)) (hy:U32s W B m d (digs Y))=>minus_v A B n c m d X Y W hx hy (by have:=hx.len_le hk1;omega) hle
 obtain⟨Z,eZ⟩:∃ x,X - Y=x:=⟨_,rfl⟩
 rw [eZ] at T4 hk4 ⊢;have T5:=Hd fun W (A:Option Addr) (n c:Nat) (B:Option Addr) (m d:Nat) (hx:U32s W A n c (digs Z)) (hy:U32s W B m d (digs D))=>frac_plain g A B n c m d K Z D W hx hy HQ.out hk4 hk3 hK hK2;have HC:=Hd fun W (A:Option Addr) (n c:Nat) (B:Option Addr) (m d:Nat) (hx:U32s W A n c (digs X)) (hy:U32s W B m d (digs Y))=>cmp_w A B n c m d X Y W hx hy
 obtain⟨cc,ecc⟩:∃ x,cmp3 X Y=x:=⟨_,rfl⟩
 have hcc:0≤cc:=by rw [← ecc];exact cmp3_nonneg.2 hle
 rw [ecc] at HC;clear u1 v1 u2 v2 l1 l2 l3 l4 hq1 hq2 hk1 hk2 hk3 hk4 hK hK2 eX eY eD eZ HQ hle ecc;obtain⟨LB0,LG0_0,LG1_0,LR⟩:=bx3 w #[.bool g,.slice A1 n1 c1,.slice B1 m1 d1] 41 #[.bool h,.slice A2 n2 c2,.slice B2 m2 d2] 41 #[.bool false,.slice none 0 0,.slice none 0 0] 41;have LR0:=Hd (HasBlk.of (n:=3) LR.out rfl rfl);clear LR
 go_enter Tryz.func82,Tryz.ntmps82
 go_wp2_with fail;refine (T1.out _ LB0.out).mono ?_;rintro e w1 ⟨AX,nX,cX,rfl,hX,hb1⟩;have LB1:=stB LB0 hb1 LB0.out.size;have LR1:=stR LR0 hb1;have LG0_1:=stG LG0_0 hb1;have LG1_1:=stG LG1_0 hb1;clear LB0 LR0 LG0_0 LG1_0;obtain⟨q0_0,q0_1,q0_2⟩:=LG0_1.out.c3;obtain⟨q1_0,q1_1,q1_2⟩:=LG1_1.out.c3;have HX1:=Hd hX;clear hX hb1 T1;go_wp2_with fail;refine (T2.out _ LB1.out).mono ?_;rintro e w2 ⟨AY,nY,cY,rfl,hY,hb2⟩;have LB2:=stB LB1 hb2 LB1.out.size;have LR2:=stR LR1 hb2;have LG0_2:=stG LG0_1 hb2;have LG1_2:=stG LG1_1 hb2;clear LB1 LR1 LG0_1 LG1_1;have HX2:=Hd (HX1.out.below hb2);have HY2:=Hd hY;clear hY hb2 HX1 T2 q0_0 q0_1 q0_2 q1_0 q1_1 q1_2;obtain⟨q0_0,q0_1,q0_2⟩:=LG0_2.out.c3;obtain⟨q1_0,q1_1,q1_2⟩:=LG1_2.out.c3;go_wp2_with fail;refine (T3.out _ LB2.out).mono ?_;rintro e w3 ⟨AD,nD,cD,rfl,hD,hb3⟩;have LB3:=stB LB2 hb3 LB2.out.size;have LR3:=stR LR2 hb3;have LG0_3:=stG LG0_2 hb3;have LG1_3:=stG LG1_2 hb3;clear LB2 LR2 LG0_2 LG1_2;have HX3:=Hd (HX2.out.below hb3);have HY3:=Hd (HY2.out.below hb3);have HD3:=Hd hD;clear hD hb3 HX2 HY2 T3 q0_0 q0_1 q0_2 q1_0 q1_1 q1_2;have q0_0:=LG0_3.out.ce 0 rfl;have q1_0:=LG1_3.out.ce 0 rfl;go_wp2_with fail;refine (HC.out _ _ _ _ _ _ _ HX3.out HY3.out).mono ?_;rintro e w4 ⟨rfl,hb4⟩;have LB4:=stB LB3 hb4 LB3.out.size;have LR4:=stR LR3 hb4;have LG0_4:=stG LG0_3 hb4;have LG1_4:=stG LG1_3 hb4;clear LB3 LR3 LG0_3 LG1_3;have HX4:=Hd (HX3.out.below hb4);have HY4:=Hd (HY3.out.below hb4);have HD4:=Hd (HD3.out.below hb4)
 clear hb4 HX3 HY3 HD3 HC q0_0 q1_0;go_wp2_with fail;clear hgh hcc;refine wp_region_held_drew (S:=fun W'=>Blk W' w.heap.size 41 #[.bool g,.slice A1 n1 c1,.slice B1 m1 d1]∧Blk W' (w.heap.size+1) 41 #[.bool h,.slice A2 n2 c2,.slice B2 m2 d2]∧HasBlk W' (w.heap.size+2) 41 3∧Below w.heap.size w W') (by kernel_rfl) (by exact⟨LG0_4.out.drew,LG1_4.out.drew,LR4.out.drew,LB4.out.drew⟩) (fun hHeld=>?_);refine tk 0 ?_;(try simp only [Act.put,lay]);refine tk 1 ?_ (hv:=by intro W2 hSw;obtain⟨q0,q1,q2⟩:=hSw.1.c3;go_simp;(try with_reducible rfl));(try simp only [Act.put,lay]);refine tk 2 ?_;(try simp only [Act.put,lay]);refine tk 3 ?_;(try simp only [Act.put,lay]);refine tk 5 ?_;(try simp only [Act.put,lay]);refine rdy 4 (fun KK hKK=>?_);go_simp;refine (T4.out _ _ _ _ _ _ _ HX4.out.drew HY4.out.drew).mono ?_;rintro e w6 ⟨AS,nS,cS,rfl,hS,hbA⟩;go_wp2_with fail;refine hKK.out _ _ (⟨hHeld.1.keep hbA,hHeld.2.1.keep hbA,hHeld.2.2.1.keep hbA,hHeld.2.2.2.trans (hbA.mono hHeld.2.2.2.size)⟩) (fun _=>?_);clear hKK KK hHeld;rename_i hHeld;(try simp only [Act.put,lay]);refine rdy 6 (fun KK hKK=>?_);go_simp;refine (T5.out _ _ _ _ _ _ _ hS (HD4.out.drew.below hbA)).mono ?_;rintro e w7 ⟨gz,vn,vd,rfl,hR,hbB⟩;obtain⟨AZ,nZ,cZ,BZ,mZ,dZ,rfl,rfl⟩:=hR.shape;go_wp2_with fail;refine hKK.out _ _ (⟨hHeld.1.keep hbB,hHeld.2.1.keep hbB,hHeld.2.2.1.keep hbB,hHeld.2.2.2.trans (hbB.mono hHeld.2.2.2.size)⟩) (fun _=>?_);clear hKK KK hHeld;rename_i hHeld;(try simp only [Act.put,lay]);refine rdy 7 (fun KK hKK=>?_);have ha0:=hHeld.2.2.1.someCell 0 (by decide);have hf0:=hHeld.2.2.1.frozen 0;have ha1:=hHeld.2.2.1.someCell 1 (by decide);have hf1:=hHeld.2.2.1.frozen 1;have ha2:=hHeld.2.2.1.someCell 2 (by decide);have hf2:=hHeld.2.2.1.frozen 2;have HK:=Hd (hHeld.2.2.1.setCell [.bool gz,.slice AZ nZ cZ,.slice BZ mZ dZ] rfl);have F:=Hd (below_sets (w0:=w) (r:=(w.heap.size+2)) (by omega) [.bool gz,.slice AZ nZ cZ,.slice BZ mZ dZ] 0 _ hHeld.2.2.2);have FR:=Hd (hHeld.2.2.1.rat hR [.bool gz,.slice AZ nZ cZ,.slice BZ mZ dZ])
 go_simp;refine hKK.out _ _ (⟨hHeld.1.other (by omega) 0 [.bool gz,.slice AZ nZ cZ,.slice BZ mZ dZ],hHeld.2.1.other (by omega) 0 [.bool gz,.slice AZ nZ cZ,.slice BZ mZ dZ],hHeld.2.2.1.sets [.bool gz,.slice AZ nZ cZ,.slice BZ mZ dZ] rfl rfl,below_sets (by omega) [.bool gz,.slice AZ nZ cZ,.slice BZ mZ dZ] 0 _ hHeld.2.2.2⟩) (fun _=>?_);clear hKK KK hHeld;rename_i hHeld;(try simp only [Act.put,lay]);refine wpAnyH_done (by kernel_rfl) ?_ _;have hk0:=HK.out 0 (by decide);have hk1:=HK.out 1 (by decide);have hk2:=HK.out 2 (by decide)
 simp [sets] at hk0 hk1 hk2
 clear hHeld HK hS hbA hR hbB;clear LB4 LR4 LG0_4 LG1_4;go_wp2;refine bodyPost_ret (v:=.agg #[.bool gz,.slice AZ nZ cZ,.slice BZ mZ dZ]) (by simp [results,Tryz.results82,go_sem,hk0,hk1,hk2]) rfl ?_
 exact⟨_,_,_,rfl,FR.out,F.out⟩
theorem radd_lt(K:Nat)(g h:Bool)(p1 q1 p2 q2:Nat)(A1:Option Addr)(n1 c1:Nat)(B1:Option Addr)(m1 d1:Nat)(A2:Option Addr)(n2 c2:Nat)(B2:Option Addr)(m2 d2:Nat)(w:World)(u1:U32s w A1 n1 c1 (digs p1))(v1:U32s w B1 m1 d1 (digs q1))(u2:U32s w A2 n2 c2 (digs p2))(v2:U32s w B2 m2 d2 (digs q2))(l1:n1≤8589934592)(l2:m1≤8589934592)(l3:n2≤8589934592)(l4:m2≤8589934592)(hgh:(g == h)=false)(hle:p1*q2<p2*q1)(hq1:0<q1)(hq2:0<q2)(hk1:p1*q2<2^(32*K))(hk2:p2*q1<2^(32*K))(hk3:q1*q2<2^(32*K))(hk4:p2*q1 - p1*q2<2^(32*K))(hK:1≤K)(hK2:K≤1073741824):
  Calls Tryz.prog 82 #[.agg #[.bool g,.slice A1 n1 c1,.slice B1 m1 d1],.agg #[.bool h,.slice A2 n2 c2,.slice B2 m2 d2]] w (NewRat w K (rv h (p2*q1 - p1*q2) (q1*q2))):=by
 have T1:=Hd fun W (hW:Below w.heap.size w W)=>times_v A1 B2 n1 c1 m2 d2 p1 q2 W (u1.below hW) (v2.below hW) l1 l4;have T2:=Hd fun W (hW:Below w.heap.size w W)=>times_v A2 B1 n2 c2 m1 d1 p2 q1 W (u2.below hW) (v1.below hW) l3 l2;have T3:=Hd fun W (hW:Below w.heap.size w W)=>times_v B1 B2 m1 d1 m2 d2 q1 q2 W (v1.below hW) (v2.below hW) l2 l4;have HQ:=Hd (Nat.mul_pos hq1 hq2)
 obtain⟨X,eX⟩:∃ x,p1*q2=x:=⟨_,rfl⟩
 obtain⟨Y,eY⟩:∃ x,p2*q1=x:=⟨_,rfl⟩
 obtain⟨D,eD⟩:∃ x,q1*q2=x:=⟨_,rfl⟩
 rw [eX,eY] at hk4 ⊢;rw [eX,eY] at hle;rw [eX] at T1 hk1;rw [eY] at T2 hk2;rw [eD] at T3 HQ hk3 ⊢;have T4:=Hd fun W (A:Option Addr) (n c:Nat) (B:Option Addr) (m d:Nat) (hx:U32s W A n c (digs Y)) (hy:U32s W B m d (digs X))=>minus_v A B n c m d Y X W hx hy (by have:=hx.len_le hk2;omega) (Nat.le_of_lt hle)
 obtain⟨Z,eZ⟩:∃ x,Y - X=x:=⟨_,rfl⟩
 rw [eZ] at T4 hk4 ⊢;have T5:=Hd fun W (A:Option Addr) (n c:Nat) (B:Option Addr) (m d:Nat) (hx:U32s W A n c (digs Z)) (hy:U32s W B m d (digs D))=>frac_plain h A B n c m d K Z D W hx hy HQ.out hk4 hk3 hK hK2;have HC:=Hd fun W (A:Option Addr) (n c:Nat) (B:Option Addr) (m d:Nat) (hx:U32s W A n c (digs X)) (hy:U32s W B m d (digs Y))=>cmp_w A B n c m d X Y W hx hy
 obtain⟨cc,ecc⟩:∃ x,cmp3 X Y=x:=⟨_,rfl⟩
 have hcc:cc<0:=by rw [← ecc];exact cmp3_neg.2 hle
 rw [ecc] at HC;clear u1 v1 u2 v2 l1 l2 l3 l4 hq1 hq2 hk1 hk2 hk3 hk4 hK hK2 eX eY eD eZ HQ hle ecc;obtain⟨LB0,LG0_0,LG1_0,LR⟩:=bx3 w #[.bool g,.slice A1 n1 c1,.slice B1 m1 d1] 41 #[.bool h,.slice A2 n2 c2,.slice B2 m2 d2] 41 #[.bool false,.slice none 0 0,.slice none 0 0] 41;have LR0:=Hd (HasBlk.of (n:=3) LR.out rfl rfl);clear LR
 go_enter Tryz.func82,Tryz.ntmps82
 go_wp2_with fail;refine (T1.out _ LB0.out).mono ?_;rintro e w1 ⟨AX,nX,cX,rfl,hX,hb1⟩;have LB1:=stB LB0 hb1 LB0.out.size;have LR1:=stR LR0 hb1;have LG0_1:=stG LG0_0 hb1;have LG1_1:=stG LG1_0 hb1;clear LB0 LR0 LG0_0 LG1_0;obtain⟨q0_0,q0_1,q0_2⟩:=LG0_1.out.c3;obtain⟨q1_0,q1_1,q1_2⟩:=LG1_1.out.c3;have HX1:=Hd hX;clear hX hb1 T1;go_wp2_with fail;refine (T2.out _ LB1.out).mono ?_;rintro e w2 ⟨AY,nY,cY,rfl,hY,hb2⟩;have LB2:=stB LB1 hb2 LB1.out.size;have LR2:=stR LR1 hb2;have LG0_2:=stG LG0_1 hb2;have LG1_2:=stG LG1_1 hb2;clear LB1 LR1 LG0_1 LG1_1;have HX2:=Hd (HX1.out.below hb2);have HY2:=Hd hY;clear hY hb2 HX1 T2 q0_0 q0_1 q0_2 q1_0 q1_1 q1_2;obtain⟨q0_0,q0_1,q0_2⟩:=LG0_2.out.c3;obtain⟨q1_0,q1_1,q1_2⟩:=LG1_2.out.c3;go_wp2_with fail;refine (T3.out _ LB2.out).mono ?_;rintro e w3 ⟨AD,nD,cD,rfl,hD,hb3⟩;have LB3:=stB LB2 hb3 LB2.out.size;have LR3:=stR LR2 hb3;have LG0_3:=stG LG0_2 hb3;have LG1_3:=stG LG1_2 hb3;clear LB2 LR2 LG0_2 LG1_2;have HX3:=Hd (HX2.out.below hb3);have HY3:=Hd (HY2.out.below hb3);have HD3:=Hd hD;clear hD hb3 HX2 HY2 T3 q0_0 q0_1 q0_2 q1_0 q1_1 q1_2;have q0_0:=LG0_3.out.ce 0 rfl;have q1_0:=LG1_3.out.ce 0 rfl;go_wp2_with fail;refine (HC.out _ _ _ _ _ _ _ HX3.out HY3.out).mono ?_;rintro e w4 ⟨rfl,hb4⟩;have LB4:=stB LB3 hb4 LB3.out.size;have LR4:=stR LR3 hb4;have LG0_4:=stG LG0_3 hb4;have LG1_4:=stG LG1_3 hb4;clear LB3 LR3 LG0_3 LG1_3;have HX4:=Hd (HX3.out.below hb4);have HY4:=Hd (HY3.out.below hb4);have HD4:=Hd (HD3.out.below hb4)
 clear hb4 HX3 HY3 HD3 HC q0_0 q1_0;go_wp2_with fail;clear hgh hcc;refine wp_region_held_drew (S:=fun W'=>Blk W' w.heap.size 41 #[.bool g,.slice A1 n1 c1,.slice B1 m1 d1]∧Blk W' (w.heap.size+1) 41 #[.bool h,.slice A2 n2 c2,.slice B2 m2 d2]∧HasBlk W' (w.heap.size+2) 41 3∧Below w.heap.size w W') (by kernel_rfl) (by exact⟨LG0_4.out.drew,LG1_4.out.drew,LR4.out.drew,LB4.out.drew⟩) (fun hHeld=>?_);refine tk 0 ?_;(try simp only [Act.put,lay]);refine tk 1 ?_ (hv:=by intro W2 hSw;obtain⟨q0,q1,q2⟩:=hSw.2.1.c3;go_simp;(try with_reducible rfl));(try simp only [Act.put,lay]);refine tk 2 ?_;(try simp only [Act.put,lay]);refine tk 3 ?_;(try simp only [Act.put,lay]);refine tk 5 ?_;(try simp only [Act.put,lay]);refine rdy 4 (fun KK hKK=>?_);go_simp;refine (T4.out _ _ _ _ _ _ _ HY4.out.drew HX4.out.drew).mono ?_;rintro e w6 ⟨AS,nS,cS,rfl,hS,hbA⟩;go_wp2_with fail;refine hKK.out _ _ (⟨hHeld.1.keep hbA,hHeld.2.1.keep hbA,hHeld.2.2.1.keep hbA,hHeld.2.2.2.trans (hbA.mono hHeld.2.2.2.size)⟩) (fun _=>?_);clear hKK KK hHeld;rename_i hHeld;(try simp only [Act.put,lay]);refine rdy 6 (fun KK hKK=>?_);go_simp;refine (T5.out _ _ _ _ _ _ _ hS (HD4.out.drew.below hbA)).mono ?_;rintro e w7 ⟨gz,vn,vd,rfl,hR,hbB⟩;obtain⟨AZ,nZ,cZ,BZ,mZ,dZ,rfl,rfl⟩:=hR.shape;go_wp2_with fail;refine hKK.out _ _ (⟨hHeld.1.keep hbB,hHeld.2.1.keep hbB,hHeld.2.2.1.keep hbB,hHeld.2.2.2.trans (hbB.mono hHeld.2.2.2.size)⟩) (fun _=>?_);clear hKK KK hHeld;rename_i hHeld;(try simp only [Act.put,lay]);refine rdy 7 (fun KK hKK=>?_);have ha0:=hHeld.2.2.1.someCell 0 (by decide);have hf0:=hHeld.2.2.1.frozen 0;have ha1:=hHeld.2.2.1.someCell 1 (by decide);have hf1:=hHeld.2.2.1.frozen 1;have ha2:=hHeld.2.2.1.someCell 2 (by decide);have hf2:=hHeld.2.2.1.frozen 2;have HK:=Hd (hHeld.2.2.1.setCell [.bool gz,.slice AZ nZ cZ,.slice BZ mZ dZ] rfl);have F:=Hd (below_sets (w0:=w) (r:=(w.heap.size+2)) (by omega) [.bool gz,.slice AZ nZ cZ,.slice BZ mZ dZ] 0 _ hHeld.2.2.2);have FR:=Hd (hHeld.2.2.1.rat hR [.bool gz,.slice AZ nZ cZ,.slice BZ mZ dZ])
 go_simp;refine hKK.out _ _ (⟨hHeld.1.other (by omega) 0 [.bool gz,.slice AZ nZ cZ,.slice BZ mZ dZ],hHeld.2.1.other (by omega) 0 [.bool gz,.slice AZ nZ cZ,.slice BZ mZ dZ],hHeld.2.2.1.sets [.bool gz,.slice AZ nZ cZ,.slice BZ mZ dZ] rfl rfl,below_sets (by omega) [.bool gz,.slice AZ nZ cZ,.slice BZ mZ dZ] 0 _ hHeld.2.2.2⟩) (fun _=>?_);clear hKK KK hHeld;rename_i hHeld;(try simp only [Act.put,lay]);refine wpAnyH_done (by kernel_rfl) ?_ _;have hk0:=HK.out 0 (by decide);have hk1:=HK.out 1 (by decide);have hk2:=HK.out 2 (by decide)
 simp [sets] at hk0 hk1 hk2
 clear hHeld HK hS hbA hR hbB;clear LB4 LR4 LG0_4 LG1_4;go_wp2;refine bodyPost_ret (v:=.agg #[.bool gz,.slice AZ nZ cZ,.slice BZ mZ dZ]) (by simp [results,Tryz.results82,go_sem,hk0,hk1,hk2]) rfl ?_
 exact⟨_,_,_,rfl,FR.out,F.out⟩
theorem radd_v(K:Nat)(g1:Bool)(vn1 vd1:Value)(x1:Rat)(g2:Bool)(vn2 vd2:Value)(x2:Rat)(w:World)(h1:RatV w K g1 vn1 vd1 x1)(h2:RatV w K g2 vn2 vd2 x2)(hK:K≤1048576):
  Calls Tryz.prog 82 #[.agg #[.bool g1,vn1,vd1],.agg #[.bool g2,vn2,vd2]] w (NewRat w (2*K+1) (x1+x2)):=by
 obtain⟨p1,q1,A1,n1,c1,B1,m1,d1,rfl,rfl,u1,v1,hq1,-,k1,k2,rfl⟩:=h1;obtain⟨p2,q2,A2,n2,c2,B2,m2,d2,rfl,rfl,u2,v2,hq2,-,k3,k4,rfl⟩:=h2;have l1:=u1.len_le k1;have l2:=v1.len_le k2;have l3:=u2.len_le k3;have l4:=v2.len_le k4
 have mm:∀ a b:Nat,a<2^(32*K)→b<2^(32*K)→a*b<2^(64*K):=by
  intro a b ha hb
  have h:2^(64*K)=2^(32*K)*2^(32*K):=by rw [← Nat.pow_add];congr 1;omega
  rw [h]
  exact Nat.mul_lt_mul'' ha hb
 have e1:=mm p1 q2 k1 k4;have e2:=mm p2 q1 k3 k2;have e3:=mm q1 q2 k2 k4
 have hh:2*2^(64*K)≤2^(32*(2*K+1)):=by
  rw [show 32*(2*K+1)=64*K+32 from by omega,Nat.pow_add]
  have:2*2^(64*K)≤2^(64*K)*2^32:=by rw [Nat.mul_comm];exact Nat.mul_le_mul_left _ (by decide)
  exact this
 rw [rv_add _ _ _ _ _ _ hq1 hq2];unfold dsum
 by_cases hg:g1=g2
 ·subst hg;rw [if_pos rfl]
  exact radd_same (2*K+1) g1 p1 q1 p2 q2 A1 n1 c1 B1 m1 d1 A2 n2 c2 B2 m2 d2 w u1 v1 u2 v2 (by omega) (by omega) (by omega) (by omega) hq1 hq2 (by omega) (by omega) (by omega) (by omega) (by omega) (by omega)
 ·rw [if_neg hg]
  have hgh:(g1 == g2)=false:=by simpa using hg
  by_cases hl:p1*q2<p2*q1
  ·rw [if_pos hl]
   exact radd_lt (2*K+1) g1 g2 p1 q1 p2 q2 A1 n1 c1 B1 m1 d1 A2 n2 c2 B2 m2 d2 w u1 v1 u2 v2 (by omega) (by omega) (by omega) (by omega) hgh hl hq1 hq2 (by omega) (by omega) (by omega) (by omega) (by omega) (by omega)
  ·rw [if_neg hl]
   exact radd_ge (2*K+1) g1 g2 p1 q1 p2 q2 A1 n1 c1 B1 m1 d1 A2 n2 c2 B2 m2 d2 w u1 v1 u2 v2 (by omega) (by omega) (by omega) (by omega) hgh (by omega) hq1 hq2 (by omega) (by omega) (by omega) (by omega) (by omega) (by omega)
def Lies(w W:World)(l:List (Nat × TypeId × Array Value))(r:List (Nat × TypeId × Nat)):Prop:=
 Below w.heap.size w W∧(∀ x ∈ l,Blk W x.1 x.2.1 x.2.2)∧∀ x ∈ r,HasBlk W x.1 x.2.1 x.2.2
section
variable {w W W':World} {l l':List (Nat × TypeId × Array Value)} {r:List (Nat × TypeId × Nat)} {g n:Nat} {t:TypeId} {cs:Array Value}
theorem Lies.b(h:Lies w W l r):Below w.heap.size w W:=h.1
theorem Lies.blk(h:Lies w W l r)(i:Nat)(hi:l[i]?=some (g,t,cs)):Blk W g t cs:=h.2.1 _ (List.mem_of_getElem? hi)
theorem Lies.has(h:Lies w W l r)(i:Nat)(hi:r[i]?=some (g,t,n)):HasBlk W g t n:=h.2.2 _ (List.mem_of_getElem? hi)
theorem Lies.keep(h:Lies w W l r)(hb:Below W.heap.size W W'):Lies w W' l r:=
 ⟨h.1.trans (hb.mono h.1.size),fun x hx=>(h.2.1 x hx).keep hb,fun x hx=>(h.2.2 x hx).keep hb⟩
theorem Lies.alloc(h:Lies w W l r)(o:Obj):Lies w (W.alloc o) l r:=
 ⟨h.1.alloc h.1.size o,fun x hx=>(h.2.1 x hx).alloc o,fun x hx=>(h.2.2 x hx).alloc o⟩
theorem Lies.drew(h:Lies w W l r):Lies w W.drew l r:=⟨h.1.drew,fun x hx=>(h.2.1 x hx).drew,fun x hx=>(h.2.2 x hx).drew⟩
theorem Lies.put(h:Lies w W l r)(hb:Blk W g t cs):Lies w W (l ++ [(g,t,cs)]) r:=
 ⟨h.1,fun x hx=>by
   rcases List.mem_append.1 hx with hx | hx
   ·exact h.2.1 x hx
   ·rw [List.mem_singleton.1 hx];exact hb,h.2.2⟩
theorem Lies.new(h:Lies w W l r)(t:TypeId)(cs:Array Value):Lies w (W.alloc (.cells cs t)) (l ++ [(W.heap.size,t,cs)]) r:=(h.alloc _).put (Blk.new W t cs)
theorem Lies.loose(h:Lies w W l r)(i:Nat)(hi:l[i]?=some (g,t,cs))(hc:cs.toList.all notWd=true):Lies w W (l.eraseIdx i) ((g,t,cs.size) :: r):=
 ⟨h.1,fun x hx=>h.2.1 x (List.mem_of_mem_eraseIdx hx),fun x hx=>by
   rcases List.mem_cons.1 hx with rfl | hx
   ·exact HasBlk.of (h.blk i hi) rfl hc
   ·exact h.2.2 x hx⟩
theorem Lies.write(h:Lies w W l ((g,t,n) :: r))(vs:List Value)(hl:vs.length=n)(hg:w.heap.size≤g)(h1:∀ x ∈ l,x.1≠g)(h2:∀ x ∈ r,x.1≠g):Lies w (sets W g 0 vs) (l ++ [(g,t,vs.toArray)]) r:=
 ⟨below_sets hg vs 0 _ h.1,fun x hx=>by
   rcases List.mem_append.1 hx with hx | hx
   ·exact (h.2.1 x hx).other (h1 x hx) 0 vs
   ·rw [List.mem_singleton.1 hx];exact (h.2.2 _ (List.mem_cons_self ..)).laid vs hl,fun x hx=>(h.2.2 x (List.mem_cons_of_mem _ hx)).other (h2 x hx) 0 vs⟩
theorem Lies.part(h:Lies w W l r)(k:Nat)(hk:l[k]?=some (g,t,cs))(i:Nat)(vs:List Value)(hg:w.heap.size≤g)(h1:∀ x ∈ l.eraseIdx k,x.1≠g)(h2:∀ x ∈ r,x.1≠g):Lies w (sets W g i vs) (l.eraseIdx k ++ [(g,t,laid cs i vs)]) r:=
 ⟨below_sets hg vs i _ h.1,fun x hx=>by
   rcases List.mem_append.1 hx with hx | hx
   ·exact (h.2.1 x (List.mem_of_mem_eraseIdx hx)).other (h1 x hx) i vs
   ·rw [List.mem_singleton.1 hx];exact (h.blk k hk).sets vs i _ _,fun x hx=>(h.2.2 x hx).other (h2 x hx) i vs⟩
theorem Lies.over(h:Lies w W l r)(k:Nat)(hk:r[k]?=some (g,t,n))(vs:List Value)(hl:vs.length=n)(hv:vs.all notWd=true)(hg:w.heap.size≤g)(h1:∀ x ∈ l,x.1≠g)(h2:∀ x ∈ r.eraseIdx k,x.1≠g):Lies w (sets W g 0 vs) l r:=
 ⟨below_sets hg vs 0 _ h.1,fun x hx=>(h.2.1 x hx).other (h1 x hx) 0 vs,fun x hx=>by
   obtain⟨i,hi⟩:=List.mem_iff_getElem?.1 hx
   by_cases e:i=k
   ·subst e;rw [hk] at hi;cases hi;exact (h.has i hk).sets vs hl hv
   ·exact (h.2.2 x hx).other (h2 x (by rw [List.mem_iff_getElem?];rcases Nat.lt_or_ge i k with hlt | hge
                                       ·exact⟨i,by rw [List.getElem?_eraseIdx_of_lt hlt];exact hi⟩
                                       ·exact⟨i - 1,by rw [List.getElem?_eraseIdx_of_ge (by omega),show i - 1+1=i from by omega];exact hi⟩)) 0 vs⟩
theorem Lies.far(h:Lies w W l r)(vs:List Value)(i:Nat)(hg:w.heap.size≤g)(h1:∀ x ∈ l,x.1≠g)(h2:∀ x ∈ r,x.1≠g):Lies w (sets W g i vs) l r:=
 ⟨below_sets hg vs i _ h.1,fun x hx=>(h.2.1 x hx).other (h1 x hx) i vs,fun x hx=>(h.2.2 x hx).other (h2 x hx) i vs⟩
theorem Lies.fresh(h:Lies w W l r)(t:TypeId)(cs:Array Value):∃ g,W.heap.size=g∧w.heap.size≤g∧(∀ x ∈ l,x.1<g)∧(∀ x ∈ r,x.1<g)∧Blk (W.alloc (.cells cs t)) g t cs:=
 ⟨_,rfl,h.1.size,fun x hx=>(h.2.1 x hx).lt,fun x hx=>(h.2.2 x hx).lt,Blk.new W t cs⟩
theorem Lies.tight(h:Lies w W l ((g,t,n) :: r))(hb:Blk W g t cs):Lies w W (l ++ [(g,t,cs)]) r:=
 ⟨h.1,fun x hx=>by
   rcases List.mem_append.1 hx with hx | hx
   ·exact h.2.1 x hx
   ·rw [List.mem_singleton.1 hx];exact hb,fun x hx=>h.2.2 x (List.mem_cons_of_mem _ hx)⟩
theorem Lies.perm{r':List (Nat × TypeId × Nat)}(h:Lies w W l r)(hl:∀ x ∈ l',x ∈ l)(hr:∀ x ∈ r',x ∈ r):Lies w W l' r':=⟨h.1,fun x hx=>h.2.1 x (hl x hx),fun x hx=>h.2.2 x (hr x hx)⟩
theorem Lies.lts(h:Lies w W l r):w.heap.size≤W.heap.size∧(∀ x ∈ l,x.1<W.heap.size)∧∀ x ∈ r,x.1<W.heap.size:=⟨h.1.size,fun x hx=>(h.2.1 x hx).lt,fun x hx=>(h.2.2 x hx).lt⟩
theorem Lies.newE(h:Lies w W l r)(e:W.alloc (.cells cs t)=W'):Lies w W' (l ++ [(W.heap.size,t,cs)]) r:=e ▸ h.new t cs
theorem below_allocE{o:Obj}(e:W.alloc o=W'):Below W.heap.size W W':=e ▸ below_alloc W o
theorem Blk.newE(e:W.alloc (.cells cs t)=W'):Blk W' W.heap.size t cs:=e ▸ Blk.new W t cs
theorem stL(h:Hid (Lies w W l r))(hb:Below W.heap.size W W'):Hid (Lies w W' l r):=Hd (h.out.keep hb)
end
theorem nowd{cs:Array Value}(h:cs.toList.all notWd=true):NoWd cs:=NoWd.of (by rw [← Array.all_toList];exact h)
section
variable {P:Program} {ops:Array Oper} {Q:Exit→Act→World→Prop} {md:Region.Mode} {S:World→Prop} {fuel:Nat} {listed:Array Bool} {a:Act} {w:World}
theorem rd2(i j:Nat){o o':Oper}(h:∀ K':Act→World→Prop,Shut (∀ a w,S w→(S w→wpAnyH P md ops Q S fuel (listed.setIfInBounds i true) a w)→K' a w)→if Region.wanted o (yielded ops a.tmps)=true then Oper.wp P o a w K' Q else K' (a.put o.dst undef) w)
  (h':∀ K':Act→World→Prop,Shut (∀ a w,S w→(S w→wpAnyH P md ops Q S fuel (listed.setIfInBounds j true) a w)→K' a w)→if Region.wanted o' (yielded ops a.tmps)=true then Oper.wp P o' a w K' Q else K' (a.put o'.dst undef) w)
  (hr:Region.ready md ops listed=[i,j]:=by kernel_rfl)(ho:ops[i]?=some o:=by rfl)(ho':ops[j]?=some o':=by rfl):wpAnyH P md ops Q S (fuel+1) listed a w:=
 wpAnyH_ready hr (by simp) (AllReadyH.cons ho h (AllReadyH.cons ho' h' AllReadyH.nil))
end
theorem regL{P:Program}{ops:Array Oper}{Q:Exit→Act→World→Prop}{id:Nat}{a:Act}{w W:World}{l:List (Nat × TypeId × Array Value)}{r:List (Nat × TypeId × Nat)}(h:Hid (Lies w W l r))
  (k:Lies w W.drew l r→wpAnyH P .any ops Q (fun W'=>Lies w W' l r) ops.size (Array.replicate ops.size false) a W.drew)(hm:P.follows .mixedOrders=true:=by kernel_rfl):(Code.region id ops true).wp P Q a W:=
 wp_region_held_drew (S:=fun W'=>Lies w W' l r) hm h.out.drew k
theorem li1(w:World)(c0:Array Value)(t0:TypeId):Hid (Lies w (w.alloc (.cells c0 t0)) [(w.heap.size,t0,c0)] []):=by
 obtain⟨hb,h0⟩:=bx1 w c0 t0
 exact Hd ⟨hb.out,by simp only [List.mem_cons,List.not_mem_nil,or_false,forall_eq_or_imp,forall_eq];exact h0.out,by simp⟩
theorem li2(w:World)(c0:Array Value)(t0:TypeId)(c1:Array Value)(t1:TypeId):Hid (Lies w ((w.alloc (.cells c0 t0)).alloc (.cells c1 t1)) [(w.heap.size,t0,c0),(w.heap.size+1,t1,c1)] []):=by
 obtain⟨hb,h0,h1⟩:=bx2 w c0 t0 c1 t1
 exact Hd ⟨hb.out,by simp only [List.mem_cons,List.not_mem_nil,or_false,forall_eq_or_imp,forall_eq];exact⟨h0.out,h1.out⟩,by simp⟩
theorem li3(w:World)(c0:Array Value)(t0:TypeId)(c1:Array Value)(t1:TypeId)(c2:Array Value)(t2:TypeId):Hid (Lies w (((w.alloc (.cells c0 t0)).alloc (.cells c1 t1)).alloc (.cells c2 t2)) [(w.heap.size,t0,c0),(w.heap.size+1,t1,c1),(w.heap.size+2,t2,c2)] []):=by
 obtain⟨hb,h0,h1,h2⟩:=bx3 w c0 t0 c1 t1 c2 t2
 exact Hd ⟨hb.out,by simp only [List.mem_cons,List.not_mem_nil,or_false,forall_eq_or_imp,forall_eq];exact⟨h0.out,h1.out,h2.out⟩,by simp⟩
theorem li4(w:World)(c0:Array Value)(t0:TypeId)(c1:Array Value)(t1:TypeId)(c2:Array Value)(t2:TypeId)(c3:Array Value)(t3:TypeId):Hid (Lies w ((((w.alloc (.cells c0 t0)).alloc (.cells c1 t1)).alloc (.cells c2 t2)).alloc (.cells c3 t3)) [(w.heap.size,t0,c0),(w.heap.size+1,t1,c1),(w.heap.size+2,t2,c2),(w.heap.size+3,t3,c3)] []):=by
 obtain⟨hb,h0,h1,h2,h3⟩:=bx4 w c0 t0 c1 t1 c2 t2 c3 t3
 exact Hd ⟨hb.out,by simp only [List.mem_cons,List.not_mem_nil,or_false,forall_eq_or_imp,forall_eq];exact⟨h0.out,h1.out,h2.out,h3.out⟩,by simp⟩
def fz(g:Bool)(p q:Nat):Int:=if g=true then -((p / q+(if 0<p % q then 1 else 0):Nat):Int) else ((p / q:Nat):Int)
theorem fz_floor{g:Bool}{p q:Nat}(hq:0<q):fz g p q=(rv g p q).floor:=by
 have h1:=Nat.div_add_mod p q;have h2:=Nat.mod_lt p hq;have hq0:(0:Rat)<(q:Rat):=cast_pos hq
 have hv:rv g p q*(q:Rat)=if g=true then -(p:Rat) else (p:Rat):=by
  unfold rv;exact Rat.div_mul_cancel (cast_ne hq)
 have two:∀ z:Int,(z:Rat)*q≤rv g p q*q→rv g p q*q<((z:Rat)+1)*q→z=(rv g p q).floor:=by
  intro z a b
  have a':(z:Rat)≤rv g p q:=by
   by_cases k:(z:Rat)≤rv g p q
   ·exact k
   ·have:rv g p q<z:=by grind
    have:=(Rat.mul_lt_mul_right hq0).2 this
    grind
  have b':rv g p q<(z:Rat)+1:=(Rat.mul_lt_mul_right hq0).1 b;have c1:=Rat.le_floor_iff.2 a'
  have c2:(rv g p q).floor<z+1:=by
   have:=Rat.floor_le (rv g p q);rw [← Rat.intCast_lt_intCast,Rat.intCast_add];have e1:((1:Int):Rat)=1:=rfl
   grind
  omega
 refine two _ ?_ ?_
 ·rw [hv];unfold fz
  cases g
  ·simp only [Bool.false_eq_true,if_false]
   rw [Rat.intCast_natCast,← Rat.natCast_mul,Rat.natCast_le_natCast,Nat.mul_comm];omega
  ·simp only [if_true]
   rw [Rat.intCast_neg,Rat.intCast_natCast,Rat.neg_mul,← Rat.natCast_mul]
   have:(p:Rat)≤(((p / q+if 0<p % q then 1 else 0)*q:Nat):Rat):=by
    rw [Rat.natCast_le_natCast,Nat.add_mul,Nat.mul_comm]
    split<;>omega
   grind
 ·rw [hv];unfold fz
  cases g
  ·simp only [Bool.false_eq_true,if_false]
   have:(p:Rat)<(((p / q+1)*q:Nat):Rat):=by
    rw [Rat.natCast_lt_natCast,Nat.add_mul,Nat.mul_comm];omega
   rw [Rat.natCast_mul,Rat.natCast_add] at this;rw [Rat.intCast_natCast]
   exact this
  ·simp only [if_true]
   have:(((p / q+if 0<p % q then 1 else 0)*q:Nat):Rat)<((p+q:Nat):Rat):=by
    rw [Rat.natCast_lt_natCast,Nat.add_mul,Nat.mul_comm]
    split<;>omega
   rw [Rat.natCast_mul,Rat.natCast_add p q] at this;rw [Rat.intCast_neg,Rat.intCast_natCast]
   grind
theorem by_w(A B:Option Addr)(n c m d:Nat)(xs ys:List Nat)(w:World)(hx:U32s w A n c xs)(hy:U32s w B m d ys)(hs:n≤1073741824)(hm:m≤1073741824)(h0:0<num ys):
  Calls Tryz.prog 76 #[.slice A n c,.slice B m d] w (NewU32s w (digs (num xs / num ys)) (digs (num xs % num ys))):=by
 rcases Nat.lt_or_ge (num xs) (num ys) with h | h
 ·have:=by_less A B n c m d _ _ w hx hy (by omega) h;rw [Nat.div_eq_of_lt h,Nat.mod_eq_of_lt h,digs_zero]
  exact this
 ·exact by_main A B n c m d _ _ w hx hy hs hm h0 h
theorem digs_len0{v n:Nat}(h:(digs v).length=n):(n=0↔v=0):=by rw [← h,digs_length_eq_zero]
set_option maxRecDepth 8000 in
theorem rfloor_walk(g:Bool)(A:Option Addr)(n c:Nat)(B:Option Addr)(m d:Nat)(p q:Nat)(Z:Int)(w:World)(hby:∀ W,Below w.heap.size w W→Calls Tryz.prog 76 #[.slice A n c,.slice B m d] W (NewU32s W (digs (p / q)) (digs (p % q))))(hZ:fz g p q=Z)(hb:blen (p / q)≤1000000):
  Calls Tryz.prog 50 #[.agg #[.bool g,.slice A n c,.slice B m d]] w (fun e w'=>∃ A' n' c',e=.returned (.tuple #[.bool (decide (Z<0)),.slice A' n' c'])∧U32s w' A' n' c' (digs Z.natAbs)∧Below w.heap.size w w'):=by
 have HBY:=Hd hby
 have HPL:=Hd fun (A1:Option Addr) (n1 c1:Nat) (A2:Option Addr) (n2 c2:Nat) W (h1:U32s W A1 n1 c1 (digs (p / q))) (h2:U32s W A2 n2 c2 (digs 1)) (hn:n1≤1073741824) (hn2:n2≤1073741824)=>plus_v A1 A2 n1 c1 n2 c2 _ _ W h1 h2 (by omega) (by omega)
 have HL:=Hd fun (n1:Nat) (h:(digs (p / q)).length=n1)=>(show n1≤1073741824 by
  obtain⟨k,hk⟩:∃ k:Nat,k=40000:=⟨_,rfl⟩
  have:=digs_length_le (n:=p / q) (k:=k) (blen_le_iff.1 (by omega))
  omega)
 have HZ:=Hd hZ
 obtain⟨Q,hQ⟩:∃ Q,p / q=Q:=⟨_,rfl⟩
 obtain⟨R,hR⟩:∃ R,p % q=R:=⟨_,rfl⟩
 unfold fz at HZ;rw [hQ] at HBY HPL HL HZ;rw [hR] at HBY HZ;clear hby hZ hQ hR hb;have LL:=li1 w #[.bool g,.slice A n c,.slice B m d] 41
 go_enter Tryz.func50,Tryz.ntmps50
 obtain⟨q1_0,q1_1,q1_2⟩:=(LL.out.blk 0 rfl).c3;go_wp2_with fail;refine (HBY.out _ LL.out.b).mono ?_;rintro e w1 ⟨A1,n1,c1,B1,m1,d1,rfl,hu1,hv1,hb1⟩;replace LL:=stL LL hb1;have U1:=Hd hu1;have hl1:=digs_len0 hu1.len;have hl2:=digs_len0 hv1.len;have hn1:=HL.out n1 hu1.len;clear hu1 hv1 hb1 HBY HL q1_0 q1_1 q1_2
 cases g
 case false=>
  obtain⟨q2_0,q2_1,q2_2⟩:=(LL.out.blk 0 rfl).c3;have hz:Z=(Q:Int):=HZ.out.symm;subst hz;have F:=Hd (show U32s w1 A1 n1 c1 (digs ((Q:Int).natAbs)) from U1.out);have hd:decide ((Q:Int)<0)=false:=decide_eq_false (by omega);have HD:=Hd hd;clear HZ HPL U1 hl1 hl2 hd;go_wp2
  go_ret2
  exact⟨_,_,_,by rw [HD.out];rfl,F.out,LL.out.b⟩
 case true=>
  by_cases hr:R=0
  case pos=>
   obtain⟨q3_0,q3_1,q3_2⟩:=(LL.out.blk 0 rfl).c3
   obtain rfl:m1=0:=hl2.2 hr
   have hz:Z=-(Q:Int):=by rw [← HZ.out,if_pos rfl,if_neg (by omega)];omega
   subst hz;have F:=Hd (show U32s w1 A1 n1 c1 (digs ((-(Q:Int)).natAbs)) from by rw [Int.natAbs_neg];exact U1.out)
   have hd:decide (-(Q:Int)<0)=decide (0<n1):=by rw [decide_eq_decide];have:=hl1;omega
   have HD:=Hd hd;clear HZ HPL U1 hl1 hl2 hd hr;go_wp2
   go_ret2
   exact⟨_,_,_,by rw [HD.out];rfl,F.out,LL.out.b⟩
  case neg=>
   obtain⟨q4_0,q4_1,q4_2⟩:=(LL.out.blk 0 rfl).c3
   have hm1:0<m1:=by have:=hl2;omega
   have hz:Z=-((Q+1:Nat):Int):=by rw [← HZ.out,if_pos rfl,if_pos (by omega)]
   subst hz;have HD1:=Hd (show U32s (w1.alloc (.cells #[.int .u32 1] 72)) (some ⟨w1.heap.size,0,none⟩) 1 1 (digs 1) from by rw [digs_one];exact U32s.lit1 w1 72 (a:=1) (by omega));have HQ:=Hd (HPL.out A1 n1 c1 _ 1 1 (w1.alloc (.cells #[.int .u32 1] 72)) (U1.out.alloc _) HD1.out hn1 (by omega));have hd:decide (-((Q+1:Nat):Int)<0)=true:=decide_eq_true (by omega);have HD:=Hd hd;clear HZ HPL U1 hl1 hl2 hd hr HD1;go_wp2_with fail;refine HQ.out.mono ?_;rintro e w2 ⟨A2,n2,c2,rfl,hu2,hb2⟩
   have hn2:0<n2:=by have:=digs_len0 hu2.len;omega
   have F:=Hd (show U32s w2 A2 n2 c2 (digs ((-((Q+1:Nat):Int)).natAbs)) from by rw [Int.natAbs_neg];exact hu2);replace LL:=Hd (LL.out.alloc (.cells #[.int .u32 1] 72));replace LL:=stL LL hb2;clear hu2 hb2 HQ;obtain⟨q5_0,q5_1,q5_2⟩:=(LL.out.blk 0 rfl).c3;go_wp2
   go_ret2
   exact⟨_,_,_,by rw [HD.out];rfl,F.out,LL.out.b⟩
end Go.Proofs.YtfcpabgampebaaaGreat
