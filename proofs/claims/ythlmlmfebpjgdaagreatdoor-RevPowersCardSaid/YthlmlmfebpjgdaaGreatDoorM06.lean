/-
Lemmas for the statement: EndT ECmpT DigD SubT GuessT ByT ByMT WordT.
-/
import Derived.Test.YthlmlmfebpjgdaaGreatDoorM03
import Derived.Test.YthlmlmfebpjgdaaGreatDoorM05
import Derived.Test.YthlmlmfebpjgdaaGreatDoorM01
import Derived.Test.YthlmlmfebpjgdaaGreatDoorM02
set_option linter.unusedSimpArgs false
set_option linter.unusedVariables false
set_option maxHeartbeats 12800000
namespace Go.Proofs.YthlmlmfebpjgdaaGreatDoor
section
open Go.RowKit
def NewEnd(w:World)(K:Nat)(s:Int)(x:Rat)(e:Ending)(w':World):Prop:=
 ∃ neg A n c B m d,e=.returned (.agg #[.int .i64 s,.bool neg,.slice A n c,.slice B m d])∧RatV w' K neg (.slice A n c) (.slice B m d) x∧Below w.heap.size w w'
def NewSet(w:World)(K:Nat)(o:Bool)(s:Int)(x:Rat)(t:Int)(y:Rat)(e:Ending)(w':World):Prop:=
 ∃ neg A n c B m d neg' A' n' c' B' m' d',e=.returned (.agg #[.bool o,.int .i64 s,.bool neg,.slice A n c,.slice B m d,.int .i64 t,.bool neg',.slice A' n' c',.slice B' m' d']) ∧
  RatV w' K neg (.slice A n c) (.slice B m d) x∧RatV w' K neg' (.slice A' n' c') (.slice B' m' d') y∧Below w.heap.size w w'
def NewRatS(w:World)(K:Nat)(x:Rat)(e:Ending)(w':World):Prop:=
 ∃ neg A n c B m d,e=.returned (.agg #[.bool neg,.slice A n c,.slice B m d])∧RatV w' K neg (.slice A n c) (.slice B m d) x∧Below w.heap.size w w'
theorem NewRat.s{w w':World}{K:Nat}{x:Rat}{e:Ending}(h:NewRat w K x e w'):NewRatS w K x e w':=by
 obtain⟨neg,vn,vd,rfl,hr,hb⟩:=h;obtain⟨A,n,c,B,m,d,rfl,rfl⟩:=hr.shape
 exact⟨neg,A,n,c,B,m,d,rfl,hr,hb⟩
def es(i:Int):Int:=if i=M then 1 else if i=-(M:Int) then -1 else 0
def ex(i:Int):Rat:=if es i=0 then fl i else 0
theorem es_max:es M=1:=rfl
theorem es_min:es (-(M:Int))=-1:=by decide
theorem ex_max:ex M=0:=rfl
theorem ex_min:ex (-(M:Int))=0:=by unfold ex;rw [es_min];rfl
theorem es_mid{i:Int}(h:-(M:Int)<i)(h':i<M):es i=0:=by unfold es;rw [if_neg (by omega),if_neg (by omega)]
theorem ex_mid{i:Int}(h:-(M:Int)<i)(h':i<M):ex i=fl i:=by unfold ex;rw [es_mid h h'];rfl
theorem finite_nat(v:Nat)(w:World)(hv:v<4294967296):
  Calls Tryz.prog 153 #[.int .i64 (v:Int)] w (NewEnd w 1 0 (v:Rat)):=by
 have hs:∀ W,Calls Tryz.prog 51 #[.int .i64 (v:Int)] W (NewRatS W 1 (v:Rat)):=fun W=>(int_nat v W hv).mono fun _ _ h=>h.s;have HS:=Hd hs;clear hs;obtain⟨LB0,LR⟩:=bx1 w #[.int .i64 0,.bool false,.slice none 0 0,.slice none 0 0] 87;have LR0:=Hd (HasBlk.of (n:=4) LR.out rfl rfl);clear LR
 go_enter Tryz.func153,Tryz.ntmps153
 go_wp2_with fail;refine (HS.out _).mono ?_;rintro e w1 ⟨neg,A5,n5,c5,A6,n6,c6,rfl,hr,hb1⟩;have LB1:=stB LB0 hb1 LB0.out.size;have LR1:=stR LR0 hb1;clear LB0 LR0;obtain⟨ha0,hf0,ha1,hf1,ha2,hf2,ha3,hf3⟩:=LR1.out.sf4;obtain⟨hk0,hk1,hk2,hk3⟩:=LR1.out.sc4 (.int .i64 0) (.bool neg) (.slice A5 n5 c5) (.slice A6 n6 c6);have F:=Hd (below_sets (w0:=w) (r:=w.heap.size) (by omega) [.int .i64 0,.bool neg,.slice A5 n5 c5,.slice A6 n6 c6] 0 _ LB1.out)
 simp [sets] at hk0 hk1 hk2 hk3
 have FR:=Hd (LR1.out.rat hr [.int .i64 0,.bool neg,.slice A5 n5 c5,.slice A6 n6 c6]);clear hr hb1 LR1 LB1;go_wp2;refine bodyPost_ret (v:=.agg #[.int .i64 0,.bool neg,.slice A5 n5 c5,.slice A6 n6 c6]) (by simp [results,Tryz.results153,go_sem,hk0,hk1,hk2,hk3]) rfl ?_
 exact⟨neg,_,_,_,_,_,_,rfl,FR.out,F.out⟩
theorem RatV.k34{w:World}{neg:Bool}{vn vd:Value}{x:Rat}(h:RatV w 1 neg vn vd x):RatV w 34 neg vn vd x:=h.mono (by decide)
theorem bound_raw(b:Nat)(w:World)(hb:b<18446744073709551616)(hr:rungOf b≤M):
  Calls Tryz.prog 156 #[.int .u64 (b:Int)] w (NewEnd w 34 (es (idx b)) (ex (idx b))):=by
 have hs:∀ W,Calls Tryz.prog 51 #[.int .i64 0] W (NewRatS W 1 0):=fun W=>(int_nat 0 W (by omega)).mono fun _ _ h=>h.s;have HS:=Hd hs;clear hs;have hc:=pat_cases hb;rw [M_val] at hr
 by_cases h1:b=9218868437227405312
 ·subst h1;rw [show idx 9218868437227405312=(M:Int) from by rw [M_val];omega,es_max,ex_max];clear hc hr;obtain⟨LB0,LR⟩:=bx1 w #[.int .i64 0,.bool false,.slice none 0 0,.slice none 0 0] 87;have LR0:=Hd (HasBlk.of (n:=4) LR.out rfl rfl);clear LR
  go_enter Tryz.func156,Tryz.ntmps156
  go_wp2_with fail;refine (HS.out _).mono ?_;rintro e w1 ⟨neg,A5,n5,c5,A6,n6,c6,rfl,hr,hb1⟩;have LB1:=stB LB0 hb1 LB0.out.size;have LR1:=stR LR0 hb1;clear LB0 LR0;obtain⟨ha0,hf0,ha1,hf1,ha2,hf2,ha3,hf3⟩:=LR1.out.sf4;obtain⟨hk0,hk1,hk2,hk3⟩:=LR1.out.sc4 (.int .i64 1) (.bool neg) (.slice A5 n5 c5) (.slice A6 n6 c6);have F:=Hd (below_sets (w0:=w) (r:=w.heap.size) (by omega) [.int .i64 1,.bool neg,.slice A5 n5 c5,.slice A6 n6 c6] 0 _ LB1.out)
  simp [sets] at hk0 hk1 hk2 hk3
  have FR:=Hd (LR1.out.rat hr [.int .i64 1,.bool neg,.slice A5 n5 c5,.slice A6 n6 c6]);clear hr hb1 LR1 LB1;go_wp2;refine bodyPost_ret (v:=.agg #[.int .i64 1,.bool neg,.slice A5 n5 c5,.slice A6 n6 c6]) (by simp [results,Tryz.results156,go_sem,hk0,hk1,hk2,hk3]) rfl ?_
  exact⟨neg,_,_,_,_,_,_,rfl,FR.out.k34,F.out⟩
 ·by_cases h2:b=18442240474082181120
  ·subst h2;rw [show idx 18442240474082181120=-(M:Int) from by rw [M_val];omega,es_min,ex_min];clear hc hr h1;obtain⟨LB0,LR⟩:=bx1 w #[.int .i64 0,.bool false,.slice none 0 0,.slice none 0 0] 87;have LR0:=Hd (HasBlk.of (n:=4) LR.out rfl rfl);clear LR
   go_enter Tryz.func156,Tryz.ntmps156
   go_wp2_with fail;refine (HS.out _).mono ?_;rintro e w1 ⟨neg,A5,n5,c5,A6,n6,c6,rfl,hr,hb1⟩;have LB1:=stB LB0 hb1 LB0.out.size;have LR1:=stR LR0 hb1;clear LB0 LR0;obtain⟨ha0,hf0,ha1,hf1,ha2,hf2,ha3,hf3⟩:=LR1.out.sf4;obtain⟨hk0,hk1,hk2,hk3⟩:=LR1.out.sc4 (.int .i64 (-1)) (.bool neg) (.slice A5 n5 c5) (.slice A6 n6 c6);have F:=Hd (below_sets (w0:=w) (r:=w.heap.size) (by omega) [.int .i64 (-1),.bool neg,.slice A5 n5 c5,.slice A6 n6 c6] 0 _ LB1.out)
   simp [sets] at hk0 hk1 hk2 hk3
   have FR:=Hd (LR1.out.rat hr [.int .i64 (-1),.bool neg,.slice A5 n5 c5,.slice A6 n6 c6]);clear hr hb1 LR1 LB1;go_wp2;refine bodyPost_ret (v:=.agg #[.int .i64 (-1),.bool neg,.slice A5 n5 c5,.slice A6 n6 c6]) (by simp [results,Tryz.results156,go_sem,hk0,hk1,hk2,hk3]) rfl ?_
   exact⟨neg,_,_,_,_,_,_,rfl,FR.out.k34,F.out⟩
  ·have e1:((b:Int) == 9218868437227405312)=false:=by simp;omega
   have e2:((b:Int) == 18442240474082181120)=false:=by simp;omega
   have hi:-(M:Int)<idx b∧idx b<M:=by rw [M_val];omega
   have hpl:pl b=pat (idx b):=pl_real hb (by rw [M_val];omega)
   have hf:fin (pat (idx b)):=by
    show rungOf _<M
    rw [rung_pat (by omega) (by omega)];omega
   have HP:=Hd fun W=>plain_b b W hb;have HF:=Hd fun W=>(frombits_any (pat (idx b)) W (pat_lt (by omega) (by omega)) hf).mono fun _ _ h=>h.s;rw [idx_pat (by omega) (by omega)] at HF;rw [hpl] at HP;rw [es_mid hi.1 hi.2,ex_mid hi.1 hi.2];clear hc hr h1 h2 hpl hf hi;obtain⟨LB0,LR⟩:=bx1 w #[.int .i64 0,.bool false,.slice none 0 0,.slice none 0 0] 87;have LR0:=Hd (HasBlk.of (n:=4) LR.out rfl rfl);clear LR
   go_enter Tryz.func156,Tryz.ntmps156
   go_wp2_with fail;refine (HP.out _).mono ?_;rintro e w1 ⟨rfl,hb1⟩;have LB1:=stB LB0 hb1 LB0.out.size;have LR1:=stR LR0 hb1;clear LB0 LR0;go_wp2_with fail;refine (HF.out _).mono ?_;rintro e w2 ⟨neg,A5,n5,c5,A6,n6,c6,rfl,hr,hb2⟩;have LB2:=stB LB1 hb2 LB1.out.size;have LR2:=stR LR1 hb2;clear LB1 LR1;obtain⟨ha0,hf0,ha1,hf1,ha2,hf2,ha3,hf3⟩:=LR2.out.sf4;obtain⟨hk0,hk1,hk2,hk3⟩:=LR2.out.sc4 (.int .i64 0) (.bool neg) (.slice A5 n5 c5) (.slice A6 n6 c6);have F:=Hd (below_sets (w0:=w) (r:=w.heap.size) (by omega) [.int .i64 0,.bool neg,.slice A5 n5 c5,.slice A6 n6 c6] 0 _ LB2.out)
   simp [sets] at hk0 hk1 hk2 hk3
   have FR:=Hd (LR2.out.rat hr [.int .i64 0,.bool neg,.slice A5 n5 c5,.slice A6 n6 c6]);clear hr hb1 hb2 LR2 LB2;go_wp2;refine bodyPost_ret (v:=.agg #[.int .i64 0,.bool neg,.slice A5 n5 c5,.slice A6 n6 c6]) (by simp [results,Tryz.results156,go_sem,hk0,hk1,hk2,hk3]) rfl ?_
   exact⟨neg,_,_,_,_,_,_,rfl,FR.out,F.out⟩
end
section
open Go.RowKit
def ec(s:Int)(x:Rat)(t:Int)(y:Rat):Int:=if s=t then (if s=0 then rc x y else 0) else if s<t then -1 else 1
theorem ec_lt{s t:Int}(x y:Rat)(h:s<t):ec s x t y=-1:=by unfold ec;rw [if_neg (by omega),if_pos h]
theorem ec_gt{s t:Int}(x y:Rat)(h:t<s):ec s x t y=1:=by unfold ec;rw [if_neg (by omega),if_neg (by omega)]
theorem ec_inf{s t:Int}(x y:Rat)(h:s=t)(h0:s≠0):ec s x t y=0:=by unfold ec;rw [if_pos h,if_neg h0]
theorem ec_zero(x y:Rat):ec 0 x 0 y=rc x y:=by unfold ec;rw [if_pos rfl,if_pos rfl]
theorem ecmp_any(K:Nat)(s1:Int)(g1:Bool)(A1:Option Addr)(n1 c1:Nat)(B1:Option Addr)(m1 d1:Nat)(x1:Rat)(s2:Int)(g2:Bool)(A2:Option Addr)(n2 c2:Nat)(B2:Option Addr)(m2 d2:Nat)(x2:Rat)(w:World)(h1:RatV w K g1 (.slice A1 n1 c1) (.slice B1 m1 d1) x1)(h2:RatV w K g2 (.slice A2 n2 c2) (.slice B2 m2 d2) x2)(hK:K≤1073741824):
  Calls Tryz.prog 94 #[.agg #[.int .i64 s1,.bool g1,.slice A1 n1 c1,.slice B1 m1 d1],.agg #[.int .i64 s2,.bool g2,.slice A2 n2 c2,.slice B2 m2 d2]] w fun e w'=>e=.returned (.int .i64 (ec s1 x1 s2 x2))∧Below w.heap.size w w':=by
 rcases Int.lt_trichotomy s1 s2 with h | h | h
 ·rw [ec_lt x1 x2 h]
  have hq:(s1 == s2)=false:=by simp;omega
  obtain⟨LB0,LG0_0,LG1_0⟩:=bx2 w #[.int .i64 s1,.bool g1,.slice A1 n1 c1,.slice B1 m1 d1] 87 #[.int .i64 s2,.bool g2,.slice A2 n2 c2,.slice B2 m2 d2] 87
  go_enter Tryz.func94,Tryz.ntmps94
  go_wp2
  go_ret
  exact⟨rfl,LB0.out⟩
 ·subst h
  by_cases h0:s1=0
  ·subst h0;rw [ec_zero];obtain⟨LB0,LG0_0,LG1_0⟩:=bx2 w #[.int .i64 0,.bool g1,.slice A1 n1 c1,.slice B1 m1 d1] 87 #[.int .i64 0,.bool g2,.slice A2 n2 c2,.slice B2 m2 d2] 87;have HC:=Hd fun W (hW:Below w.heap.size w W)=>rcmp_any K g1 _ _ x1 g2 _ _ x2 W (h1.below hW) (h2.below hW) hK;clear h1 h2
   go_enter Tryz.func94,Tryz.ntmps94
   go_wp2_with fail;refine (HC.out _ LB0.out).mono ?_;rintro e w1 ⟨rfl,hb1⟩;have LB1:=stB LB0 hb1 LB0.out.size;have LG0_1:=stG LG0_0 hb1;have LG1_1:=stG LG1_0 hb1;clear LB0 LG0_0 LG1_0;go_wp2
   go_ret
   exact⟨rfl,LB1.out⟩
  ·rw [ec_inf x1 x2 rfl h0]
   have hq:(s1 == 0)=false:=by simp;omega
   obtain⟨LB0,LG0_0,LG1_0⟩:=bx2 w #[.int .i64 s1,.bool g1,.slice A1 n1 c1,.slice B1 m1 d1] 87 #[.int .i64 s1,.bool g2,.slice A2 n2 c2,.slice B2 m2 d2] 87
   go_enter Tryz.func94,Tryz.ntmps94
   go_wp2
   go_ret
   exact⟨rfl,LB0.out⟩
 ·rw [ec_gt x1 x2 h]
  have hq:(s1 == s2)=false:=by simp;omega
  have hq2:¬ s1<s2:=by omega
  obtain⟨LB0,LG0_0,LG1_0⟩:=bx2 w #[.int .i64 s1,.bool g1,.slice A1 n1 c1,.slice B1 m1 d1] 87 #[.int .i64 s2,.bool g2,.slice A2 n2 c2,.slice B2 m2 d2] 87
  go_enter Tryz.func94,Tryz.ntmps94
  go_wp2
  go_ret
  exact⟨rfl,LB0.out⟩
theorem lesser_any(K:Nat)(s1:Int)(g1:Bool)(A1:Option Addr)(n1 c1:Nat)(B1:Option Addr)(m1 d1:Nat)(x1:Rat)(s2:Int)(g2:Bool)(A2:Option Addr)(n2 c2:Nat)(B2:Option Addr)(m2 d2:Nat)(x2:Rat)(w:World)(h1:RatV w K g1 (.slice A1 n1 c1) (.slice B1 m1 d1) x1)(h2:RatV w K g2 (.slice A2 n2 c2) (.slice B2 m2 d2) x2)(hK:K≤1073741824):
  Calls Tryz.prog 151 #[.agg #[.int .i64 s1,.bool g1,.slice A1 n1 c1,.slice B1 m1 d1],.agg #[.int .i64 s2,.bool g2,.slice A2 n2 c2,.slice B2 m2 d2]] w (NewEnd w K (if ec s2 x2 s1 x1<0 then s2 else s1) (if ec s2 x2 s1 x1<0 then x2 else x1)):=by
 have HC:=Hd fun W (hW:Below w.heap.size w W)=>ecmp_any K s2 g2 A2 n2 c2 B2 m2 d2 x2 s1 g1 A1 n1 c1 B1 m1 d1 x1 W (h2.below hW) (h1.below hW) hK
 obtain⟨r,hr⟩:∃ r,ec s2 x2 s1 x1=r:=⟨_,rfl⟩
 rw [hr] at HC ⊢;have H1:=Hd h1;have H2:=Hd h2;clear h1 h2 hr
 by_cases h:r<0
 ·rw [if_pos h,if_pos h];obtain⟨LB0,LG0_0,LG1_0,LR⟩:=bx3 w #[.int .i64 s1,.bool g1,.slice A1 n1 c1,.slice B1 m1 d1] 87 #[.int .i64 s2,.bool g2,.slice A2 n2 c2,.slice B2 m2 d2] 87 #[.int .i64 0,.bool false,.slice none 0 0,.slice none 0 0] 87;have LR0:=Hd (HasBlk.of (n:=4) LR.out rfl rfl);clear LR
  go_enter Tryz.func151,Tryz.ntmps151
  go_wp2_with fail;refine (HC.out _ LB0.out).mono ?_;rintro e w1 ⟨rfl,hb1⟩;have LB1:=stB LB0 hb1 LB0.out.size;have LR1:=stR LR0 hb1;have LG0_1:=stG LG0_0 hb1;have LG1_1:=stG LG1_0 hb1;clear LB0 LR0 LG0_0 LG1_0;obtain⟨q1_0,q1_1,q1_2,q1_3⟩:=LG1_1.out.c4;obtain⟨ha0,hf0,ha1,hf1,ha2,hf2,ha3,hf3⟩:=LR1.out.sf4;obtain⟨hk0,hk1,hk2,hk3⟩:=LR1.out.sc4 (.int .i64 s2) (.bool g2) (.slice A2 n2 c2) (.slice B2 m2 d2);have F:=Hd (below_sets (w0:=w) (r:=(w.heap.size+2)) (by omega) [.int .i64 s2,.bool g2,.slice A2 n2 c2,.slice B2 m2 d2] 0 _ LB1.out)
  simp [sets] at hk0 hk1 hk2 hk3
  have FR:=Hd (LR1.out.rat (H2.out.below LB1.out) [.int .i64 s2,.bool g2,.slice A2 n2 c2,.slice B2 m2 d2]);clear hb1 HC H1 H2;go_wp2;refine bodyPost_ret (v:=.agg #[.int .i64 s2,.bool g2,.slice A2 n2 c2,.slice B2 m2 d2]) (by simp [results,Tryz.results151,go_sem,hk0,hk1,hk2,hk3]) rfl ?_
  exact⟨_,_,_,_,_,_,_,rfl,FR.out,F.out⟩
 ·rw [if_neg h,if_neg h];obtain⟨LB0,LG0_0,LG1_0,LR⟩:=bx3 w #[.int .i64 s1,.bool g1,.slice A1 n1 c1,.slice B1 m1 d1] 87 #[.int .i64 s2,.bool g2,.slice A2 n2 c2,.slice B2 m2 d2] 87 #[.int .i64 0,.bool false,.slice none 0 0,.slice none 0 0] 87;have LR0:=Hd (HasBlk.of (n:=4) LR.out rfl rfl);clear LR
  go_enter Tryz.func151,Tryz.ntmps151
  go_wp2_with fail;refine (HC.out _ LB0.out).mono ?_;rintro e w1 ⟨rfl,hb1⟩;have LB1:=stB LB0 hb1 LB0.out.size;have LR1:=stR LR0 hb1;have LG0_1:=stG LG0_0 hb1;have LG1_1:=stG LG1_0 hb1;clear LB0 LR0 LG0_0 LG1_0;obtain⟨q0_0,q0_1,q0_2,q0_3⟩:=LG0_1.out.c4;obtain⟨ha0,hf0,ha1,hf1,ha2,hf2,ha3,hf3⟩:=LR1.out.sf4;obtain⟨hk0,hk1,hk2,hk3⟩:=LR1.out.sc4 (.int .i64 s1) (.bool g1) (.slice A1 n1 c1) (.slice B1 m1 d1);have F:=Hd (below_sets (w0:=w) (r:=(w.heap.size+2)) (by omega) [.int .i64 s1,.bool g1,.slice A1 n1 c1,.slice B1 m1 d1] 0 _ LB1.out)
  simp [sets] at hk0 hk1 hk2 hk3
  have FR:=Hd (LR1.out.rat (H1.out.below LB1.out) [.int .i64 s1,.bool g1,.slice A1 n1 c1,.slice B1 m1 d1]);clear hb1 HC H1 H2;go_wp2;refine bodyPost_ret (v:=.agg #[.int .i64 s1,.bool g1,.slice A1 n1 c1,.slice B1 m1 d1]) (by simp [results,Tryz.results151,go_sem,hk0,hk1,hk2,hk3]) rfl ?_
  exact⟨_,_,_,_,_,_,_,rfl,FR.out,F.out⟩
theorem greater_any(K:Nat)(s1:Int)(g1:Bool)(A1:Option Addr)(n1 c1:Nat)(B1:Option Addr)(m1 d1:Nat)(x1:Rat)(s2:Int)(g2:Bool)(A2:Option Addr)(n2 c2:Nat)(B2:Option Addr)(m2 d2:Nat)(x2:Rat)(w:World)(h1:RatV w K g1 (.slice A1 n1 c1) (.slice B1 m1 d1) x1)(h2:RatV w K g2 (.slice A2 n2 c2) (.slice B2 m2 d2) x2)(hK:K≤1073741824):
  Calls Tryz.prog 154 #[.agg #[.int .i64 s1,.bool g1,.slice A1 n1 c1,.slice B1 m1 d1],.agg #[.int .i64 s2,.bool g2,.slice A2 n2 c2,.slice B2 m2 d2]] w (NewEnd w K (if 0<ec s2 x2 s1 x1 then s2 else s1) (if 0<ec s2 x2 s1 x1 then x2 else x1)):=by
 have HC:=Hd fun W (hW:Below w.heap.size w W)=>ecmp_any K s2 g2 A2 n2 c2 B2 m2 d2 x2 s1 g1 A1 n1 c1 B1 m1 d1 x1 W (h2.below hW) (h1.below hW) hK
 obtain⟨r,hr⟩:∃ r,ec s2 x2 s1 x1=r:=⟨_,rfl⟩
 rw [hr] at HC ⊢;have H1:=Hd h1;have H2:=Hd h2;clear h1 h2 hr
 by_cases h:0<r
 ·rw [if_pos h,if_pos h];obtain⟨LB0,LG0_0,LG1_0,LR⟩:=bx3 w #[.int .i64 s1,.bool g1,.slice A1 n1 c1,.slice B1 m1 d1] 87 #[.int .i64 s2,.bool g2,.slice A2 n2 c2,.slice B2 m2 d2] 87 #[.int .i64 0,.bool false,.slice none 0 0,.slice none 0 0] 87;have LR0:=Hd (HasBlk.of (n:=4) LR.out rfl rfl);clear LR
  go_enter Tryz.func154,Tryz.ntmps154
  go_wp2_with fail;refine (HC.out _ LB0.out).mono ?_;rintro e w1 ⟨rfl,hb1⟩;have LB1:=stB LB0 hb1 LB0.out.size;have LR1:=stR LR0 hb1;have LG0_1:=stG LG0_0 hb1;have LG1_1:=stG LG1_0 hb1;clear LB0 LR0 LG0_0 LG1_0;obtain⟨q1_0,q1_1,q1_2,q1_3⟩:=LG1_1.out.c4;obtain⟨ha0,hf0,ha1,hf1,ha2,hf2,ha3,hf3⟩:=LR1.out.sf4;obtain⟨hk0,hk1,hk2,hk3⟩:=LR1.out.sc4 (.int .i64 s2) (.bool g2) (.slice A2 n2 c2) (.slice B2 m2 d2);have F:=Hd (below_sets (w0:=w) (r:=(w.heap.size+2)) (by omega) [.int .i64 s2,.bool g2,.slice A2 n2 c2,.slice B2 m2 d2] 0 _ LB1.out)
  simp [sets] at hk0 hk1 hk2 hk3
  have FR:=Hd (LR1.out.rat (H2.out.below LB1.out) [.int .i64 s2,.bool g2,.slice A2 n2 c2,.slice B2 m2 d2]);clear hb1 HC H1 H2;go_wp2;refine bodyPost_ret (v:=.agg #[.int .i64 s2,.bool g2,.slice A2 n2 c2,.slice B2 m2 d2]) (by simp [results,Tryz.results154,go_sem,hk0,hk1,hk2,hk3]) rfl ?_
  exact⟨_,_,_,_,_,_,_,rfl,FR.out,F.out⟩
 ·rw [if_neg h,if_neg h];obtain⟨LB0,LG0_0,LG1_0,LR⟩:=bx3 w #[.int .i64 s1,.bool g1,.slice A1 n1 c1,.slice B1 m1 d1] 87 #[.int .i64 s2,.bool g2,.slice A2 n2 c2,.slice B2 m2 d2] 87 #[.int .i64 0,.bool false,.slice none 0 0,.slice none 0 0] 87;have LR0:=Hd (HasBlk.of (n:=4) LR.out rfl rfl);clear LR
  go_enter Tryz.func154,Tryz.ntmps154
  go_wp2_with fail;refine (HC.out _ LB0.out).mono ?_;rintro e w1 ⟨rfl,hb1⟩;have LB1:=stB LB0 hb1 LB0.out.size;have LR1:=stR LR0 hb1;have LG0_1:=stG LG0_0 hb1;have LG1_1:=stG LG1_0 hb1;clear LB0 LR0 LG0_0 LG1_0;obtain⟨q0_0,q0_1,q0_2,q0_3⟩:=LG0_1.out.c4;obtain⟨ha0,hf0,ha1,hf1,ha2,hf2,ha3,hf3⟩:=LR1.out.sf4;obtain⟨hk0,hk1,hk2,hk3⟩:=LR1.out.sc4 (.int .i64 s1) (.bool g1) (.slice A1 n1 c1) (.slice B1 m1 d1);have F:=Hd (below_sets (w0:=w) (r:=(w.heap.size+2)) (by omega) [.int .i64 s1,.bool g1,.slice A1 n1 c1,.slice B1 m1 d1] 0 _ LB1.out)
  simp [sets] at hk0 hk1 hk2 hk3
  have FR:=Hd (LR1.out.rat (H1.out.below LB1.out) [.int .i64 s1,.bool g1,.slice A1 n1 c1,.slice B1 m1 d1]);clear hb1 HC H1 H2;go_wp2;refine bodyPost_ret (v:=.agg #[.int .i64 s1,.bool g1,.slice A1 n1 c1,.slice B1 m1 d1]) (by simp [results,Tryz.results154,go_sem,hk0,hk1,hk2,hk3]) rfl ?_
  exact⟨_,_,_,_,_,_,_,rfl,FR.out,F.out⟩
end
def SubInv(rs ys cur:List Nat)(x i c b:Nat):Prop:=
 W32 cur∧cur.length=rs.length∧(∀ j:Nat,i≤j→cur[j]?.getD 0=rs[j]?.getD 0)∧c<4294967296∧b≤1 ∧
  num (cur.take i)+x*num (ys.take i)=num (rs.take i)+2^(32*i)*(b+c)
theorem SubInv.start{rs ys:List Nat}(x:Nat)(h:W32 rs):SubInv rs ys rs x 0 0 0:=
 ⟨h,rfl,fun _ _=>rfl,by omega,by omega,by simp [num]⟩
theorem SubInv.step{rs ys cur:List Nat}{x i c b t d b':Nat}(h:SubInv rs ys cur x i c b)(hi:i<rs.length)(hx:x<4294967296)(hy:W32 ys)
  (ht:t=c+ys[i]?.getD 0*x)(hd:d<4294967296)(hb':b'≤1)(he:d+(t % 4294967296+b)=rs[i]?.getD 0+4294967296*b'):
  SubInv rs ys (cur.set i d) x (i+1) (t / 4294967296) b':=by
 obtain⟨hw,hl,hr,hc,hb,hs⟩:=h;have h1:=hy.get i;have h2:ys[i]?.getD 0*x≤4294967295*4294967295:=Nat.mul_le_mul (by omega) (by omega);refine⟨hw.set _ hd,by simp [hl],fun j hj=>?_,by omega,hb',?_⟩
 ·rw [List.getElem?_set_ne (by omega)];exact hr j (by omega)
 ·have e1:num ((cur.set i d).take (i+1))=num (cur.take i)+2^(32*i)*d:=by
   rw [num_take_next,List.take_set_of_le (Nat.le_refl _),List.getElem?_set_self (by omega)];rfl
  rw [e1,num_take_next,num_take_next,pow32,Nat.mul_add x]
  have e2:x*(2^(32*i)*ys[i]?.getD 0)=2^(32*i)*(ys[i]?.getD 0*x):=by
   rw [Nat.mul_left_comm,Nat.mul_comm x]
  rw [e2];generalize ys[i]?.getD 0*x=z at *;generalize 2^(32*i)=p at *
  have e3:p*(b+c)+p*d+p*z=p*rs[i]?.getD 0+2^32*p*(b'+t / 4294967296):=by
   rw [Nat.mul_comm (2^32) p,Nat.mul_assoc,← Nat.mul_add,← Nat.mul_add,← Nat.mul_add]
   congr 1;omega
  omega
theorem SubInv.done{rs ys cur:List Nat}{x c b:Nat}(h:SubInv rs ys cur x rs.length c b)(hr:W32 rs)(hm:ys.length≤rs.length)(hle:x*num ys≤num rs):
  num cur=num rs - x*num ys:=by
 obtain⟨hw,hl,_,hc,hb,hs⟩:=h;rw [List.take_of_length_le (by omega),List.take_of_length_le (Nat.le_refl _),List.take_of_length_le hm] at hs;have h1:=num_lt hw;have h2:=num_lt hr;rw [hl] at h1
 have h3:b+c=0:=by
  rcases Nat.eq_zero_or_pos (b+c) with h3 | h3
  ·exact h3
  ·exfalso
   have:=Nat.mul_le_mul_left (2^(32*rs.length)) h3
   omega
 rw [h3] at hs
 omega
theorem guess_le{rs ys:List Nat}{n:Nat}(hy:W32 ys)(hrl:rs.length=n+2)(hyl:ys.length=n+1)(x:Nat)
  (hx:x=(rs[n+1]?.getD 0*4294967296+rs[n]?.getD 0) / (ys[n]?.getD 0+1)):x*num ys≤num rs:=by
 have h1:num ys≤2^(32*n)*(ys[n]?.getD 0+1):=by
  have e:num ys=num (ys.take n)+2^(32*n)*ys[n]?.getD 0:=by
   rw [← num_take_next,List.take_of_length_le (by omega)]
  have:=num_lt (hy.take n);rw [List.length_take,Nat.min_eq_left (by omega)] at this;rw [e,Nat.mul_add,Nat.mul_one];omega
 have h2:2^(32*n)*(rs[n+1]?.getD 0*4294967296+rs[n]?.getD 0)≤num rs:=by
  have e:num rs=num (rs.take n)+2^(32*n)*rs[n]?.getD 0+2^(32*(n+1))*rs[n+1]?.getD 0:=by
   rw [← num_take_next,← num_take_next,List.take_of_length_le (by omega)]
  rw [e,pow32,Nat.mul_add,Nat.mul_comm (2^32),Nat.mul_assoc,Nat.mul_comm (rs[n+1]?.getD 0)];generalize 2^(32*n)*rs[n]?.getD 0=a;generalize rs[n+1]?.getD 0=b
  show 2^(32*n)*(2^32*b)+a≤_
  omega
 have h3:x*(ys[n]?.getD 0+1)≤rs[n+1]?.getD 0*4294967296+rs[n]?.getD 0:=by
  rw [hx];exact Nat.div_mul_le_self _ _
 calc x*num ys≤x*(2^(32*n)*(ys[n]?.getD 0+1)):=Nat.mul_le_mul_left _ h1
  _=2^(32*n)*(x*(ys[n]?.getD 0+1)):=by rw [Nat.mul_left_comm]
  _≤2^(32*n)*(rs[n+1]?.getD 0*4294967296+rs[n]?.getD 0):=Nat.mul_le_mul_left _ h3
  _≤num rs:=h2
theorem num_shift_up{rs:List Nat}(h:rs≠[])(hz:rs[rs.length - 1]?.getD 0=0)(u:Nat):num (u :: rs.take (rs.length - 1))=u+4294967296*num rs:=by
 rw [num_cons];have hl:0<rs.length:=List.length_pos_iff.2 h
 have e:num rs=num (rs.take (rs.length - 1)):=by
  have:=num_take_next rs (rs.length - 1);rw [Nat.sub_add_cancel hl,List.take_of_length_le (Nat.le_refl _),hz] at this
  omega
 rw [← e]
def ByInv(us qs:List Nat)(V R i:Nat):Prop:=W32 qs∧qs.length=us.length∧num (us.drop i)=num (qs.drop i)*V+R∧R<V
theorem ByInv.start(us:List Nat){V:Nat}(hV:0<V):ByInv us (List.replicate us.length 0) V 0 us.length:=
 ⟨W32.replicate _,by simp,by simp [num],hV⟩
theorem num_drop_cons(l:List Nat)(i:Nat):num (l.drop i)=l[i]?.getD 0+4294967296*num (l.drop (i+1)):=by
 rw [num_tail (l.drop i),List.getElem?_drop,List.tail_drop];rfl
theorem ByInv.step{us qs:List Nat}{V R i d R':Nat}(h:ByInv us qs V R (i+1))(hi:i<us.length)(hd:d<4294967296)(he:us[i]?.getD 0+4294967296*R=d*V+R')(hR:R'<V):
  ByInv us (qs.set i d) V R' i:=by
 obtain⟨hw,hl,hs,_⟩:=h;refine⟨hw.set _ hd,by simp [hl],?_,hR⟩;rw [num_drop_cons us,hs,num_drop_cons (qs.set i d),List.getElem?_set_self (by omega)];rw [List.drop_set_of_lt (by omega)]
 show _=(d+4294967296*num (qs.drop (i+1)))*V+R'
 rw [Nat.mul_add,Nat.add_mul,Nat.mul_assoc];generalize num (qs.drop (i+1))*V=z at *
 omega
theorem ByInv.done{us qs:List Nat}{V R:Nat}(h:ByInv us qs V R 0):num us / V=num qs∧num us % V=R:=by
 obtain⟨_,_,hs,hR⟩:=h;rw [List.drop_zero,List.drop_zero] at hs;rw [hs,Nat.mul_comm]
 constructor
 ·rw [Nat.mul_add_div (by omega),Nat.div_eq_of_lt hR,Nat.add_zero]
 ·rw [Nat.mul_add_mod,Nat.mod_eq_of_lt hR]
section
open Go.RowKit
theorem sub_any(B:Option Addr)(g n m d x:Nat)(rs ys:List Nat)(w:World)(hr:Arr w g rs)(hrw:W32 rs)(hy:U32s w B m d ys)(hne:∀ ad,B=some ad→ad.block≠g)(hrl:rs.length=n)(hs:n≤8589934592)(hm:m≤n)
  (hx:x<4294967296)(hle:x*num ys≤num rs):
  Calls Tryz.prog 226 #[.slice (some ⟨g,0,none⟩) n n,.slice B m d,.int .u64 (x:Int)] w fun e w'=>
   ∃ rs',e=.returned (.tuple #[])∧Arr w' g rs'∧W32 rs'∧rs'.length=n∧num rs'=num rs - x*num ys∧w.grownBy w' (some g):=by
 have HR:=Hd hr;have HY:=Hd hy;have HRW:=Hd hrw;have HLE:=Hd hle;have HRL:=Hd hrl;clear hr hy hrw hle hrl
 go_enter Tryz.func226,Tryz.ntmps226
 go_wp2
 go_loopw [6,7,8] (fun cv bv iv wr=>∃ (i c b:Nat) (cur:List Nat),iv=.int .i64 i∧cv=.int .u64 c∧bv=.int .u64 b∧i≤n∧SubInv rs ys cur x i c b∧Arr wr g cur∧w.grownBy wr (some g)) (fun _ _ iv _=>n - (intOf iv).toNat)
 case atStart=>exact⟨0,0,0,rs,rfl,rfl,rfl,Nat.zero_le _,SubInv.start _ HRW.out,HR.out,World.grownBy.refl w _⟩
 case round=>
  obtain⟨i,c,b,cur,rfl,rfl,rfl,hi,hinv,harr,hgr⟩:=hrel;have HI:=Hd hinv;have HA:=Hd harr;have HG:=Hd hgr;have hc32:c<4294967296:=hinv.2.2.2.1;have hb1:b≤1:=hinv.2.2.2.2.1;clear hinv harr hgr
  by_cases hlt:i<n
  ·have hf:=HA.out.frozen i;have hcc:=HA.out.cell (j:=i) (by rw [HI.out.2.1,HRL.out];exact hlt);rw [HI.out.2.2.1 i (Nat.le_refl _)] at hcc;have hr1:=HRW.out.get i
   obtain⟨r,hrr⟩:∃ r,rs[i]?.getD 0=r:=⟨_,rfl⟩
   rw [hrr] at hcc hr1;have HRR:=Hd hrr;clear hrr
   by_cases hlm:i<m
   ·have hU:U32s wr B m d ys:=HY.out.keep HG.out.size (fun ad e h0=>by
     obtain⟨ad',e',hlt',_⟩:=HY.out.at_ h0;rw [e] at e';cases e'
     exact HG.out.block _ hlt' (fun h=>hne ad e (by injection h)))
    obtain⟨ad,rfl,hc⟩:=hU.cell (j:=i) hlm;have hy1:=HY.out.lt i
    obtain⟨y,hyy⟩:∃ y,ys[i]?.getD 0=y:=⟨_,rfl⟩
    rw [hyy] at hc hy1;have HYY:=Hd hyy;clear hyy hU;have hz1:y*x≤4294967295*4294967295:=Nat.mul_le_mul (by omega) (by omega)
    obtain⟨z,hz⟩:∃ z,y*x=z:=⟨_,rfl⟩
    rw [hz] at hz1
    have e1:(y:Int)*(x:Int)=(z:Int):=by rw [← hz];simp
    have HZ:=Hd hz;clear hz;have hmk:=mask32_i (a:=(c:Int)+(z:Int)) (by omega) (by omega)
    by_cases hbor:r<(c+z) % 4294967296+b
    ·go_wp2
     go_roundw
     case rel=>
      refine⟨i+1,(c+z) / 4294967296,1,cur.set i (r+4294967296 - ((c+z) % 4294967296+b)),by go_num,by go_num,rfl,by omega,HI.out.step (b':=1) (by rw [HRL.out];exact hlt) hx HY.out.w32 (by rw [HYY.out,HZ.out]) (by omega) (by omega) (by rw [HRR.out];omega),?_,HG.out.trans ⟨rfl,rfl,rfl,by simp,fun k _ hk=>Below.heap_setCell _ _ _ _ (fun e=>hk (by rw [e]))⟩⟩;rw [show (r:Int)+4294967296 - (((c:Int)+(z:Int)) % 4294967296+(b:Int))=((r+4294967296 - ((c+z) % 4294967296+b):Nat):Int) from by omega]
      exact HA.out.set _ _
     case measure=>simp [intOf];omega
    ·go_wp2
     go_roundw
     case rel=>
      refine⟨i+1,(c+z) / 4294967296,0,cur.set i (r - ((c+z) % 4294967296+b)),by go_num,by go_num,rfl,by omega,HI.out.step (b':=0) (by rw [HRL.out];exact hlt) hx HY.out.w32 (by rw [HYY.out,HZ.out]) (by omega) (by omega) (by rw [HRR.out];omega),?_,HG.out.trans ⟨rfl,rfl,rfl,by simp,fun k _ hk=>Below.heap_setCell _ _ _ _ (fun e=>hk (by rw [e]))⟩⟩;rw [show (r:Int) - (((c:Int)+(z:Int)) % 4294967296+(b:Int))=((r - ((c+z) % 4294967296+b):Nat):Int) from by omega]
      exact HA.out.set _ _
     case measure=>simp [intOf];omega
   ·have HYY:=Hd (show ys[i]?.getD 0=0 by rw [List.getElem?_eq_none (by rw [HY.out.len];omega)];rfl);have hmk:=mask32_i (a:=(c:Int)) (by omega) (by omega)
    by_cases hbor:r<(c) % 4294967296+b
    ·go_wp2
     go_roundw
     case rel=>
      refine⟨i+1,(c) / 4294967296,1,cur.set i (r+4294967296 - ((c) % 4294967296+b)),by go_num,by go_num,rfl,by omega,HI.out.step (b':=1) (by rw [HRL.out];exact hlt) hx HY.out.w32 (by rw [HYY.out];omega) (by omega) (by omega) (by rw [HRR.out];omega),?_,HG.out.trans ⟨rfl,rfl,rfl,by simp,fun k _ hk=>Below.heap_setCell _ _ _ _ (fun e=>hk (by rw [e]))⟩⟩;rw [show (r:Int)+4294967296 - (((c:Int)) % 4294967296+(b:Int))=((r+4294967296 - ((c) % 4294967296+b):Nat):Int) from by omega]
      exact HA.out.set _ _
     case measure=>simp [intOf];omega
    ·go_wp2
     go_roundw
     case rel=>
      refine⟨i+1,(c) / 4294967296,0,cur.set i (r - ((c) % 4294967296+b)),by go_num,by go_num,rfl,by omega,HI.out.step (b':=0) (by rw [HRL.out];exact hlt) hx HY.out.w32 (by rw [HYY.out];omega) (by omega) (by omega) (by rw [HRR.out];omega),?_,HG.out.trans ⟨rfl,rfl,rfl,by simp,fun k _ hk=>Below.heap_setCell _ _ _ _ (fun e=>hk (by rw [e]))⟩⟩;rw [show (r:Int) - (((c:Int)) % 4294967296+(b:Int))=((r - ((c) % 4294967296+b):Nat):Int) from by omega]
      exact HA.out.set _ _
     case measure=>simp [intOf];omega
  ·obtain rfl:i=n:=by omega
   go_wp2
   go_end0
   have hi1:=HI.out;have hrl:=HRL.out;subst hrl
   exact⟨cur,rfl,HA.out,hi1.1,hi1.2.1,hi1.done HRW.out (by rw [HY.out.len];exact hm) HLE.out,HG.out⟩
end
section
open Go.RowKit
theorem guess_any(B:Option Addr)(g n d:Nat)(rs ys:List Nat)(w:World)(hr:Arr w g rs)(hrw:W32 rs)(hy:U32s w B (n+1) d ys)(hrl:rs.length=n+2)(hs:n≤8589934592)
  (hle:num ys≤num rs)(hlt:num rs<num ys*4294967296):
  Calls Tryz.prog 225 #[.slice (some ⟨g,0,none⟩) (n+2) (n+2),.slice B (n+1) d] w fun e w'=>
   ∃ x:Nat,e=.returned (.int .u64 (x:Int))∧0<x∧x<4294967296∧x*num ys≤num rs∧∃ k,w'=w.drewN k:=by
 obtain⟨ad,rfl,hc⟩:=hy.cell (j:=n) (by omega);have hy1:=hy.lt n;have hr1:rs[n+1]?.getD 0<4294967296:=hrw.get _;have hr0:rs[n]?.getD 0<4294967296:=hrw.get _;have hc1:=hr.cell (j:=n+1) (by omega);have hc0:=hr.cell (j:=n) (by omega);have hg:=guess_le hy.w32 hrl hy.len
 obtain⟨y,hyy⟩:∃ y,ys[n]?.getD 0=y:=⟨_,rfl⟩
 obtain⟨r1,hrr1⟩:∃ r,rs[n+1]?.getD 0=r:=⟨_,rfl⟩
 obtain⟨r0,hrr0⟩:∃ r,rs[n]?.getD 0=r:=⟨_,rfl⟩
 rw [hyy] at hc hy1 hg;rw [hrr1] at hr1 hc1 hg;rw [hrr0] at hr0 hc0 hg;have hv:=num_lt hy.w32;clear hyy hrr1 hrr0
 have hp:0<num ys:=by
  rcases Nat.eq_zero_or_pos (num ys) with h | h
  ·rw [h] at hlt;omega
  ·exact h
 obtain⟨q,hq⟩:∃ q,(r1*4294967296+r0) / (y+1)=q:=⟨_,rfl⟩
 have hq1:=hg q hq.symm
 have hq2:q<4294967296:=by
  rcases Nat.lt_or_ge q 4294967296 with h | h
  ·exact h
  ·have:4294967296*num ys≤q*num ys:=Nat.mul_le_mul_right _ h;rw [Nat.mul_comm] at this;omega
 have hor:=or_join (i:=32) (x:=r1) (y:=r0) (by omega) (by omega) (by omega);rw [show ((r1*2^32:Nat):Int)=(r1:Int)*4294967296 from by omega,show ((r1*2^32+r0:Nat):Int)=(r1:Int)*4294967296+(r0:Int) from by omega] at hor
 have hdiv:((r1:Int)*4294967296+(r0:Int)) / ((y:Int)+1)=(q:Int):=by rw [← hq];simp
 have b1:(0:Int)≤(r1:Int)*4294967296+(r0:Int):=by omega
 have b2:(r1:Int)*4294967296+(r0:Int)<18446744073709551616:=by omega
 have HQ1:=Hd hq1;have HLE:=Hd hle;have HP:=Hd hp
 have i1:((n:Int)+1)<((n+2:Nat):Int):=by omega
 have i2:(n:Int)<((n+2:Nat):Int):=by omega
 have i3:(n:Int)<((n+1:Nat):Int):=by omega
 have i4:((n:Int)+1).toNat=n+1:=by omega
 clear hy hr hg hv hq1 hq hle hlt hp hrw hrl
 go_enter Tryz.func225,Tryz.ntmps225
 by_cases h0:q=0
 ·have g1:((q:Int) == 0)=true:=by simp;exact h0
  go_wp2_with fail
  go_quiet (fail)
  go_wp2
  go_ret
  exact⟨1,rfl,by omega,by omega,by have:=HLE.out;omega,_,rfl⟩
 ·have g1:((q:Int) == 0)=false:=by simp;exact h0
  go_wp2_with fail
  go_quiet (fail)
  go_wp2
  go_ret
  exact⟨q,ret_int hdiv,by omega,hq2,HQ1.out,_,rfl⟩
theorem guess_at(B:Option Addr)(g n d:Nat)(rs ys:List Nat)(w:World)(hr:Arr w g rs)(hrw:W32 rs)(hy:U32s w B n d ys)(hn:1≤n)(hrl:rs.length=n+1)(hs:n≤8589934592)
  (hle:num ys≤num rs)(hlt:num rs<num ys*4294967296):
  Calls Tryz.prog 225 #[.slice (some ⟨g,0,none⟩) (n+1) (n+1),.slice B n d] w fun e w'=>
   ∃ x:Nat,e=.returned (.int .u64 (x:Int))∧0<x∧x<4294967296∧x*num ys≤num rs∧∃ k,w'=w.drewN k:=by
 obtain⟨n,rfl⟩:∃ i,n=i+1:=⟨n - 1,by omega⟩
 exact guess_any B g n d rs ys w hr hrw hy hrl (by omega) hle hlt
end
section
open Go.RowKit
theorem W32.of_get{l:List Nat}(h:∀ j:Nat,l[j]?.getD 0<4294967296):W32 l:=by
 intro x hx;obtain⟨i,hi⟩:=List.mem_iff_getElem?.1 hx;have:=h i;rw [hi] at this;exact this
def NewU32s(w:World)(xs ys:List Nat)(e:Ending)(w':World):Prop:=
 ∃ A n c B m d,e=.returned (.tuple #[.slice A n c,.slice B m d])∧U32s w' A n c xs∧U32s w' B m d ys∧Below w.heap.size w w'
def Moved(rs cur:List Nat)(j:Nat):Prop:=cur.length=rs.length∧∀ t:Nat,t<rs.length→cur[t]?.getD 0=if j<t then rs[t - 1]?.getD 0 else rs[t]?.getD 0
theorem Moved.start(rs:List Nat):Moved rs rs (rs.length - 1):=⟨rfl,fun t ht=>by rw [if_neg (by omega)]⟩
theorem Moved.step{rs cur:List Nat}{j:Nat}(h:Moved rs cur (j+1))(hj:j+1<rs.length):Moved rs (cur.set (j+1) (rs[j]?.getD 0)) j:=by
 obtain⟨hl,hm⟩:=h;refine⟨by simp [hl],fun t ht=>?_⟩
 by_cases h1:t=j+1
 ·subst h1;rw [List.getElem?_set_self (by omega),if_pos (by omega)];rfl
 ·rw [List.getElem?_set_ne (by omega),hm t ht]
  by_cases h2:j<t
  ·rw [if_pos h2,if_pos (by omega)]
  ·rw [if_neg h2,if_neg (by omega)]
theorem Moved.done{rs cur:List Nat}(h:Moved rs cur 0)(h0:rs≠[])(hz:rs[rs.length - 1]?.getD 0=0)(u:Nat):num (cur.set 0 u)=u+4294967296*num rs:=by
 rw [← num_shift_up h0 hz];have hl:0<rs.length:=List.length_pos_iff.2 h0;refine num_ext fun t=>?_
 rcases Nat.eq_zero_or_pos t with h1 | h1
 ·subst h1;rw [List.getElem?_set_self (by rw [h.1];exact hl)];rfl
 ·rw [List.getElem?_set_ne (by omega)]
  obtain⟨t,rfl⟩:∃ i,t=i+1:=⟨t - 1,by omega⟩
  rw [List.getElem?_cons_succ]
  rcases Nat.lt_or_ge (t+1) rs.length with h2 | h2
  ·rw [h.2 _ h2,if_pos (by omega),List.getElem?_take_of_lt (by omega)];rfl
  ·rw [List.getElem?_eq_none (by rw [h.1];exact h2),List.getElem?_eq_none (by rw [List.length_take];omega)]
theorem by_less(A B:Option Addr)(n c m d:Nat)(xs ys:List Nat)(w:World)(hx:U32s w A n c xs)(hy:U32s w B m d ys)(hs:n≤8589934592)(hlt:num xs<num ys):
  Calls Tryz.prog 182 #[.slice A n c,.slice B m d] w (NewU32s w [] (digs (num xs))):=by
 have hc:=cmp_any A B n c m d xs ys w hx hy;rw [cmp3_lt hlt] at hc;have HC:=Hd hc;have HX:=Hd hx;clear hc hx hy hlt
 go_enter Tryz.func182,Tryz.ntmps182
 go_wp2_with fail;refine HC.out.mono ?_;rintro e w1 ⟨rfl,k,rfl⟩;have hnorm:=norm_any A n c xs (w.drewN k) (HX.out.below (below_drewN (Below.refl _ _) k)) (by omega);rw [trim_eq_digs HX.out.w32] at hnorm;have HN:=Hd hnorm;clear hnorm HC;go_wp2_with fail;refine HN.out.mono ?_;rintro e w2 ⟨A1,n1,c1,rfl,hu1,hb1⟩;have HF:=Hd (show NewU32s w [] (digs (num xs)) (.returned (.tuple #[.slice none 0 0,.slice A1 n1 c1])) w2 from⟨none,0,0,A1,n1,c1,rfl,U32s.nil _ _ _,hu1,(below_drewN (Below.refl _ _) k).trans hb1⟩);clear hu1 hb1 HN;go_wp2
 go_ret2
 exact HF.out
end
section
open Go.RowKit
set_option maxRecDepth 100000 in
theorem by_main(A B:Option Addr)(n c m d:Nat)(xs ys:List Nat)(w:World)(hx:U32s w A n c xs)(hy:U32s w B m d ys)(hs:n≤1073741824)(hm:m≤1073741824)(h0:0<num ys)(hle:num ys≤num xs):
  Calls Tryz.prog 182 #[.slice A n c,.slice B m d] w (NewU32s w (digs (num xs / num ys)) (digs (num xs % num ys))):=by
 have hc:=cmp_any A B n c m d xs ys w hx hy
 obtain⟨cv,hcv⟩:∃ cv,cmp3 (num xs) (num ys)=cv:=⟨_,rfl⟩
 have hcv0:¬ cv<0:=by rw [← hcv,cmp3_neg];omega
 rw [hcv] at hc;have HC:=Hd hc;have HX:=Hd hx;have HY:=Hd hy;have HLE:=Hd hle;have H0:=Hd h0;clear hc hx hy hle hcv
 obtain⟨L,hL⟩:∃ L,blen (num ys)=L:=⟨_,rfl⟩
 have hL0:1≤L:=by
  rw [← hL];have:=@blen_eq_zero (num ys);omega
 have hL1:L≤32*m:=by
  rw [← hL,blen_le_iff];have:=num_lt HY.out.w32
  rwa [HY.out.len] at this
 obtain⟨s,hs0⟩:∃ s,31 - (L - 1) % 32=s:=⟨_,rfl⟩
 have hs1:s≤31:=by omega
 have hsI:31 - ((L:Int) - 1) % 32=(s:Int):=by omega
 have HLL:=Hd hL;clear hL h0 hs0
 go_enter Tryz.func182,Tryz.ntmps182
 go_wp2_with fail;refine HC.out.mono ?_;rintro e w0 ⟨rfl,k0,rfl⟩;clear HC;have hlen:=len_any B m d ys (w.drewN k0) (HY.out.below (below_drewN (Below.refl _ _) k0));rw [HLL.out] at hlen;have HLEN:=Hd hlen;clear hlen;go_wp2_with fail;refine HLEN.out.mono ?_;rintro e w0 ⟨rfl,rfl⟩;clear HLEN;have hl1:=left_any A n c s xs (w.drewN k0) (HX.out.below (below_drewN (Below.refl _ _) k0)) (by omega) (by omega);have HL1:=Hd hl1;clear hl1;go_wp2_with fail;refine HL1.out.mono ?_;rintro e w1 ⟨Au,nu,cu,rfl,hu,hb1⟩;have hBw1:Below w.heap.size w w1:=(below_drewN (Below.refl _ _) k0).trans hb1;have hl2:=left_any B m d s ys w1 (HY.out.below hBw1) (by omega) (by omega);have HL2:=Hd hl2;have HU:=Hd hu;have HB1:=Hd hBw1;clear hl2 HL1 hu hb1 hBw1;go_wp2_with fail;refine HL2.out.mono ?_;rintro e w2 ⟨Av,nv,cv',rfl,hv,hb2⟩;have HU2:=Hd (HU.out.below hb2);have HV:=Hd hv;have HB2:=Hd (show Below w.heap.size w w2 from HB1.out.trans (hb2.mono HB1.out.size));clear HL2 HU HB1 hv hb2;have hVpos:0<num ys*2^s:=Nat.mul_pos H0.out (Nat.two_pow_pos s)
 have hnu:nu≤n+1:=by
  rw [← HU2.out.len];refine digs_length_le ?_;have h1:=num_lt HX.out.w32;rw [HX.out.len] at h1
  calc num xs*2^s<2^(32*n)*2^s:=Nat.mul_lt_mul_of_pos_right h1 (Nat.two_pow_pos s)
   _≤2^(32*(n+1)):=by rw [← Nat.pow_add];exact Nat.pow_le_pow_right (by omega) (by omega)
 have hnv:nv≤m+1:=by
  rw [← HV.out.len];refine digs_length_le ?_;have h1:=num_lt HY.out.w32;rw [HY.out.len] at h1
  calc num ys*2^s<2^(32*m)*2^s:=Nat.mul_lt_mul_of_pos_right h1 (Nat.two_pow_pos s)
   _≤2^(32*(m+1)):=by rw [← Nat.pow_add];exact Nat.pow_le_pow_right (by omega) (by omega)
 have hnv0:1≤nv:=by
  have h1:=HV.out.len;have:=@digs_length_eq_zero (num ys*2^s)
  omega
 have HVP:=Hd hVpos;clear hVpos;have hmk1:=fun W=>make_u32 (N:=(nu:Int)) (n:=nu) rfl (by omega) W;have hmk2:=fun W=>make_u32 (N:=(nv:Int)+1) (n:=nv+1) (by omega) (by omega) W;have hdiv1:num xs*2^s / (num ys*2^s)=num xs / num ys:=Nat.mul_div_mul_right _ _ (Nat.two_pow_pos s)
 have hdiv2:num xs*2^s % (num ys*2^s) / 2^s=num xs % num ys:=by rw [Nat.mul_mod_mul_right,Nat.mul_div_cancel _ (Nat.two_pow_pos s)]
 have hUn:num (digs (num xs*2^s))=num xs*2^s:=num_digs _
 obtain⟨U,hU⟩:∃ U,num xs*2^s=U:=⟨_,rfl⟩
 obtain⟨V,hVV⟩:∃ V,num ys*2^s=V:=⟨_,rfl⟩
 rw [hU,hVV] at hdiv1 hdiv2;rw [hU] at HU2 hUn;rw [hVV] at HV HVP;have HD1:=Hd hdiv1;have HD2:=Hd hdiv2;clear hdiv1 hdiv2 hU hVV H0 HLE HX HY hUn HLL;have hul:(digs U).length=nu:=HU2.out.len;have HUL:=Hd hul;clear hul;go_wp2
 go_loopw [11] (fun iv wr=>∃ (i R:Nat) (qs rs:List Nat),iv=.int .i64 ((i:Int) - 1)∧i≤nu∧ByInv (digs U) qs V R i∧Arr wr w2.heap.size qs∧Arr wr (w2.heap.size+1) rs∧W32 rs∧rs.length=nv+1∧num rs=R∧Below w2.heap.size w2 wr) (fun iv _=>(intOf iv+1).toNat)
 case atStart=>
  refine⟨nu,0,List.replicate nu 0,List.replicate (nv+1) 0,rfl,Nat.le_refl _,?_,?_,?_,W32.replicate _,by simp,num_replicate _,?_⟩
  ·have:=ByInv.start (digs U) HVP.out;rw [HUL.out] at this;exact this
  ·exact (Arr.zeros _ _).alloc _
  ·have:=Arr.zeros (w2.alloc (.cells (Array.replicate nu (wd 0)) 117)) (nv+1)
   simpa using this
  ·exact (below_alloc _ _).alloc (by simp) _
 case round=>
  clear hmk1 hmk2;obtain⟨i,R,qs,rs,rfl,hi,hinv,hq,hr,hrw,hrl,hrn,hb⟩:=hrel;have HI:=Hd hinv;have HQ:=Hd hq;have HR:=Hd hr;have HRW:=Hd hrw;have HRL:=Hd hrl;have HRN:=Hd hrn;have HB:=Hd hb;clear hinv hq hr hrw hrl hrn hb
  rcases Nat.eq_zero_or_pos i with hi0 | hi0
  ·subst hi0;obtain⟨e1,e2⟩:=HI.out.done;rw [num_digs] at e1 e2;have hright:=right_any (some ⟨w2.heap.size+1,0,none⟩) (nv+1) (nv+1) s rs wr (HR.out.u32s' HRW.out HRL.out (by omega)) (by omega) (by omega);rw [HRN.out,← e2,HD2.out] at hright;have HRI:=Hd hright;have E1:=Hd e1;clear hright e1 e2;go_wp2_with fail;refine HRI.out.mono ?_;rintro e w3 ⟨A3,n3,c3,rfl,hu3,hb3⟩;have HU3:=Hd hu3;have hqw:W32 qs:=HI.out.1;have hnorm:=norm_any (some ⟨w2.heap.size,0,none⟩) nu nu qs w3 ((HQ.out.u32s' hqw (by rw [HI.out.2.1,HUL.out]) (by omega)).below hb3) (by omega);rw [trim_eq_digs hqw,← E1.out,HD1.out] at hnorm;have HN:=Hd hnorm;have HB3:=Hd (show Below w.heap.size w w3 from HB2.out.trans ((HB.out.mono HB2.out.size).trans (hb3.mono (Nat.le_trans HB2.out.size HB.out.size))));clear hnorm HRI hu3 hb3 hqw;go_wp2_with fail;refine HN.out.mono ?_;rintro e w4 ⟨A4,n4,c4,rfl,hu4,hb4⟩;have HF:=Hd (show NewU32s w (digs (num xs / num ys)) (digs (num xs % num ys)) (.returned (.tuple #[.slice A4 n4 c4,.slice A3 n3 c3])) w4 from⟨A4,n4,c4,A3,n3,c3,rfl,hu4,HU3.out.below hb4,HB3.out.trans (hb4.mono HB3.out.size)⟩);clear hu4 hb4 HN;go_wp2
   go_ret2
   exact HF.out
  ·obtain⟨t,rfl⟩:∃ t,i=t+1:=⟨i - 1,by omega⟩
   rw [show (((t+1:Nat):Int) - 1)=(t:Int) from by omega]
   have j0:(0:Int)≤(t:Int):=by omega
   obtain⟨wo,hwo⟩:∃ wo:World,wo=wr:=⟨_,rfl⟩
   subst hwo;go_wp2
   go_loopw [12] (fun jv wr=>∃ (j:Nat) (cur:List Nat),jv=.int .i64 j∧j≤nv∧Moved rs cur j∧Arr wr w2.heap.size qs∧Arr wr (w2.heap.size+1) cur∧Below w2.heap.size w2 wr) (fun jv _=>(intOf jv).toNat)
   case atStart=>exact⟨nv,rs,by go_num,Nat.le_refl _,by have:=Moved.start rs;rw [HRL.out] at this;exact this,HQ.out,HR.out,HB.out⟩
   case round=>
    clear HQ HR HB;obtain⟨j,cur,rfl,hj,hmv,hq,hr,hb⟩:=hrel;have HMV:=Hd hmv;have HQ:=Hd hq;have HR:=Hd hr;have HB:=Hd hb;clear hmv hq hr hb
    rcases Nat.eq_zero_or_pos j with hj0 | hj0
    ·subst hj0;rw [show ((0:Nat):Int)=0 from rfl];obtain⟨ad,rfl,hcu⟩:=(HU2.out.below HB.out).cell (j:=t) (by omega);have hu1:=HU2.out.lt t;have hl:=HMV.out.1;have hf0:=HR.out.frozen 0;have hc0:=HR.out.cell (j:=0) (by rw [hl,HRL.out];omega)
     obtain⟨x1,hx1⟩:∃ x,cur[0]?.getD 0=x:=⟨_,rfl⟩
     rw [hx1] at hc0
     obtain⟨u,hu⟩:∃ u,(digs U)[t]?.getD 0=u:=⟨_,rfl⟩
     rw [hu] at hcu hu1;have hRV:R<V:=HI.out.2.2.2
     have hnum:=HMV.out.done (by intro h;rw [h] at HRL;have:=HRL.out;simp at this) (by
      rw [HRL.out,Nat.add_sub_cancel]
      have h1:num rs<2^(32*nv):=by
       rw [HRN.out];refine Nat.lt_trans hRV ?_;have:=num_lt HV.out.w32
       rwa [HV.out.len,num_digs] at this
      have h2:=num_take_next rs nv;rw [List.take_of_length_le (by rw [HRL.out];exact Nat.le_refl _)] at h2
      rcases Nat.eq_zero_or_pos (rs[nv]?.getD 0) with h3 | h3
      ·exact h3
      ·have:=Nat.le_mul_of_pos_right (2^(32*nv)) h3;omega) u
     rw [HRN.out] at hnum
     have hcw:W32 (cur.set 0 u):=by
      refine W32.of_get fun j=>?_
      by_cases hj1:j=0
      ·subst hj1;rw [List.getElem?_set_self (by rw [hl,HRL.out];omega)];exact hu1
      ·rw [List.getElem?_set_ne (by omega)]
       rcases Nat.lt_or_ge j rs.length with h2 | h2
       ·rw [HMV.out.2 j h2];split
        ·exact HRW.out.get _
        ·exact HRW.out.get _
       ·rw [List.getElem?_eq_none (by rw [hl];exact h2)];simp
     have hT:num (cur.set 0 u)<V*4294967296:=by
      rw [hnum];have:4294967296*(R+1)≤4294967296*V:=Nat.mul_le_mul_left _ hRV
      omega
     obtain⟨T,hTT⟩:∃ T,u+4294967296*R=T:=⟨_,rfl⟩
     rw [hTT] at hnum;rw [hnum] at hT;have HN1:=Hd hnum;have HCW:=Hd hcw;have HT:=Hd hT;have HTT:=Hd hTT;have HUU:=Hd hu;have HRV:=Hd hRV;have HCL:=Hd (show (cur.set 0 u).length=nv+1 by rw [List.length_set,hl,HRL.out]);clear hl hx1 hnum hcw hT hTT hu hRV
     obtain⟨w5,hw5⟩:∃ w5:World,w5=wr:=⟨_,rfl⟩
     subst hw5;go_wp2
     go_loopw [13] (fun dv wr=>∃ (d:Nat) (cur:List Nat),dv=.int .u64 (d:Int)∧d*V+num cur=T∧Arr wr w2.heap.size qs∧Arr wr (w2.heap.size+1) cur∧W32 cur∧cur.length=nv+1∧Below w2.heap.size w2 wr) (fun dv _=>4294967296 - (intOf dv).toNat)
     case atStart=>exact⟨0,_,rfl,by rw [HN1.out];omega,HQ.out.far (by simp) _,HR.out.set _ _,HCW.out,HCL.out,HB.out.setCell (by simp) _⟩
     case round=>
      clear HQ HR HB hcu hf0 hc0 HN1 HCW HCL;obtain⟨dd,cur,rfl,hsum,hq,hr,hcw,hcl,hb⟩:=hrel
      have hd32:dd<4294967296:=by
       rcases Nat.lt_or_ge dd 4294967296 with h | h
       ·exact h
       ·have h1:4294967296*V≤dd*V:=Nat.mul_le_mul_right _ h;rw [Nat.mul_comm] at h1;have:=HT.out;omega
      have hU1:=hr.u32s' hcw hcl (by omega);have hV1:=HV.out.below hb;have hcmp:=cmp_any (some ⟨w2.heap.size+1,0,none⟩) Av (nv+1) (nv+1) nv cv' cur (digs V) _ hU1 hV1;rw [num_digs] at hcmp
      obtain⟨cv2,hcv2⟩:∃ cv,cmp3 (num cur) V=cv:=⟨_,rfl⟩
      rw [hcv2] at hcmp;have HCMP:=Hd hcmp;have HSUM:=Hd hsum;have HQ:=Hd hq;have HR:=Hd hr;have HCW:=Hd hcw;have HCL:=Hd hcl;have HB:=Hd hb;have HV1:=Hd hV1
      by_cases hge:V≤num cur
      ·have g0:0≤cv2:=by rw [← hcv2,cmp3_nonneg];exact hge
       have HGE:=Hd hge;clear hU1 hV1 hcmp hcv2 hsum hq hr hcw hcl hb hge;go_wp2_with fail;refine HCMP.out.mono ?_;rintro e w6 ⟨rfl,k6,rfl⟩;clear HCMP;have hgs:=guess_at Av (w2.heap.size+1) nv cv' cur (digs V) (World.drewN _ k6) (HR.out.drewN k6) HCW.out (HV1.out.below (below_drewN (Below.refl _ _) k6)) hnv0 HCL.out (by omega) (by rw [num_digs];exact HGE.out) (by rw [num_digs];have:=HT.out;have:=HSUM.out;omega);rw [num_digs] at hgs;have HGS:=Hd hgs;clear hgs;go_wp2_with fail;refine HGS.out.mono ?_;rintro e w7 ⟨x,rfl,hx0,hx1,hx2,k7,rfl⟩;clear HGS;have HX2:=Hd hx2;clear hx2;go_wp2_with fail
       have hsb:=sub_any Av (w2.heap.size+1) (nv+1) nv cv' x cur (digs V) (World.drewN (World.drewN _ k6) k7) ((HR.out.drewN k6).drewN k7) HCW.out (HV1.out.below (below_drewN (below_drewN (Below.refl _ _) k6) k7))
        (by
          intro ad' e;obtain⟨ad2,e2,hlt2,_⟩:=HV.out.at_ (by omega);rw [e] at e2
          injection e2 with e2
          subst e2;omega) HCL.out (by omega) (by omega) hx1 (by rw [num_digs];exact HX2.out)
       rw [num_digs] at hsb;rw [World.drewN_drewN] at hsb;have HSB:=Hd hsb;clear hsb;refine HSB.out.mono ?_;rintro e w8 ⟨cur2,rfl,hr2,hw2,hl2,hn2,hg2⟩;have HR2:=Hd hr2;have HW2:=Hd hw2;have HL2:=Hd hl2;have HN2:=Hd hn2;have HQ2:=Hd (show Arr w8 w2.heap.size qs from (HQ.out.drewN (k6+k7)).of_block (hg2.block _ (HQ.out.drewN (k6+k7)).lt (by simp)));have HB2':=Hd (show Below w2.heap.size w2 w8 from (below_drewN HB.out (k6+k7)).grown hg2 HB.out.size (fun k hk=>by injection hk with hk;omega))
       have hsum2:(dd+x)*V+num cur2=T:=by
        have h1:=HSUM.out;have h2:=HX2.out;rw [hn2,Nat.add_mul];omega
       have hd2:dd+x<4294967296:=by
        rcases Nat.lt_or_ge (dd+x) 4294967296 with h | h
        ·exact h
        ·have h1:4294967296*V≤(dd+x)*V:=Nat.mul_le_mul_right _ h;rw [Nat.mul_comm] at h1;have:=HT.out;omega
       have HS2:=Hd hsum2;clear HSB hr2 hw2 hl2 hn2 hg2 hsum2;go_wp2
       go_roundw
       case rel=>exact⟨dd+x,cur2,by go_num,HS2.out,HQ2.out,HR2.out,HW2.out,HL2.out,HB2'.out⟩
       case measure=>simp [intOf];omega
      ·have g0:¬ 0≤cv2:=by rw [← hcv2,cmp3_nonneg];omega
       have hlt:num cur<V:=by omega
       have HLT:=Hd hlt;clear hU1 hV1 hcmp hcv2 hsum hq hr hcw hcl hb hge hlt;go_wp2_with fail;refine HCMP.out.mono ?_;rintro e w6 ⟨rfl,k6,rfl⟩;clear HCMP;have hf1:=(HQ.out.drewN k6).frozen t;have hc1:=(HQ.out.drewN k6).cell (j:=t) (by rw [HI.out.2.1,HUL.out];omega)
       obtain⟨y1,hy1⟩:∃ y,qs[t]?.getD 0=y:=⟨_,rfl⟩
       rw [hy1] at hc1;have hst:=HI.out.step (i:=t) (d:=dd) (R':=num cur) (by rw [HUL.out];omega) hd32 (by rw [HUU.out,HTT.out,HSUM.out]) HLT.out;have HST:=Hd hst;clear hst hy1
       have m1:(dd:Int) % 4294967296=(dd:Int):=by omega
       go_wp2
       go_roundw
       case rel=>exact⟨t,num cur,qs.set t dd,cur,by go_num,by omega,HST.out,(HQ.out.drewN k6).set _ _,(HR.out.drewN k6).far (by simp) _,HCW.out,HCL.out,rfl,(below_drewN HB.out k6).setCell (by simp) _⟩
       case measure=>simp [intOf]
    ·obtain⟨j,rfl⟩:∃ i,j=i+1:=⟨j - 1,by omega⟩
     have hl:=HMV.out.1;have hc0:=HR.out.cell (j:=j) (by rw [hl,HRL.out];omega);have hc1:=HR.out.cell (j:=j+1) (by rw [hl,HRL.out];omega);have hf1:=HR.out.frozen (j+1);have hv0:=HMV.out.2 j (by rw [HRL.out];omega);rw [if_neg (by omega)] at hv0;rw [hv0] at hc0
     obtain⟨x1,hx1⟩:∃ x,cur[j+1]?.getD 0=x:=⟨_,rfl⟩
     rw [hx1] at hc1;have HMS:=Hd (HMV.out.step (by rw [HRL.out];omega))
     obtain⟨x0,hx0⟩:∃ x,rs[j]?.getD 0=x:=⟨_,rfl⟩
     rw [hx0] at hc0 HMS;clear hl hv0 hx1 hx0;rw [show ((j+1:Nat):Int)=(j:Int)+1 from by omega]
     have i4:((j:Int)+1).toNat=j+1:=by omega
     have i5:((j:Int)+1)<((nv+1:Nat):Int):=by omega
     go_wp2
     go_roundw
     case rel=>exact⟨j,_,by go_num,by omega,HMS.out,HQ.out.far (by simp) _,HR.out.set _ _,HB.out.setCell (by simp) _⟩
     case measure=>simp [intOf]
end
section
open Go.RowKit
theorem word_any(A:Option Addr)(n c:Nat)(xs:List Nat)(w:World)(hx:U32s w A n c xs)(hv:wlen xs≤2):
  Calls Tryz.prog 261 #[.slice A n c] w fun e w'=>e=.returned (.tuple #[.int .u64 (num xs),.bool true])∧w=w':=by
 have HX:=Hd hx;have n1:=hx.small;have l1:=wlen_le xs;rw [hx.len] at l1;clear hx
 go_enter Tryz.func261,Tryz.ntmps261
 go_wp2_with fail;refine (words_any A n c xs w HX.out).mono ?_;rintro e w' ⟨rfl,rfl⟩
 have g2:¬ (2:Int)<(wlen xs:Int):=by omega
 go_wp2
 go_loop [5,6] (fun y v=>∃ k x:Nat,v=.int .i64 ((k:Int) - 1)∧y=.int .u64 (x:Int)∧k≤wlen xs∧x=num (xs.drop k)∧x<4294967296 ^ (wlen xs - k)) (fun _ v=>(intOf v+1).toNat)
 case atStart=>exact⟨wlen xs,0,rfl,rfl,Nat.le_refl _,by rw [num_drop HX.out.w32,Nat.div_eq_of_lt (num_lt_wlen HX.out.w32)],Nat.pow_pos (by omega)⟩
 case round=>
  obtain⟨k,x,rfl,rfl,hk,hx,hlt⟩:=hrel;have HN:=Hd hx;have HP:=Hd hlt;clear hx hlt
  rcases Nat.eq_zero_or_pos k with h0 | h0
  ·subst h0;go_wp2
   go_ret2
   have hn:num xs=x:=HN.out.symm
   exact⟨by rw [hn];rfl,rfl⟩
  ·obtain⟨i,rfl⟩:∃ i,k=i+1:=⟨k - 1,by omega⟩
   obtain⟨ad,rfl,hc⟩:=HX.out.cell (j:=i) (by omega);have hy:=HX.out.lt i
   have hx1:x<4294967296:=by
    have h1:=HP.out
    have h2:wlen xs - (i+1)≤1:=by omega
    exact Nat.lt_of_lt_of_le h1 (Nat.le_trans (Nat.pow_le_pow_right (by omega) h2) (by omega))
   have e0:num (xs.drop i)=xs[i]?.getD 0+4294967296*x:=by
    rw [HN.out,num_tail (xs.drop i)]
    congr 2
    ·rw [List.getElem?_drop];rfl
    ·rw [List.tail_drop]
   have E0:=Hd e0;clear e0;rw [show (((i+1:Nat):Int) - 1)=(i:Int) from by omega];have HB:=Hd (or_join (i:=32) (x:=x) (y:=xs[i]?.getD 0) (by omega) hy (by omega));go_wp2
   go_round
   case rel=>
    refine⟨i,x*4294967296+xs[i]?.getD 0,rfl,?_,by omega,by rw [E0.out];omega,?_⟩
    ·rw [← HB.out];rfl
    ·rw [show wlen xs - i=wlen xs - (i+1)+1 from by omega,Nat.pow_succ];have h1:=HP.out;have:(x+1)*4294967296≤4294967296 ^ (wlen xs - (i+1))*4294967296:=Nat.mul_le_mul_right _ h1
     omega
   case measure=>simp [intOf]
end
end Go.Proofs.YthlmlmfebpjgdaaGreatDoor
