/-
Lemmas for the statement: PartT SumT Sum2T.
-/
import Derived.Test.YthlmlmfebpjgdaaGreatDoorM02
import Derived.Test.YthlmlmfebpjgdaaGreatDoorM11
set_option linter.unusedSimpArgs false
set_option linter.unusedVariables false
set_option maxHeartbeats 12800000
namespace Go.Proofs.YthlmlmfebpjgdaaGreatDoor
section
open Go.RowKit
attribute [local go_sem] run_store_float run_frombits run_bitsof run_negf
def NewDy(w:World)(neg:Bool)(S:Nat)(x:Int)(e:Ending)(w':World):Prop:=
 ∃ A n c,e=.returned (.agg #[.bool neg,.slice A n c,.int .i64 x])/\U32s w' A n c (digs S)/\Below w.heap.size w w'
theorem part_walk(b e f S:Nat)(neg:Bool)(w:World)(hb:b<18446744073709551616)(he:b / 4503599627370496 % 2048=e)(hff:b % 4503599627370496=f)(hn:(b / 9223372036854775808 == 1)=neg)(hS:S=if e=0 then f else f+4503599627370496):
  Calls Tryz.prog 189 #[.float .f64 b] w (NewDy w neg S ((if e=0 then (e:Int) else (e:Int) - 1) - 1074)):=by
 have m1:=mask52_u64 hb;rw [hff] at m1
 have m2:bits .and .u64 ((b:Int) / 4503599627370496) 2047=(e:Int):=by
  have h:=mask11_u64 (x:=b / 4503599627370496) (by omega);rw [he,show ((b / 4503599627370496:Nat):Int)=(b:Int) / 4503599627370496 from by omega] at h
  exact h
 have m3:((b:Int) / 9223372036854775808 == 1)=neg:=by
  rw [<- hn,Bool.eq_iff_iff]
  simp only [beq_iff_eq]
  omega
 have ff:=fun W=>run_bitsof b W
 have hf2:f<4503599627370496:=by omega
 have he2:e<2048:=by omega
 have hor:=or_join' (i:=52) (x:=1) (y:=f) (by omega) (by omega) (by omega);rw [show ((1*2^52:Nat):Int)=4503599627370496 from rfl,show (f+1*2^52:Nat)=f+4503599627370496 from rfl] at hor;clear hff hn he
 by_cases h0:e=0
 ·subst h0;rw [if_pos rfl] at hS ⊢;subst hS;have HS:=Hd fun W=>nsmall_any S W (by omega);clear hor;obtain⟨LB0,LR⟩:=bx1 w #[.bool false,.slice none 0 0,.int .i64 0] 168;have LR0:=Hd (HasBlk.of (n:=3) LR.out rfl rfl);clear LR
  go_enter Tryz.func189,Tryz.ntmps189
  go_wp2_with fail;refine (HS.out _).mono ?_;rintro e w1 ⟨A,n,c,rfl,hu,hb1⟩;have LB1:=stB LB0 hb1 LB0.out.size;have LR1:=stR LR0 hb1;clear LB0 LR0;obtain⟨ha0,hf0,ha1,hf1,ha2,hf2⟩:=LR1.out.sf3;obtain⟨hk0,hk1,hk2⟩:=LR1.out.sc3 (.bool neg) (.slice A n c) (.int .i64 (-1074));have F:=Hd (below_sets (w0:=w) (r:=w.heap.size) (by omega) [.bool neg,.slice A n c,.int .i64 (-1074)] 0 _ LB1.out)
  simp [sets] at hk0 hk1 hk2
  have FU:=Hd (LR1.out.u32s hu [.bool neg,.slice A n c,.int .i64 (-1074)]);clear hu hb1 HS;go_wp2;refine bodyPost_ret (v:=.agg #[.bool neg,.slice A n c,.int .i64 (-1074)]) (by simp [results,Tryz.results189,go_sem,hk0,hk1,hk2]) rfl ?_
  exact⟨A,n,c,rfl,FU.out,F.out⟩
 ·rw [if_neg h0] at hS ⊢;subst hS;have HS:=Hd fun W=>nsmall_any (f+4503599627370496) W (by omega)
  obtain⟨S,hS⟩:∃ S,f+4503599627370496=S:=⟨_,rfl⟩
  rw [hS] at HS hor ⊢
  have hei:(0:Int)<(e:Int):=by omega
  clear h0 hS;obtain⟨LB0,LR⟩:=bx1 w #[.bool false,.slice none 0 0,.int .i64 0] 168;have LR0:=Hd (HasBlk.of (n:=3) LR.out rfl rfl);clear LR
  go_enter Tryz.func189,Tryz.ntmps189
  go_wp2_with fail;refine (HS.out _).mono ?_;rintro e w1 ⟨A,n,c,rfl,hu,hb1⟩;have LB1:=stB LB0 hb1 LB0.out.size;have LR1:=stR LR0 hb1;clear LB0 LR0;obtain⟨ha0,hf0,ha1,hf1,ha2,hf2⟩:=LR1.out.sf3;obtain⟨hk0,hk1,hk2⟩:=LR1.out.sc3 (.bool neg) (.slice A n c) (.int .i64 ((e:Int) - 1 - 1074));have F:=Hd (below_sets (w0:=w) (r:=w.heap.size) (by omega) [.bool neg,.slice A n c,.int .i64 ((e:Int) - 1 - 1074)] 0 _ LB1.out)
  simp [sets] at hk0 hk1 hk2
  have FU:=Hd (LR1.out.u32s hu [.bool neg,.slice A n c,.int .i64 ((e:Int) - 1 - 1074)]);clear hu hb1 HS;go_wp2;refine bodyPost_ret (v:=.agg #[.bool neg,.slice A n c,.int .i64 ((e:Int) - 1 - 1074)]) (by simp [results,Tryz.results189,go_sem,hk0,hk1,hk2]) rfl ?_
  exact⟨A,n,c,rfl,FU.out,F.out⟩
theorem part_any(b:Nat)(hb:b<18446744073709551616)(hf:fin b):∃ (S:Nat) (x:Int),S<9007199254740992/\-1074<=x/\x<=971/\fl (idx b)=rv (sgn b) S 1*2^x/\∀ w,Calls Tryz.prog 189 #[.float .f64 b] w (NewDy w (sgn b) S x):=by
 have hp:=fl_parts (b:=b) hf rfl rfl rfl
 have hn:(b / 9223372036854775808 == 1)=sgn b:=by
  unfold sgn;rw [Bool.eq_iff_iff]
  simp only [beq_iff_eq]
  omega
 refine⟨_,_,?_,?_,?_,?_,fun w=>part_walk b _ _ _ (sgn b) w hb rfl rfl hn rfl⟩
 ·split<;>omega
 ·split<;>omega
 ·split<;>omega
 ·by_cases h0:b / 4503599627370496 % 2048=0
  ·rw [if_pos h0,if_pos h0];exact hp.2.2.2 h0
  ·rw [if_neg h0,if_neg h0];exact hp.2.2.1 (by omega)
end
section
open Go.RowKit
attribute [local go_sem] run_store_float run_frombits run_bitsof run_negf
theorem sum_left(n1:Bool)(A1:Option Addr)(m1 c1 S1:Nat)(e1:Int)(n2:Bool)(A2:Option Addr)(m2 c2 S2:Nat)(e2:Int)(w:World)(h2:U32s w A2 m2 c2 (digs S2))(hm:m1=0):Calls Tryz.prog 201 #[.agg #[.bool n1,.slice A1 m1 c1,.int .i64 e1],.agg #[.bool n2,.slice A2 m2 c2,.int .i64 e2]] w (NewDy w n2 S2 e2):=by
 subst hm;have H2:=Hd h2;clear h2;obtain⟨LB0,LG0_0,LG1_0,LR⟩:=bx3 w #[.bool n1,.slice A1 0 c1,.int .i64 e1] 168 #[.bool n2,.slice A2 m2 c2,.int .i64 e2] 168 #[.bool false,.slice none 0 0,.int .i64 0] 168;have LR0:=Hd (HasBlk.of (n:=3) LR.out rfl rfl);clear LR;clear LB0 LG0_0 LG1_0 LR0
 go_enter Tryz.func201,Tryz.ntmps201
 go_wp2;refine bodyPost_ret (v:=.agg #[.bool n2,.slice A2 m2 c2,.int .i64 e2]) (by simp [results,Tryz.results201,go_sem]) rfl ?_
 exact have b:=(((below_alloc w _).alloc (by simp<;>omega) _).alloc (by simp<;>omega) _);⟨A2,m2,c2,rfl,H2.out.below b,b⟩
theorem sum_right(n1:Bool)(A1:Option Addr)(m1 c1 S1:Nat)(e1:Int)(n2:Bool)(A2:Option Addr)(m2 c2 S2:Nat)(e2:Int)(w:World)(h1:U32s w A1 m1 c1 (digs S1))(hm1:0<m1)(hm:m2=0):Calls Tryz.prog 201 #[.agg #[.bool n1,.slice A1 m1 c1,.int .i64 e1],.agg #[.bool n2,.slice A2 m2 c2,.int .i64 e2]] w (NewDy w n1 S1 e1):=by
 subst hm
 have hq1:((m1:Int) == 0)=false:=by simp;omega
 have H1:=Hd h1;clear h1 hm1;obtain⟨LB0,LG0_0,LG1_0,LR⟩:=bx3 w #[.bool n1,.slice A1 m1 c1,.int .i64 e1] 168 #[.bool n2,.slice A2 0 c2,.int .i64 e2] 168 #[.bool false,.slice none 0 0,.int .i64 0] 168;have LR0:=Hd (HasBlk.of (n:=3) LR.out rfl rfl);clear LR;clear LB0 LG0_0 LG1_0 LR0
 go_enter Tryz.func201,Tryz.ntmps201
 go_wp2;refine bodyPost_ret (v:=.agg #[.bool n1,.slice A1 m1 c1,.int .i64 e1]) (by simp [results,Tryz.results201,go_sem]) rfl ?_
 exact have b:=(((below_alloc w _).alloc (by simp<;>omega) _).alloc (by simp<;>omega) _);⟨A1,m1,c1,rfl,H1.out.below b,b⟩
theorem sum_keep(n1:Bool)(A1:Option Addr)(m1 c1 S1:Nat)(e1:Int)(n2:Bool)(A2:Option Addr)(m2 c2 S2:Nat)(e2:Int)(k:Nat)(w:World)(h1:U32s w A1 m1 c1 (digs S1))(h2:U32s w A2 m2 c2 (digs S2))(hS1:0<S1)(hS2:0<S2)(hle:e1<=e2)(hk:e2=e1+k)(he1:-1000000<=e1/\e1<=1000000)(he2:-1000000<=e2/\e2<=1000000)(hb1:blen S1<=500000)(hb2:blen S2+k<=500000):
  Calls Tryz.prog 201 #[.agg #[.bool n1,.slice A1 m1 c1,.int .i64 e1],.agg #[.bool n2,.slice A2 m2 c2,.int .i64 e2]] w (NewDy w (dsum n1 S1 n2 (S2*2^k)).1 (dsum n1 S1 n2 (S2*2^k)).2 e1):=by
 have hq1:((m1:Int) == 0)=false:=by
  have:=digs_len_pos hS1 h1.len
  simp;omega
 have hq2:((m2:Int) == 0)=false:=by
  have:=digs_len_pos hS2 h2.len
  simp;omega
 have hek:e2 - e1=(k:Int):=by omega
 have hbq:=blen_shl S2 k hS2
 obtain⟨T,hT⟩:∃ T,S2*2^k=T:=⟨_,rfl⟩
 have HSH:=Hd fun W (hW:Below w.heap.size w W)=>nshl_any A2 m2 c2 k (digs S2) W (h2.below hW) (wlen_digs_le (K:=16384) (by omega)) (by rw [num_digs];omega);rw [num_digs,hT] at HSH;rw [hT] at hbq ⊢;have HP:=Hd h1;have HBP:=Hd hb1;have HBT:=Hd (show blen T<=500000 by omega);have HADD:=Hd fun W (B:Option Addr) (mB cB:Nat) (hW:Below w.heap.size w W) (hB:U32s W B mB cB (digs T))=>nadd_any A1 B m1 c1 mB cB (digs S1) (digs T) W (h1.below hW) hB (wlen_digs_le (K:=16383) (by omega)) (wlen_digs_le (K:=16383) (by omega));have HCMP:=Hd fun W (B:Option Addr) (mB cB:Nat) (hW:Below w.heap.size w W) (hB:U32s W B mB cB (digs T))=>ncmp_any A1 B m1 c1 mB cB (digs S1) (digs T) W (h1.below hW) hB;have HSB1:=Hd fun (hle:T<=S1) W (B:Option Addr) (mB cB:Nat) (hW:Below w.heap.size w W) (hB:U32s W B mB cB (digs T))=>nsub_any A1 B m1 c1 mB cB (digs S1) (digs T) W (h1.below hW) hB (wlen_digs_le (K:=16384) (by omega)) (wlen_digs_le (K:=16384) (by omega)) (by rw [num_digs,num_digs];exact hle);have HSB2:=Hd fun (hle:S1<=T) W (B:Option Addr) (mB cB:Nat) (hW:Below w.heap.size w W) (hB:U32s W B mB cB (digs T))=>nsub_any B A1 mB cB m1 c1 (digs T) (digs S1) W hB (h1.below hW) (wlen_digs_le (K:=16384) (by omega)) (wlen_digs_le (K:=16384) (by omega)) (by rw [num_digs,num_digs];exact hle);rw [num_digs,num_digs] at HADD HCMP HSB1 HSB2
 have hee:e1 - e2<=2000000/\-2000000<=e1 - e2:=by omega
 obtain⟨ng,hng⟩:∃ b,(dsum n1 S1 n2 T).1=b:=⟨_,rfl⟩
 obtain⟨Sg,hsg⟩:∃ b,(dsum n1 S1 n2 T).2=b:=⟨_,rfl⟩
 rw [hng,hsg];have HDS:=Hd (show dsum n1 S1 n2 T=(ng,Sg) from by rw [<- hng,<- hsg]);clear hng hsg;clear h1 h2 hS1 hS2 hT hbq hb1 hb2 hk;obtain⟨LB0,LG0_0,LG1_0,LR⟩:=bx3 w #[.bool n1,.slice A1 m1 c1,.int .i64 e1] 168 #[.bool n2,.slice A2 m2 c2,.int .i64 e2] 168 #[.bool false,.slice none 0 0,.int .i64 0] 168;have LR0:=Hd (HasBlk.of (n:=3) LR.out rfl rfl);clear LR
 go_enter Tryz.func201,Tryz.ntmps201
 obtain⟨q0_0,q0_1,q0_2⟩:=LG0_0.out.c3;obtain⟨q1_0,q1_1,q1_2⟩:=LG1_0.out.c3;go_wp2_with fail;refine (HSH.out _ LB0.out).mono ?_;rintro e w2 ⟨A3,m3,c3,rfl,hu3,hbb2⟩;have LB1:=stB LB0 hbb2 LB0.out.size;have LR1:=stR LR0 hbb2;have LG0_1:=stG LG0_0 hbb2;have LG1_1:=stG LG1_0 hbb2;clear LB0 LR0 LG0_0 LG1_0;clear hbb2 q0_0 q0_1 q0_2 q1_0 q1_1 q1_2;obtain⟨q1_0,q1_1,q1_2⟩:=LG1_1.out.c3;have hf1:=LG1_1.out.frozen 1
 go_upto_region 8 with fail
 clear q1_0 q1_1 q1_2 hf1;have hu3s:=hu3.carry LG1_1.out rfl 1 (.slice A3 m3 c3);have LB2:=Hd (LB1.out.setCell (p:=⟨(w.heap.size+1),1,none⟩) (show w.heap.size<=(w.heap.size+1) by omega) (.slice A3 m3 c3));have LR2:=Hd (show HasBlk (w2.setCell ⟨(w.heap.size+1),1,none⟩ (.slice A3 m3 c3)) (w.heap.size+2) 168 3 from LR1.out.other (by omega) 1 [.slice A3 m3 c3]);have LG0_2:=Hd (show Blk (w2.setCell ⟨(w.heap.size+1),1,none⟩ (.slice A3 m3 c3)) w.heap.size 168 #[.bool n1,.slice A1 m1 c1,.int .i64 e1] from LG0_1.out.other (by omega) 1 [.slice A3 m3 c3]);have LG1_2:=Hd (LG1_1.out.set 1 (.slice A3 m3 c3));clear LB1 LR1 LG0_1 LG1_1
 obtain⟨V3,hV3⟩:∃ X,(w2.setCell ⟨(w.heap.size+1),1,none⟩ (.slice A3 m3 c3))=X:=⟨_,rfl⟩
 rw [hV3] at hu3s LB2 LR2 LG0_2 LG1_2 ⊢;have HU3:=Hd hu3s;clear hV3 hu3 hu3s HSH
 by_cases hs:n1=n2
 ·subst hs;have HN:=Hd (show ng=n1/\Sg=S1+T from by have h:=HDS.out;unfold dsum at h;rw [if_pos rfl] at h;cases h;exact⟨rfl,rfl⟩);clear HDS;obtain⟨q0_0,q0_1,q0_2⟩:=LG0_2.out.c3;obtain⟨q1_0,q1_1,q1_2⟩:=LG1_2.out.c3;go_wp2_with fail;refine (HADD.out _ _ _ _ LB2.out HU3.out).mono ?_;rintro e w4 ⟨A4,m4,c4,rfl,hu4,hbb4⟩;have LB3:=stB LB2 hbb4 LB2.out.size;have LR3:=stR LR2 hbb4;have LG0_3:=stG LG0_2 hbb4;have LG1_3:=stG LG1_2 hbb4;clear LB2 LR2 LG0_2 LG1_2;clear hbb4 q0_0 q0_1 q0_2 q1_0 q1_1 q1_2;obtain⟨q0_0,q0_1,q0_2⟩:=LG0_3.out.c3;have hf1:=LG0_3.out.frozen 1;have hu4s:=hu4.carry LG0_3.out rfl 1 (.slice A4 m4 c4)
  go_upto_region 10 with fail
  clear q0_0 q0_1 q0_2 hf1;have LB4:=Hd (LB3.out.setCell (p:=⟨w.heap.size,1,none⟩) (show w.heap.size<=w.heap.size by omega) (.slice A4 m4 c4));have LR4:=Hd (show HasBlk (w4.setCell ⟨w.heap.size,1,none⟩ (.slice A4 m4 c4)) (w.heap.size+2) 168 3 from LR3.out.other (by omega) 1 [.slice A4 m4 c4]);have LG0_4:=Hd (LG0_3.out.set 1 (.slice A4 m4 c4));have LG1_4:=Hd (show Blk (w4.setCell ⟨w.heap.size,1,none⟩ (.slice A4 m4 c4)) (w.heap.size+1) 168 #[.bool n1,.slice A3 m3 c3,.int .i64 e2] from LG1_3.out.other (by omega) 1 [.slice A4 m4 c4]);clear LB3 LR3 LG0_3 LG1_3
  obtain⟨V4,hV4⟩:∃ X,(w4.setCell ⟨w.heap.size,1,none⟩ (.slice A4 m4 c4))=X:=⟨_,rfl⟩
  rw [hV4] at hu4s LB4 LR4 LG0_4 LG1_4 ⊢;clear hV4 hu4;obtain⟨q0_0,q0_1,q0_2⟩:=LG0_4.out.c3;obtain⟨ha0,hf0,ha1,hf1,ha2,hf2⟩:=LR4.out.sf3;obtain⟨hk0,hk1,hk2⟩:=LR4.out.sc3 (.bool n1) (.slice A4 m4 c4) (.int .i64 e1);have F:=Hd (below_sets (w0:=w) (r:=(w.heap.size+2)) (by omega) [.bool n1,.slice A4 m4 c4,.int .i64 e1] 0 _ LB4.out)
  simp [sets] at hk0 hk1 hk2
  have FU:=Hd (LR4.out.u32s hu4s [.bool n1,.slice A4 m4 c4,.int .i64 e1]);clear hu4s;go_wp2;refine bodyPost_ret (v:=.agg #[.bool n1,.slice A4 m4 c4,.int .i64 e1]) (by simp [results,Tryz.results201,go_sem,hk0,hk1,hk2]) rfl ?_
  exact⟨A4,m4,c4,by rw [HN.out.1],by rw [HN.out.2];exact FU.out,F.out⟩
 ·have hs2:(n1 == n2)=false:=by simp [hs]
  obtain⟨q0_0,q0_1,q0_2⟩:=LG0_2.out.c3;obtain⟨q1_0,q1_1,q1_2⟩:=LG1_2.out.c3;go_wp2_with fail;refine (HCMP.out _ _ _ _ LB2.out HU3.out).mono ?_;rintro e w3 ⟨rfl,z,hz⟩
  have hbb3:Below V3.heap.size V3 w3:=by rw [hz];exact below_drewN (Below.refl _ _) z
  have LB3:=stB LB2 hbb3 LB2.out.size;have LR3:=stR LR2 hbb3;have LG0_3:=stG LG0_2 hbb3;have LG1_3:=stG LG1_2 hbb3;clear LB2 LR2 LG0_2 LG1_2;have HU3b:=Hd (HU3.out.below hbb3);clear hz hbb3 HU3 q0_0 q0_1 q0_2 q1_0 q1_1 q1_2
  by_cases hlt:S1<T
  ·have HN:=Hd (show ng=n2/\Sg=T - S1 from by have h:=HDS.out;unfold dsum at h;rw [if_neg hs,if_pos hlt] at h;cases h;exact⟨rfl,rfl⟩);rw [cmp3_lt hlt];clear HDS hs;obtain⟨q0_0,q0_1,q0_2⟩:=LG0_3.out.c3;obtain⟨q1_0,q1_1,q1_2⟩:=LG1_3.out.c3;have hf0:=LG0_3.out.frozen 0
   go_upto_region 13 with fail
   clear q0_0 q0_1 q0_2 q1_0 q1_1 q1_2 hf0;have hu5:=HU3b.out.carry LG0_3.out rfl 0 (.bool n2);have LB4:=Hd (LB3.out.setCell (p:=⟨w.heap.size,0,none⟩) (show w.heap.size<=w.heap.size by omega) (.bool n2));have LR4:=Hd (show HasBlk (w3.setCell ⟨w.heap.size,0,none⟩ (.bool n2)) (w.heap.size+2) 168 3 from LR3.out.other (by omega) 0 [.bool n2]);have LG0_4:=Hd (LG0_3.out.set 0 (.bool n2));have LG1_4:=Hd (show Blk (w3.setCell ⟨w.heap.size,0,none⟩ (.bool n2)) (w.heap.size+1) 168 #[.bool n2,.slice A3 m3 c3,.int .i64 e2] from LG1_3.out.other (by omega) 0 [.bool n2]);clear LB3 LR3 LG0_3 LG1_3
   obtain⟨V5,hV5⟩:∃ X,(w3.setCell ⟨w.heap.size,0,none⟩ (.bool n2))=X:=⟨_,rfl⟩
   rw [hV5] at hu5 LB4 LR4 LG0_4 LG1_4 ⊢;clear hV5;obtain⟨q0_0,q0_1,q0_2⟩:=LG0_4.out.c3;obtain⟨q1_0,q1_1,q1_2⟩:=LG1_4.out.c3;have hf01:=LG0_4.out.frozen 1;have hf11:=LG1_4.out.frozen 1
   go_upto_region 14 with fail
   clear q0_0 q0_1 q0_2 q1_0 q1_1 q1_2 hf01 hf11;have hu6:=hu5.carry LG0_4.out rfl 1 (.slice A3 m3 c3);have LB5:=Hd (LB4.out.setCell (p:=⟨w.heap.size,1,none⟩) (show w.heap.size<=w.heap.size by omega) (.slice A3 m3 c3));have LR5:=Hd (show HasBlk (V5.setCell ⟨w.heap.size,1,none⟩ (.slice A3 m3 c3)) (w.heap.size+2) 168 3 from LR4.out.other (by omega) 1 [.slice A3 m3 c3]);have LG0_5:=Hd (LG0_4.out.set 1 (.slice A3 m3 c3));have LG1_5:=Hd (show Blk (V5.setCell ⟨w.heap.size,1,none⟩ (.slice A3 m3 c3)) (w.heap.size+1) 168 #[.bool n2,.slice A3 m3 c3,.int .i64 e2] from LG1_4.out.other (by omega) 1 [.slice A3 m3 c3]);clear LB4 LR4 LG0_4 LG1_4
   obtain⟨V6,hV6⟩:∃ X,(V5.setCell ⟨w.heap.size,1,none⟩ (.slice A3 m3 c3))=X:=⟨_,rfl⟩
   rw [hV6] at hu6 LB5 LR5 LG0_5 LG1_5 ⊢;clear hV6;have hu7:=hu6.carry LG1_5.out rfl 1 (.slice A1 m1 c1);have LB6:=Hd (LB5.out.setCell (p:=⟨(w.heap.size+1),1,none⟩) (show w.heap.size<=(w.heap.size+1) by omega) (.slice A1 m1 c1));have LR6:=Hd (show HasBlk (V6.setCell ⟨(w.heap.size+1),1,none⟩ (.slice A1 m1 c1)) (w.heap.size+2) 168 3 from LR5.out.other (by omega) 1 [.slice A1 m1 c1]);have LG0_6:=Hd (show Blk (V6.setCell ⟨(w.heap.size+1),1,none⟩ (.slice A1 m1 c1)) w.heap.size 168 #[.bool n2,.slice A3 m3 c3,.int .i64 e1] from LG0_5.out.other (by omega) 1 [.slice A1 m1 c1]);have LG1_6:=Hd (LG1_5.out.set 1 (.slice A1 m1 c1));clear LB5 LR5 LG0_5 LG1_5
   obtain⟨V7,hV7⟩:∃ X,(V6.setCell ⟨(w.heap.size+1),1,none⟩ (.slice A1 m1 c1))=X:=⟨_,rfl⟩
   rw [hV7] at hu7 LB6 LR6 LG0_6 LG1_6 ⊢;clear hV7 hu5 hu6;have HU7:=Hd hu7;clear hu7;obtain⟨q0_0,q0_1,q0_2⟩:=LG0_6.out.c3;obtain⟨q1_0,q1_1,q1_2⟩:=LG1_6.out.c3;go_wp2_with fail;refine (HSB2.out (Nat.le_of_lt hlt) _ _ _ _ LB6.out HU7.out).mono ?_;rintro e w4 ⟨A4,m4,c4,rfl,hu4,hbb4⟩;have LB7:=stB LB6 hbb4 LB6.out.size;have LR7:=stR LR6 hbb4;have LG0_7:=stG LG0_6 hbb4;have LG1_7:=stG LG1_6 hbb4;clear LB6 LR6 LG0_6 LG1_6;clear hbb4 q0_0 q0_1 q0_2 q1_0 q1_1 q1_2;obtain⟨q0_0,q0_1,q0_2⟩:=LG0_7.out.c3;have hf1:=LG0_7.out.frozen 1;have hu4s:=hu4.carry LG0_7.out rfl 1 (.slice A4 m4 c4)
   go_upto_region 15 with fail
   clear q0_0 q0_1 q0_2 hf1;have LB8:=Hd (LB7.out.setCell (p:=⟨w.heap.size,1,none⟩) (show w.heap.size<=w.heap.size by omega) (.slice A4 m4 c4));have LR8:=Hd (show HasBlk (w4.setCell ⟨w.heap.size,1,none⟩ (.slice A4 m4 c4)) (w.heap.size+2) 168 3 from LR7.out.other (by omega) 1 [.slice A4 m4 c4]);have LG0_8:=Hd (LG0_7.out.set 1 (.slice A4 m4 c4));have LG1_8:=Hd (show Blk (w4.setCell ⟨w.heap.size,1,none⟩ (.slice A4 m4 c4)) (w.heap.size+1) 168 #[.bool n2,.slice A1 m1 c1,.int .i64 e2] from LG1_7.out.other (by omega) 1 [.slice A4 m4 c4]);clear LB7 LR7 LG0_7 LG1_7
   obtain⟨V4,hV4⟩:∃ X,(w4.setCell ⟨w.heap.size,1,none⟩ (.slice A4 m4 c4))=X:=⟨_,rfl⟩
   rw [hV4] at hu4s LB8 LR8 LG0_8 LG1_8 ⊢;clear hV4 hu4;obtain⟨q0_0,q0_1,q0_2⟩:=LG0_8.out.c3;obtain⟨ha0,hf0,ha1,hf1,ha2,hf2⟩:=LR8.out.sf3;obtain⟨hk0,hk1,hk2⟩:=LR8.out.sc3 (.bool n2) (.slice A4 m4 c4) (.int .i64 e1);have F:=Hd (below_sets (w0:=w) (r:=(w.heap.size+2)) (by omega) [.bool n2,.slice A4 m4 c4,.int .i64 e1] 0 _ LB8.out)
   simp [sets] at hk0 hk1 hk2
   have FU:=Hd (LR8.out.u32s hu4s [.bool n2,.slice A4 m4 c4,.int .i64 e1]);clear hu4s;go_wp2;refine bodyPost_ret (v:=.agg #[.bool n2,.slice A4 m4 c4,.int .i64 e1]) (by simp [results,Tryz.results201,go_sem,hk0,hk1,hk2]) rfl ?_
   exact⟨A4,m4,c4,by rw [HN.out.1],by rw [HN.out.2];exact FU.out,F.out⟩
  ·have HN:=Hd (show ng=n1/\Sg=S1 - T from by have h:=HDS.out;unfold dsum at h;rw [if_neg hs,if_neg hlt] at h;cases h;exact⟨rfl,rfl⟩);clear HDS hs;have hc3:¬ cmp3 S1 T<0:=fun h=>hlt (cmp3_neg.1 h)
   obtain⟨r,hr⟩:∃ r,cmp3 S1 T=r:=⟨_,rfl⟩
   rw [hr] at hc3 ⊢;clear hr;obtain⟨q0_0,q0_1,q0_2⟩:=LG0_3.out.c3;obtain⟨q1_0,q1_1,q1_2⟩:=LG1_3.out.c3;go_wp2_with fail;refine (HSB1.out (Nat.le_of_not_lt hlt) _ _ _ _ LB3.out HU3b.out).mono ?_;rintro e w4 ⟨A4,m4,c4,rfl,hu4,hbb4⟩;have LB4:=stB LB3 hbb4 LB3.out.size;have LR4:=stR LR3 hbb4;have LG0_4:=stG LG0_3 hbb4;have LG1_4:=stG LG1_3 hbb4;clear LB3 LR3 LG0_3 LG1_3;clear hbb4 q0_0 q0_1 q0_2 q1_0 q1_1 q1_2;obtain⟨q0_0,q0_1,q0_2⟩:=LG0_4.out.c3;have hf1:=LG0_4.out.frozen 1;have hu4s:=hu4.carry LG0_4.out rfl 1 (.slice A4 m4 c4)
   go_upto_region 15 with fail
   clear q0_0 q0_1 q0_2 hf1;have LB5:=Hd (LB4.out.setCell (p:=⟨w.heap.size,1,none⟩) (show w.heap.size<=w.heap.size by omega) (.slice A4 m4 c4));have LR5:=Hd (show HasBlk (w4.setCell ⟨w.heap.size,1,none⟩ (.slice A4 m4 c4)) (w.heap.size+2) 168 3 from LR4.out.other (by omega) 1 [.slice A4 m4 c4]);have LG0_5:=Hd (LG0_4.out.set 1 (.slice A4 m4 c4));have LG1_5:=Hd (show Blk (w4.setCell ⟨w.heap.size,1,none⟩ (.slice A4 m4 c4)) (w.heap.size+1) 168 #[.bool n2,.slice A3 m3 c3,.int .i64 e2] from LG1_4.out.other (by omega) 1 [.slice A4 m4 c4]);clear LB4 LR4 LG0_4 LG1_4
   obtain⟨V4,hV4⟩:∃ X,(w4.setCell ⟨w.heap.size,1,none⟩ (.slice A4 m4 c4))=X:=⟨_,rfl⟩
   rw [hV4] at hu4s LB5 LR5 LG0_5 LG1_5 ⊢;clear hV4 hu4;obtain⟨q0_0,q0_1,q0_2⟩:=LG0_5.out.c3;obtain⟨ha0,hf0,ha1,hf1,ha2,hf2⟩:=LR5.out.sf3;obtain⟨hk0,hk1,hk2⟩:=LR5.out.sc3 (.bool n1) (.slice A4 m4 c4) (.int .i64 e1);have F:=Hd (below_sets (w0:=w) (r:=(w.heap.size+2)) (by omega) [.bool n1,.slice A4 m4 c4,.int .i64 e1] 0 _ LB5.out)
   simp [sets] at hk0 hk1 hk2
   have FU:=Hd (LR5.out.u32s hu4s [.bool n1,.slice A4 m4 c4,.int .i64 e1]);clear hu4s;go_wp2;refine bodyPost_ret (v:=.agg #[.bool n1,.slice A4 m4 c4,.int .i64 e1]) (by simp [results,Tryz.results201,go_sem,hk0,hk1,hk2]) rfl ?_
   exact⟨A4,m4,c4,by rw [HN.out.1],by rw [HN.out.2];exact FU.out,F.out⟩
theorem sum_swap(n1:Bool)(A1:Option Addr)(m1 c1 S1:Nat)(e1:Int)(n2:Bool)(A2:Option Addr)(m2 c2 S2:Nat)(e2:Int)(k:Nat)(w:World)(h1:U32s w A1 m1 c1 (digs S1))(h2:U32s w A2 m2 c2 (digs S2))(hS1:0<S1)(hS2:0<S2)(hle:e2<e1)(hk:e1=e2+k)(he1:-1000000<=e1/\e1<=1000000)(he2:-1000000<=e2/\e2<=1000000)(hb1:blen S2<=500000)(hb2:blen S1+k<=500000):
  Calls Tryz.prog 201 #[.agg #[.bool n1,.slice A1 m1 c1,.int .i64 e1],.agg #[.bool n2,.slice A2 m2 c2,.int .i64 e2]] w (NewDy w (dsum n2 S2 n1 (S1*2^k)).1 (dsum n2 S2 n1 (S1*2^k)).2 e2):=by
 have hq1:((m1:Int) == 0)=false:=by
  have:=digs_len_pos hS1 h1.len
  simp;omega
 have hq2:((m2:Int) == 0)=false:=by
  have:=digs_len_pos hS2 h2.len
  simp;omega
 have hek:e1 - e2=(k:Int):=by omega
 have hbq:=blen_shl S1 k hS1
 obtain⟨T,hT⟩:∃ T,S1*2^k=T:=⟨_,rfl⟩
 have HSH:=Hd fun W (hW:Below w.heap.size w W)=>nshl_any A1 m1 c1 k (digs S1) W (h1.below hW) (wlen_digs_le (K:=16384) (by omega)) (by rw [num_digs];omega);rw [num_digs,hT] at HSH;rw [hT] at hbq ⊢;have HP:=Hd h2;have HBP:=Hd hb1;have HBT:=Hd (show blen T<=500000 by omega);have HADD:=Hd fun W (B:Option Addr) (mB cB:Nat) (hW:Below w.heap.size w W) (hB:U32s W B mB cB (digs T))=>nadd_any A2 B m2 c2 mB cB (digs S2) (digs T) W (h2.below hW) hB (wlen_digs_le (K:=16383) (by omega)) (wlen_digs_le (K:=16383) (by omega));have HCMP:=Hd fun W (B:Option Addr) (mB cB:Nat) (hW:Below w.heap.size w W) (hB:U32s W B mB cB (digs T))=>ncmp_any A2 B m2 c2 mB cB (digs S2) (digs T) W (h2.below hW) hB;have HSB1:=Hd fun (hle:T<=S2) W (B:Option Addr) (mB cB:Nat) (hW:Below w.heap.size w W) (hB:U32s W B mB cB (digs T))=>nsub_any A2 B m2 c2 mB cB (digs S2) (digs T) W (h2.below hW) hB (wlen_digs_le (K:=16384) (by omega)) (wlen_digs_le (K:=16384) (by omega)) (by rw [num_digs,num_digs];exact hle);have HSB2:=Hd fun (hle:S2<=T) W (B:Option Addr) (mB cB:Nat) (hW:Below w.heap.size w W) (hB:U32s W B mB cB (digs T))=>nsub_any B A2 mB cB m2 c2 (digs T) (digs S2) W hB (h2.below hW) (wlen_digs_le (K:=16384) (by omega)) (wlen_digs_le (K:=16384) (by omega)) (by rw [num_digs,num_digs];exact hle);rw [num_digs,num_digs] at HADD HCMP HSB1 HSB2
 have hee:e1 - e2<=2000000/\-2000000<=e1 - e2:=by omega
 obtain⟨ng,hng⟩:∃ b,(dsum n2 S2 n1 T).1=b:=⟨_,rfl⟩
 obtain⟨Sg,hsg⟩:∃ b,(dsum n2 S2 n1 T).2=b:=⟨_,rfl⟩
 rw [hng,hsg];have HDS:=Hd (show dsum n2 S2 n1 T=(ng,Sg) from by rw [<- hng,<- hsg]);clear hng hsg;clear h1 h2 hS1 hS2 hT hbq hb1 hb2 hk;obtain⟨LB0,LG0_0,LG1_0,LR⟩:=bx3 w #[.bool n1,.slice A1 m1 c1,.int .i64 e1] 168 #[.bool n2,.slice A2 m2 c2,.int .i64 e2] 168 #[.bool false,.slice none 0 0,.int .i64 0] 168;have LR0:=Hd (HasBlk.of (n:=3) LR.out rfl rfl);clear LR
 go_enter Tryz.func201,Tryz.ntmps201
 obtain⟨q0_0,q0_1,q0_2⟩:=LG0_0.out.c3;obtain⟨q1_0,q1_1,q1_2⟩:=LG1_0.out.c3;have hf00:=LG0_0.out.frozen 0;have hf01:=LG0_0.out.frozen 1;have hf02:=LG0_0.out.frozen 2;have hf10:=LG1_0.out.frozen 0;have hf11:=LG1_0.out.frozen 1;have hf12:=LG1_0.out.frozen 2
 go_upto_region 7 with fail
 clear q0_0 q0_1 q0_2 q1_0 q1_1 q1_2 hf00 hf01 hf02 hf10 hf11 hf12;clear LB0 LR0 LG0_0 LG1_0;obtain⟨LB0,LG0_0,LG1_0,LR⟩:=bx3 w #[.bool n2,.slice A2 m2 c2,.int .i64 e2] 168 #[.bool n1,.slice A1 m1 c1,.int .i64 e1] 168 #[.bool false,.slice none 0 0,.int .i64 0] 168;have LR0:=Hd (HasBlk.of (n:=3) LR.out rfl rfl);clear LR;obtain⟨q0_0,q0_1,q0_2⟩:=LG0_0.out.c3;obtain⟨q1_0,q1_1,q1_2⟩:=LG1_0.out.c3;go_wp2_with fail;refine (HSH.out _ LB0.out).mono ?_;rintro e w2 ⟨A3,m3,c3,rfl,hu3,hbb2⟩;have LB1:=stB LB0 hbb2 LB0.out.size;have LR1:=stR LR0 hbb2;have LG0_1:=stG LG0_0 hbb2;have LG1_1:=stG LG1_0 hbb2;clear LB0 LR0 LG0_0 LG1_0;clear hbb2 q0_0 q0_1 q0_2 q1_0 q1_1 q1_2;obtain⟨q1_0,q1_1,q1_2⟩:=LG1_1.out.c3;have hf1:=LG1_1.out.frozen 1
 go_upto_region 8 with fail
 clear q1_0 q1_1 q1_2 hf1;have hu3s:=hu3.carry LG1_1.out rfl 1 (.slice A3 m3 c3);have LB2:=Hd (LB1.out.setCell (p:=⟨(w.heap.size+1),1,none⟩) (show w.heap.size<=(w.heap.size+1) by omega) (.slice A3 m3 c3));have LR2:=Hd (show HasBlk (w2.setCell ⟨(w.heap.size+1),1,none⟩ (.slice A3 m3 c3)) (w.heap.size+2) 168 3 from LR1.out.other (by omega) 1 [.slice A3 m3 c3]);have LG0_2:=Hd (show Blk (w2.setCell ⟨(w.heap.size+1),1,none⟩ (.slice A3 m3 c3)) w.heap.size 168 #[.bool n2,.slice A2 m2 c2,.int .i64 e2] from LG0_1.out.other (by omega) 1 [.slice A3 m3 c3]);have LG1_2:=Hd (LG1_1.out.set 1 (.slice A3 m3 c3));clear LB1 LR1 LG0_1 LG1_1
 obtain⟨V3,hV3⟩:∃ X,(w2.setCell ⟨(w.heap.size+1),1,none⟩ (.slice A3 m3 c3))=X:=⟨_,rfl⟩
 rw [hV3] at hu3s LB2 LR2 LG0_2 LG1_2 ⊢;have HU3:=Hd hu3s;clear hV3 hu3 hu3s HSH
 by_cases hs:n2=n1
 ·subst hs;have HN:=Hd (show ng=n2/\Sg=S2+T from by have h:=HDS.out;unfold dsum at h;rw [if_pos rfl] at h;cases h;exact⟨rfl,rfl⟩);clear HDS;obtain⟨q0_0,q0_1,q0_2⟩:=LG0_2.out.c3;obtain⟨q1_0,q1_1,q1_2⟩:=LG1_2.out.c3;go_wp2_with fail;refine (HADD.out _ _ _ _ LB2.out HU3.out).mono ?_;rintro e w4 ⟨A4,m4,c4,rfl,hu4,hbb4⟩;have LB3:=stB LB2 hbb4 LB2.out.size;have LR3:=stR LR2 hbb4;have LG0_3:=stG LG0_2 hbb4;have LG1_3:=stG LG1_2 hbb4;clear LB2 LR2 LG0_2 LG1_2;clear hbb4 q0_0 q0_1 q0_2 q1_0 q1_1 q1_2;obtain⟨q0_0,q0_1,q0_2⟩:=LG0_3.out.c3;have hf1:=LG0_3.out.frozen 1;have hu4s:=hu4.carry LG0_3.out rfl 1 (.slice A4 m4 c4)
  go_upto_region 10 with fail
  clear q0_0 q0_1 q0_2 hf1;have LB4:=Hd (LB3.out.setCell (p:=⟨w.heap.size,1,none⟩) (show w.heap.size<=w.heap.size by omega) (.slice A4 m4 c4));have LR4:=Hd (show HasBlk (w4.setCell ⟨w.heap.size,1,none⟩ (.slice A4 m4 c4)) (w.heap.size+2) 168 3 from LR3.out.other (by omega) 1 [.slice A4 m4 c4]);have LG0_4:=Hd (LG0_3.out.set 1 (.slice A4 m4 c4));have LG1_4:=Hd (show Blk (w4.setCell ⟨w.heap.size,1,none⟩ (.slice A4 m4 c4)) (w.heap.size+1) 168 #[.bool n2,.slice A3 m3 c3,.int .i64 e1] from LG1_3.out.other (by omega) 1 [.slice A4 m4 c4]);clear LB3 LR3 LG0_3 LG1_3
  obtain⟨V4,hV4⟩:∃ X,(w4.setCell ⟨w.heap.size,1,none⟩ (.slice A4 m4 c4))=X:=⟨_,rfl⟩
  rw [hV4] at hu4s LB4 LR4 LG0_4 LG1_4 ⊢;clear hV4 hu4;obtain⟨q0_0,q0_1,q0_2⟩:=LG0_4.out.c3;obtain⟨ha0,hf0,ha1,hf1,ha2,hf2⟩:=LR4.out.sf3;obtain⟨hk0,hk1,hk2⟩:=LR4.out.sc3 (.bool n2) (.slice A4 m4 c4) (.int .i64 e2);have F:=Hd (below_sets (w0:=w) (r:=(w.heap.size+2)) (by omega) [.bool n2,.slice A4 m4 c4,.int .i64 e2] 0 _ LB4.out)
  simp [sets] at hk0 hk1 hk2
  have FU:=Hd (LR4.out.u32s hu4s [.bool n2,.slice A4 m4 c4,.int .i64 e2]);clear hu4s;go_wp2;refine bodyPost_ret (v:=.agg #[.bool n2,.slice A4 m4 c4,.int .i64 e2]) (by simp [results,Tryz.results201,go_sem,hk0,hk1,hk2]) rfl ?_
  exact⟨A4,m4,c4,by rw [HN.out.1],by rw [HN.out.2];exact FU.out,F.out⟩
 ·have hs2:(n2 == n1)=false:=by simp [hs]
  obtain⟨q0_0,q0_1,q0_2⟩:=LG0_2.out.c3;obtain⟨q1_0,q1_1,q1_2⟩:=LG1_2.out.c3;go_wp2_with fail;refine (HCMP.out _ _ _ _ LB2.out HU3.out).mono ?_;rintro e w3 ⟨rfl,z,hz⟩
  have hbb3:Below V3.heap.size V3 w3:=by rw [hz];exact below_drewN (Below.refl _ _) z
  have LB3:=stB LB2 hbb3 LB2.out.size;have LR3:=stR LR2 hbb3;have LG0_3:=stG LG0_2 hbb3;have LG1_3:=stG LG1_2 hbb3;clear LB2 LR2 LG0_2 LG1_2;have HU3b:=Hd (HU3.out.below hbb3);clear hz hbb3 HU3 q0_0 q0_1 q0_2 q1_0 q1_1 q1_2
  by_cases hlt:S2<T
  ·have HN:=Hd (show ng=n1/\Sg=T - S2 from by have h:=HDS.out;unfold dsum at h;rw [if_neg hs,if_pos hlt] at h;cases h;exact⟨rfl,rfl⟩);rw [cmp3_lt hlt];clear HDS hs;obtain⟨q0_0,q0_1,q0_2⟩:=LG0_3.out.c3;obtain⟨q1_0,q1_1,q1_2⟩:=LG1_3.out.c3;have hf0:=LG0_3.out.frozen 0
   go_upto_region 13 with fail
   clear q0_0 q0_1 q0_2 q1_0 q1_1 q1_2 hf0;have hu5:=HU3b.out.carry LG0_3.out rfl 0 (.bool n1);have LB4:=Hd (LB3.out.setCell (p:=⟨w.heap.size,0,none⟩) (show w.heap.size<=w.heap.size by omega) (.bool n1));have LR4:=Hd (show HasBlk (w3.setCell ⟨w.heap.size,0,none⟩ (.bool n1)) (w.heap.size+2) 168 3 from LR3.out.other (by omega) 0 [.bool n1]);have LG0_4:=Hd (LG0_3.out.set 0 (.bool n1));have LG1_4:=Hd (show Blk (w3.setCell ⟨w.heap.size,0,none⟩ (.bool n1)) (w.heap.size+1) 168 #[.bool n1,.slice A3 m3 c3,.int .i64 e1] from LG1_3.out.other (by omega) 0 [.bool n1]);clear LB3 LR3 LG0_3 LG1_3
   obtain⟨V5,hV5⟩:∃ X,(w3.setCell ⟨w.heap.size,0,none⟩ (.bool n1))=X:=⟨_,rfl⟩
   rw [hV5] at hu5 LB4 LR4 LG0_4 LG1_4 ⊢;clear hV5;obtain⟨q0_0,q0_1,q0_2⟩:=LG0_4.out.c3;obtain⟨q1_0,q1_1,q1_2⟩:=LG1_4.out.c3;have hf01:=LG0_4.out.frozen 1;have hf11:=LG1_4.out.frozen 1
   go_upto_region 14 with fail
   clear q0_0 q0_1 q0_2 q1_0 q1_1 q1_2 hf01 hf11;have hu6:=hu5.carry LG0_4.out rfl 1 (.slice A3 m3 c3);have LB5:=Hd (LB4.out.setCell (p:=⟨w.heap.size,1,none⟩) (show w.heap.size<=w.heap.size by omega) (.slice A3 m3 c3));have LR5:=Hd (show HasBlk (V5.setCell ⟨w.heap.size,1,none⟩ (.slice A3 m3 c3)) (w.heap.size+2) 168 3 from LR4.out.other (by omega) 1 [.slice A3 m3 c3]);have LG0_5:=Hd (LG0_4.out.set 1 (.slice A3 m3 c3));have LG1_5:=Hd (show Blk (V5.setCell ⟨w.heap.size,1,none⟩ (.slice A3 m3 c3)) (w.heap.size+1) 168 #[.bool n1,.slice A3 m3 c3,.int .i64 e1] from LG1_4.out.other (by omega) 1 [.slice A3 m3 c3]);clear LB4 LR4 LG0_4 LG1_4
   obtain⟨V6,hV6⟩:∃ X,(V5.setCell ⟨w.heap.size,1,none⟩ (.slice A3 m3 c3))=X:=⟨_,rfl⟩
   rw [hV6] at hu6 LB5 LR5 LG0_5 LG1_5 ⊢;clear hV6;have hu7:=hu6.carry LG1_5.out rfl 1 (.slice A2 m2 c2);have LB6:=Hd (LB5.out.setCell (p:=⟨(w.heap.size+1),1,none⟩) (show w.heap.size<=(w.heap.size+1) by omega) (.slice A2 m2 c2));have LR6:=Hd (show HasBlk (V6.setCell ⟨(w.heap.size+1),1,none⟩ (.slice A2 m2 c2)) (w.heap.size+2) 168 3 from LR5.out.other (by omega) 1 [.slice A2 m2 c2]);have LG0_6:=Hd (show Blk (V6.setCell ⟨(w.heap.size+1),1,none⟩ (.slice A2 m2 c2)) w.heap.size 168 #[.bool n1,.slice A3 m3 c3,.int .i64 e2] from LG0_5.out.other (by omega) 1 [.slice A2 m2 c2]);have LG1_6:=Hd (LG1_5.out.set 1 (.slice A2 m2 c2));clear LB5 LR5 LG0_5 LG1_5
   obtain⟨V7,hV7⟩:∃ X,(V6.setCell ⟨(w.heap.size+1),1,none⟩ (.slice A2 m2 c2))=X:=⟨_,rfl⟩
   rw [hV7] at hu7 LB6 LR6 LG0_6 LG1_6 ⊢;clear hV7 hu5 hu6;have HU7:=Hd hu7;clear hu7;obtain⟨q0_0,q0_1,q0_2⟩:=LG0_6.out.c3;obtain⟨q1_0,q1_1,q1_2⟩:=LG1_6.out.c3;go_wp2_with fail;refine (HSB2.out (Nat.le_of_lt hlt) _ _ _ _ LB6.out HU7.out).mono ?_;rintro e w4 ⟨A4,m4,c4,rfl,hu4,hbb4⟩;have LB7:=stB LB6 hbb4 LB6.out.size;have LR7:=stR LR6 hbb4;have LG0_7:=stG LG0_6 hbb4;have LG1_7:=stG LG1_6 hbb4;clear LB6 LR6 LG0_6 LG1_6;clear hbb4 q0_0 q0_1 q0_2 q1_0 q1_1 q1_2;obtain⟨q0_0,q0_1,q0_2⟩:=LG0_7.out.c3;have hf1:=LG0_7.out.frozen 1;have hu4s:=hu4.carry LG0_7.out rfl 1 (.slice A4 m4 c4)
   go_upto_region 15 with fail
   clear q0_0 q0_1 q0_2 hf1;have LB8:=Hd (LB7.out.setCell (p:=⟨w.heap.size,1,none⟩) (show w.heap.size<=w.heap.size by omega) (.slice A4 m4 c4));have LR8:=Hd (show HasBlk (w4.setCell ⟨w.heap.size,1,none⟩ (.slice A4 m4 c4)) (w.heap.size+2) 168 3 from LR7.out.other (by omega) 1 [.slice A4 m4 c4]);have LG0_8:=Hd (LG0_7.out.set 1 (.slice A4 m4 c4));have LG1_8:=Hd (show Blk (w4.setCell ⟨w.heap.size,1,none⟩ (.slice A4 m4 c4)) (w.heap.size+1) 168 #[.bool n1,.slice A2 m2 c2,.int .i64 e1] from LG1_7.out.other (by omega) 1 [.slice A4 m4 c4]);clear LB7 LR7 LG0_7 LG1_7
   obtain⟨V4,hV4⟩:∃ X,(w4.setCell ⟨w.heap.size,1,none⟩ (.slice A4 m4 c4))=X:=⟨_,rfl⟩
   rw [hV4] at hu4s LB8 LR8 LG0_8 LG1_8 ⊢;clear hV4 hu4;obtain⟨q0_0,q0_1,q0_2⟩:=LG0_8.out.c3;obtain⟨ha0,hf0,ha1,hf1,ha2,hf2⟩:=LR8.out.sf3;obtain⟨hk0,hk1,hk2⟩:=LR8.out.sc3 (.bool n1) (.slice A4 m4 c4) (.int .i64 e2);have F:=Hd (below_sets (w0:=w) (r:=(w.heap.size+2)) (by omega) [.bool n1,.slice A4 m4 c4,.int .i64 e2] 0 _ LB8.out)
   simp [sets] at hk0 hk1 hk2
   have FU:=Hd (LR8.out.u32s hu4s [.bool n1,.slice A4 m4 c4,.int .i64 e2]);clear hu4s;go_wp2;refine bodyPost_ret (v:=.agg #[.bool n1,.slice A4 m4 c4,.int .i64 e2]) (by simp [results,Tryz.results201,go_sem,hk0,hk1,hk2]) rfl ?_
   exact⟨A4,m4,c4,by rw [HN.out.1],by rw [HN.out.2];exact FU.out,F.out⟩
  ·have HN:=Hd (show ng=n2/\Sg=S2 - T from by have h:=HDS.out;unfold dsum at h;rw [if_neg hs,if_neg hlt] at h;cases h;exact⟨rfl,rfl⟩);clear HDS hs;have hc3:¬ cmp3 S2 T<0:=fun h=>hlt (cmp3_neg.1 h)
   obtain⟨r,hr⟩:∃ r,cmp3 S2 T=r:=⟨_,rfl⟩
   rw [hr] at hc3 ⊢;clear hr;obtain⟨q0_0,q0_1,q0_2⟩:=LG0_3.out.c3;obtain⟨q1_0,q1_1,q1_2⟩:=LG1_3.out.c3;go_wp2_with fail;refine (HSB1.out (Nat.le_of_not_lt hlt) _ _ _ _ LB3.out HU3b.out).mono ?_;rintro e w4 ⟨A4,m4,c4,rfl,hu4,hbb4⟩;have LB4:=stB LB3 hbb4 LB3.out.size;have LR4:=stR LR3 hbb4;have LG0_4:=stG LG0_3 hbb4;have LG1_4:=stG LG1_3 hbb4;clear LB3 LR3 LG0_3 LG1_3;clear hbb4 q0_0 q0_1 q0_2 q1_0 q1_1 q1_2;obtain⟨q0_0,q0_1,q0_2⟩:=LG0_4.out.c3;have hf1:=LG0_4.out.frozen 1;have hu4s:=hu4.carry LG0_4.out rfl 1 (.slice A4 m4 c4)
   go_upto_region 15 with fail
   clear q0_0 q0_1 q0_2 hf1;have LB5:=Hd (LB4.out.setCell (p:=⟨w.heap.size,1,none⟩) (show w.heap.size<=w.heap.size by omega) (.slice A4 m4 c4));have LR5:=Hd (show HasBlk (w4.setCell ⟨w.heap.size,1,none⟩ (.slice A4 m4 c4)) (w.heap.size+2) 168 3 from LR4.out.other (by omega) 1 [.slice A4 m4 c4]);have LG0_5:=Hd (LG0_4.out.set 1 (.slice A4 m4 c4));have LG1_5:=Hd (show Blk (w4.setCell ⟨w.heap.size,1,none⟩ (.slice A4 m4 c4)) (w.heap.size+1) 168 #[.bool n1,.slice A3 m3 c3,.int .i64 e1] from LG1_4.out.other (by omega) 1 [.slice A4 m4 c4]);clear LB4 LR4 LG0_4 LG1_4
   obtain⟨V4,hV4⟩:∃ X,(w4.setCell ⟨w.heap.size,1,none⟩ (.slice A4 m4 c4))=X:=⟨_,rfl⟩
   rw [hV4] at hu4s LB5 LR5 LG0_5 LG1_5 ⊢;clear hV4 hu4;obtain⟨q0_0,q0_1,q0_2⟩:=LG0_5.out.c3;obtain⟨ha0,hf0,ha1,hf1,ha2,hf2⟩:=LR5.out.sf3;obtain⟨hk0,hk1,hk2⟩:=LR5.out.sc3 (.bool n2) (.slice A4 m4 c4) (.int .i64 e2);have F:=Hd (below_sets (w0:=w) (r:=(w.heap.size+2)) (by omega) [.bool n2,.slice A4 m4 c4,.int .i64 e2] 0 _ LB5.out)
   simp [sets] at hk0 hk1 hk2
   have FU:=Hd (LR5.out.u32s hu4s [.bool n2,.slice A4 m4 c4,.int .i64 e2]);clear hu4s;go_wp2;refine bodyPost_ret (v:=.agg #[.bool n2,.slice A4 m4 c4,.int .i64 e2]) (by simp [results,Tryz.results201,go_sem,hk0,hk1,hk2]) rfl ?_
   exact⟨A4,m4,c4,by rw [HN.out.1],by rw [HN.out.2];exact FU.out,F.out⟩
end
section
open Go.RowKit
attribute [local go_sem] run_store_float run_frombits run_bitsof run_negf
def dsF(n1:Bool)(S1:Nat)(e1:Int)(n2:Bool)(S2:Nat)(e2:Int):Bool × Nat × Int:=
 if S1=0 then (n2,S2,e2) else if S2=0 then (n1,S1,e1)
 else if e2<e1 then ((dsum n2 S2 n1 (S1*2^(e1 - e2).toNat)).1,(dsum n2 S2 n1 (S1*2^(e1 - e2).toNat)).2,e2)
 else ((dsum n1 S1 n2 (S2*2^(e2 - e1).toNat)).1,(dsum n1 S1 n2 (S2*2^(e2 - e1).toNat)).2,e1)
theorem sum_any(n1:Bool)(A1:Option Addr)(m1 c1 S1:Nat)(e1:Int)(n2:Bool)(A2:Option Addr)(m2 c2 S2:Nat)(e2:Int)(w:World)(h1:U32s w A1 m1 c1 (digs S1))(h2:U32s w A2 m2 c2 (digs S2))
  (he1:-1000000<=e1/\e1<=1000000)(he2:-1000000<=e2/\e2<=1000000)(hb1:(blen S1:Int)+(e1 - e2).toNat<=500000)(hb2:(blen S2:Int)+(e2 - e1).toNat<=500000):
  Calls Tryz.prog 201 #[.agg #[.bool n1,.slice A1 m1 c1,.int .i64 e1],.agg #[.bool n2,.slice A2 m2 c2,.int .i64 e2]] w (NewDy w (dsF n1 S1 e1 n2 S2 e2).1 (dsF n1 S1 e1 n2 S2 e2).2.1 (dsF n1 S1 e1 n2 S2 e2).2.2):=by
 unfold dsF
 by_cases h0:S1=0
 ·rw [if_pos h0];refine sum_left n1 A1 m1 c1 S1 e1 n2 A2 m2 c2 S2 e2 w h2 ?_;rw [<- h1.len,digs_length_eq_zero];exact h0
 ·rw [if_neg h0];have hp1:=digs_len_pos (S:=S1) (by omega) h1.len
  by_cases h0':S2=0
  ·rw [if_pos h0'];refine sum_right n1 A1 m1 c1 S1 e1 n2 A2 m2 c2 S2 e2 w h1 hp1 ?_;rw [<- h2.len,digs_length_eq_zero];exact h0'
  ·rw [if_neg h0']
   by_cases hlt:e2<e1
   ·rw [if_pos hlt]
    exact sum_swap n1 A1 m1 c1 S1 e1 n2 A2 m2 c2 S2 e2 (e1 - e2).toNat w h1 h2 (by omega) (by omega) hlt (by omega) he1 he2 (by omega) (by omega)
   ·rw [if_neg hlt]
    exact sum_keep n1 A1 m1 c1 S1 e1 n2 A2 m2 c2 S2 e2 (e2 - e1).toNat w h1 h2 (by omega) (by omega) (by omega) (by omega) he1 he2 (by omega) (by omega)
theorem dsF_val(n1:Bool)(S1:Nat)(e1:Int)(n2:Bool)(S2:Nat)(e2:Int):
  rv (dsF n1 S1 e1 n2 S2 e2).1 (dsF n1 S1 e1 n2 S2 e2).2.1 1*2^(dsF n1 S1 e1 n2 S2 e2).2.2=rv n1 S1 1*2^e1+rv n2 S2 1*2^e2:=by
 unfold dsF
 by_cases h0:S1=0
 ·rw [if_pos h0,h0,rv_zero];grind
 ·rw [if_neg h0]
  by_cases h0':S2=0
  ·rw [if_pos h0',h0',rv_zero];grind
  ·rw [if_neg h0']
   by_cases hlt:e2<e1
   ·rw [if_pos hlt]
    dsimp only
    rw [dsum_val,<- rv_shift n1 S1 (e1 - e2).toNat e2 e1 (by omega)];grind
   ·rw [if_neg hlt]
    dsimp only
    rw [dsum_val,<- rv_shift n2 S2 (e2 - e1).toNat e1 e2 (by omega)];grind
theorem dsF_bound(n1:Bool)(S1:Nat)(e1:Int)(n2:Bool)(S2:Nat)(e2:Int)(P:Nat)(h1:blen S1+(e1 - e2).toNat<=P)(h2:blen S2+(e2 - e1).toNat<=P):
  blen (dsF n1 S1 e1 n2 S2 e2).2.1<=P+1/\((dsF n1 S1 e1 n2 S2 e2).2.2=e1\/(dsF n1 S1 e1 n2 S2 e2).2.2=e2):=by
 unfold dsF
 by_cases h0:S1=0
 ·rw [if_pos h0];exact⟨by dsimp only;omega,.inr rfl⟩
 ·rw [if_neg h0]
  by_cases h0':S2=0
  ·rw [if_pos h0'];exact⟨by dsimp only;omega,.inl rfl⟩
  ·rw [if_neg h0']
   by_cases hlt:e2<e1
   ·rw [if_pos hlt]
    exact⟨dsum_blen _ _ _ _ _ (by omega) (by rw [blen_shl _ _ (by omega)];omega),.inr rfl⟩
   ·rw [if_neg hlt]
    exact⟨dsum_blen _ _ _ _ _ (by omega) (by rw [blen_shl _ _ (by omega)];omega),.inl rfl⟩
theorem rv_exact(n:Bool)(S:Nat)(x:Int):rv n (S*2^x.toNat) (2^(-x).toNat)=rv n S 1*2^x:=by
 have h:=rv_scale n (p:=S) (q:=1) (by omega) x;rw [Nat.one_mul] at h;exact h
theorem to_any(d:Int)(neg:Bool)(A:Option Addr)(n c S:Nat)(x:Int)(w:World)(hu:U32s w A n c (digs S))(hd:d=-1\/d=1)(hb:blen S<=524288)(hx1:-1000000<=x)(hx2:x<=1099511627776):
  Rt 190 #[.agg #[.bool neg,.slice A n c,.int .i64 x],.int .i64 d] (.float .f64 (pat (rndI d (rv neg S 1*2^x)))) w:=by
 have HO:=Hd (show ∀ W,Below w.heap.size w W->Rt 230 #[.int .i64 d,.bool neg,.slice A n c,.int .i64 x,.bool false] (.float .f64 (pat (rndI d (rv neg S 1*2^x)))) W from fun W hW=>by
  rcases Nat.eq_zero_or_pos S with h0 | h0
  ·subst h0;rw [rv_zero,Rat.zero_mul,rndI_zero hd,pat_zero];refine (of_nought d neg false A n c (digs 0) x W (hu.below hW) (num_digs 0)).mono ?_;rintro e w' ⟨rfl,rfl⟩
   exact⟨rfl,Below.refl _ _⟩
  ·rw [<- rv_exact]
   exact of_pos d neg false A n c S _ _ (digs S) x W (hu.below hW) (num_digs S) h0 (wlen_blen hb) hd (Dg.exact S x) (Nat.two_pow_pos _) (fun h=>by cases h) hx1 hx2)
 obtain⟨r,hr⟩:∃ r,pat (rndI d (rv neg S 1*2^x))=r:=⟨_,rfl⟩
 rw [hr] at HO ⊢;clear hu hd hr;obtain⟨LB0,LG0_0⟩:=bx1 w #[.bool neg,.slice A n c,.int .i64 x] 168
 go_enter Tryz.func190,Tryz.ntmps190
 obtain⟨q0_0,q0_1,q0_2⟩:=LG0_0.out.c3;go_wp2_with fail;refine cx (HO.out _ LB0.out) fun w1 hb1=>?_;have LB1:=stB LB0 hb1 LB0.out.size;have LG0_1:=stG LG0_0 hb1;clear LB0 LG0_0;clear hb1 HO q0_0 q0_1 q0_2;go_wp2
 go_ret
 exact⟨rfl,LB1.out⟩
end
end Go.Proofs.YthlmlmfebpjgdaaGreatDoor
