/-
Lemmas for the statement: RdivT NrT Nr2T RdvT RtqP InvI Rtx AptT AptI BelT BelI.
-/
import Derived.Test.YthlmlmfebpjgdaaGreatDoorM13
import Derived.Test.YthlmlmfebpjgdaaGreatDoorM16
import Derived.Test.YthlmlmfebpjgdaaGreatDoorM08
import Derived.Deep.DeepCutAuto
import Derived.Test.YthlmlmfebpjgdaaGreatDoorM15
import Derived.Test.YthlmlmfebpjgdaaGreatDoorM12
import Derived.Test.YthlmlmfebpjgdaaGreatDoorM10
import Derived.Test.YthlmlmfebpjgdaaGreatDoorM04
import Derived.Test.YthlmlmfebpjgdaaGreatDoorM11
set_option linter.unusedSimpArgs false
set_option linter.unusedVariables false
set_option maxHeartbeats 12800000
set_option maxRecDepth 8000
namespace Go.Proofs.YthlmlmfebpjgdaaGreatDoor
open Go.Proofs.Tryz
open Go.RowKit
theorem rdiv_quick_walk(d:Int)(y q p f e g r:Nat)(w:World)(hy:L64 y)(ry:rungOf y<M)
  (hPL:∀ W,Calls prog 184 #[.float .f64 y] W fun e w'=>e=.returned (.float .f64 y)/\W=w')(ho:FloatKind.f64.format.order y 0=some .gt)
  (hq:FloatKind.f64.format.div 4607182418800017408 y=some q)(hp:FloatKind.f64.format.mul q y=some p)(hf:FloatKind.f64.format.sub 4607182418800017408 p=some f)(hg:FloatKind.f64.format.sub f e=some g)
  (m1:∀ W,Calls prog 185 #[.float .f64 4607182418800017408] W fun e w'=>e=.returned (.bool true)/\W=w')
  (m2:∀ W,Calls prog 185 #[.float .f64 y] W fun e w'=>e=.returned (.bool true)/\W=w')
  (m3:∀ W,Calls prog 185 #[.float .f64 q] W fun e w'=>e=.returned (.bool true)/\W=w')
  (m4:∀ W,Calls prog 185 #[.float .f64 p] W fun e w'=>e=.returned (.bool true)/\W=w')
  (hMI:∀ W,Calls prog 187 #[.float .f64 q,.float .f64 y,.float .f64 p] W fun e' w'=>e'=.returned (.float .f64 e)/\W=w')
  (hN:∀ W,Calls prog 186 #[.int .i64 d,.float .f64 q,.float .f64 g] W fun e' w'=>e'=.returned (.float .f64 r)/\W=w'):
  Rt 245 #[.int .i64 d,.float .f64 4607182418800017408,.float .f64 y] (.float .f64 r) w:=by
 have hM:M=9218868437227405312:=rfl;have HPL:=Hd hPL;have HM1:=Hd m1;have HM2:=Hd m2;have HM3:=Hd m3;have HM4:=Hd m4;have HMI:=Hd hMI;have HN:=Hd hN;have A1:=fun W=>run_float_arith (P:=prog) W .quo 26 .f64 _ _ _ hq;have A2:=fun W=>run_float_arith (P:=prog) W .mul 26 .f64 _ _ _ hp;have A3:=fun W=>run_float_arith (P:=prog) W .sub 26 .f64 _ _ _ hf;have A4:=fun W=>run_float_arith (P:=prog) W .sub 26 .f64 _ _ _ hg
 have r1:rungOf 4607182418800017408=4607182418800017408:=by decide
 have hod:(decide (rungOf 4607182418800017408=M) || decide (rungOf y=M))=false:=by
  rw [decide_eq_false (by omega),decide_eq_false (by omega)];rfl
 have HO0:=fun (W:World) (hb:Below w.heap.size w W)=>odd_two W.heap.size 4607182418800017408 y (W.alloc (.cells (Zv 4607182418800017408 y) 26)) (by decide) hy (by omega) (by omega) (by simp [World.cell?_alloc_new]) (by simp [World.cell?_alloc_new]);rw [hod] at HO0;have HO:=Hd HO0;have LB:=Hd (below_alloc w (.cells (Zv 4607182418800017408 y) 26));clear HO0 hod r1 hM hPL m1 m2 m3 m4 hMI hN hq hp hf hg hy ry
 go_enter func245,ntmps245
 go_wp2_with fail
 go_step3
 go_wp2_with fail;refine cy (HPL.out _) ?_;go_wp2_with fail;refine cy (HO.out _ (Below.refl _ _)) ?_;go_wp2_with fail;refine cy (HM1.out _) ?_;go_wp2_with fail;refine cy (HM2.out _) ?_;go_wp2_with fail;refine cy (HM3.out _) ?_;go_wp2_with fail;refine cy (HM4.out _) ?_;go_wp2_with fail;refine cy (HMI.out _) ?_;go_wp2_with fail;refine cy (HN.out _) ?_;go_wp2
 try rw [Exit.noGoto_ret]
 go_ret
 exact⟨rfl,LB.out⟩
theorem rquotient_walk(d:Int)(S1 S2 r:Nat)(e1 e2 E:Int)(A1:Option Addr)(m1 c1:Nat)(A2:Option Addr)(m2 c2:Nat)(w:World)(hu1:U32s w A1 m1 c1 (digs S1))(hu2:U32s w A2 m2 c2 (digs S2))(b1:-1074<=e1/\e1<=971)(b2:-1074<=e2/\e2<=971)(hE:e1 - e2=E)
  (hR:∀ W A m c B m' c',U32s W A m c (digs S1)->U32s W B m' c' (digs S2)->Rt 211 #[.int .i64 d,.bool false,.slice A m c,.slice B m' c',.int .i64 E] (.float .f64 r) W):
  Rt 267 #[.agg #[.bool false,.slice A1 m1 c1,.int .i64 e1],.agg #[.bool false,.slice A2 m2 c2,.int .i64 e2],.int .i64 d] (.float .f64 r) w:=by
 have hw:wrap64 (e1 - e2)=E:=by unfold wrap64;omega
 have hw2:IntKind.i64.wrap (e1 - e2)=E:=by rw [IntKind.wrap_i64];omega
 have HR:=Hd hR;have LL:=li2 w #[.bool false,.slice A1 m1 c1,.int .i64 e1] 168 #[.bool false,.slice A2 m2 c2,.int .i64 e2] 168;have HU1:=Hd (hu1.below LL.out.b);have HU2:=Hd (hu2.below LL.out.b);clear hu1 hu2 hR
 go_enter func267,ntmps267
 obtain⟨q1_0,q1_1,q1_2⟩:=(LL.out.blk 0 rfl).c3;obtain⟨q2_0,q2_1,q2_2⟩:=(LL.out.blk 1 rfl).c3;go_wp2_with fail;refine cx (HR.out _ _ _ _ _ _ _ HU1.out HU2.out) fun wk hb=>?_;replace LL:=stL LL hb;clear hb q1_0 q1_1 q1_2 q2_0 q2_1 q2_2;have LB:=LL.out.b;clear LL HU1 HU2 hw hw2;go_wp2
 go_ret
 exact⟨rfl,LB⟩
theorem rdiv_exact_walk(d:Int)(y q p r S1 S2:Nat)(e1 e2:Int)(my mq mp:Bool)(w:World)(hy:L64 y)(ry:rungOf y<M)
  (hPL:∀ W,Calls prog 184 #[.float .f64 y] W fun e w'=>e=.returned (.float .f64 y)/\W=w')(ho:FloatKind.f64.format.order y 0=some .gt)
  (hq:FloatKind.f64.format.div 4607182418800017408 y=some q)(hp:FloatKind.f64.format.mul q y=some p)
  (m1:∀ W,Calls prog 185 #[.float .f64 4607182418800017408] W fun e w'=>e=.returned (.bool true)/\W=w')
  (m2:∀ W,Calls prog 185 #[.float .f64 y] W fun e w'=>e=.returned (.bool my)/\W=w')
  (m3:∀ W,Calls prog 185 #[.float .f64 q] W fun e w'=>e=.returned (.bool mq)/\W=w')
  (m4:∀ W,Calls prog 185 #[.float .f64 p] W fun e w'=>e=.returned (.bool mp)/\W=w')
  (hm:my=false\/(my=true/\mq=false)\/(my=true/\mq=true/\mp=false))
  (p1:∀ W,Calls prog 189 #[.float .f64 4607182418800017408] W (NewDy W false S1 e1))(p2:∀ W,Calls prog 189 #[.float .f64 y] W (NewDy W false S2 e2))
  (hQ:∀ W A1 n1 c1 A2 n2 c2,U32s W A1 n1 c1 (digs S1)->U32s W A2 n2 c2 (digs S2)->Rt 267 #[.agg #[.bool false,.slice A1 n1 c1,.int .i64 e1],.agg #[.bool false,.slice A2 n2 c2,.int .i64 e2],.int .i64 d] (.float .f64 r) W):
  Rt 245 #[.int .i64 d,.float .f64 4607182418800017408,.float .f64 y] (.float .f64 r) w:=by
 have hM:M=9218868437227405312:=rfl;have HPL:=Hd hPL;have HM1:=Hd m1;have HM2:=Hd m2;have HM3:=Hd m3;have HM4:=Hd m4;have HP1:=Hd p1;have HP2:=Hd p2;have HQ:=Hd hQ;have A1:=fun W=>run_float_arith (P:=prog) W .quo 26 .f64 _ _ _ hq;have A2:=fun W=>run_float_arith (P:=prog) W .mul 26 .f64 _ _ _ hp
 have r1:rungOf 4607182418800017408=4607182418800017408:=by decide
 have hod:(decide (rungOf 4607182418800017408=M) || decide (rungOf y=M))=false:=by
  rw [decide_eq_false (by omega),decide_eq_false (by omega)];rfl
 have HO0:=fun (W:World) (hb:Below w.heap.size w W)=>odd_two W.heap.size 4607182418800017408 y (W.alloc (.cells (Zv 4607182418800017408 y) 26)) (by decide) hy (by omega) (by omega) (by simp [World.cell?_alloc_new]) (by simp [World.cell?_alloc_new]);rw [hod] at HO0;have HO:=Hd HO0;have LB:=Hd (below_alloc w (.cells (Zv 4607182418800017408 y) 26));clear HO0 hod r1 hM hPL m1 m2 m3 m4 p1 p2 hQ hq hp hy ry
 rcases hm with rfl | ⟨rfl,rfl⟩ | ⟨rfl,rfl,rfl⟩
 all_goals
  go_enter func245,ntmps245
  go_wp2_with fail
  apply scope_once 0 _ _ rfl
  focus
   go_wp2_with fail;refine cy (HPL.out _) ?_;go_wp2_with fail;refine cy (HO.out _ (Below.refl _ _)) ?_;go_wp2_with fail;refine cy (HM1.out _) ?_;go_wp2_with fail;refine cy (HM2.out _) ?_;go_wp2_with fail
   try (refine cy (HM3.out _) ?_;go_wp2_with fail)
   try (refine cy (HM4.out _) ?_;go_wp2_with fail)
   try go_step3
   exact⟨rfl,rfl,rfl⟩
  clear HO HM1 HM2 HM3 HM4 HPL;generalize w.alloc (.cells (Zv 4607182418800017408 y) 26)=wa at LB ⊢;go_wp2_with fail;refine (HP1.out _).mono ?_;rintro e w1 ⟨A1,n1,c1,rfl,hu1,hb1⟩;have LB1:=Hd (LB.out.trans (hb1.mono LB.out.size));have U1:=Hd hu1;clear hu1 hb1 LB;go_wp2_with fail;refine (HP2.out _).mono ?_;rintro e w2 ⟨A2,n2,c2,rfl,hu2,hb2⟩;have LB2:=stB LB1 hb2 LB1.out.size;have V1:=Hd (U1.out.below hb2);have V2:=Hd hu2;clear hu2 hb2 LB1 U1;go_wp2_with fail;refine cx (HQ.out _ _ _ _ _ _ _ V1.out V2.out) fun w3 hb3=>?_;have LB3:=stB LB2 hb3 LB2.out.size;clear hb3 LB2 V1 V2;go_wp2
  simp only [Exit.jump]
  go_ret
  exact⟨rfl,LB3.out⟩
theorem beyond_near(w:World):
  Calls prog 253 #[.int .i64 0,.bool false] w fun e w'=>e=.returned (.float .f64 9218868437227405312)/\w=w':=by
 have HP:=Hd (inf_pos w)
 go_enter func253,ntmps253
 go_wp2_with fail;refine HP.out.mono ?_;rintro e w' ⟨rfl,rfl⟩;go_wp2
 go_ret
 exact⟨rfl,rfl⟩
theorem Cutd.one{S:Nat}{exp E:Int}{v v':Nat}{l l' more:Bool}(h:Cutd S exp E v l more)(h':Cutd S exp E v' l' more):v=v'/\l=l':=by
 by_cases c:0<=E - 2 - exp
 ·obtain⟨a,b⟩:=h.1 c;obtain⟨a',b'⟩:=h'.1 c;refine⟨a.trans a'.symm,?_⟩
  cases l<;>cases l'<;>first | rfl | (exfalso;simp_all)
 ·obtain⟨a,b,-⟩:=h.2 (by omega);obtain⟨a',b',-⟩:=h'.2 (by omega)
  exact⟨a.trans a'.symm,b.trans b'.symm⟩
theorem of_near(more:Bool)(S p q:Nat)(exp:Int)(hS0:0<S)(hbl:blen S<=524288)
  (hD:Dg S p q exp more)(hq:0<q)(hmore:more=true->55<=blen S)(he1:-1000000<=exp)(he2:exp<=1099511627776):
  ∃ T:Nat,T<=M/\∀ (A:Option Addr) (n c:Nat) (xs:List Nat) (w:World),U32s w A n c xs->num xs=S->wlen xs<=16384 ->
  Rt 230 #[.int .i64 0,.bool false,.slice A n c,.int .i64 exp,.bool more] (.float .f64 T) w:=by
 have hM:M=9218868437227405312:=rfl;have hsc:=hD.sc hS0
 have hb0:0<blen S:=by
  rcases Nat.eq_zero_or_pos (blen S) with h | h
  ·rw [blen_eq_zero] at h;omega
  ·exact h
 obtain⟨b,hb⟩:∃ b,blen S=b:=⟨_,rfl⟩
 obtain⟨f,hf⟩:∃ f:Int,(b:Int) - 1+exp=f:=⟨_,rfl⟩
 rw [hb] at hsc hmore hbl hb0;rw [hf] at hsc
 have hqe:((b:Int) == 0)=false:=by simp;omega
 by_cases hov:1023<f
 ·refine⟨M,Nat.le_refl _,fun A n c xs w hx hS hl=>?_⟩;have hL:=nlen_any A n c xs w hx;rw [hS,hb] at hL;have HL:=Hd hL;have HBY:=Hd (beyond_near w);rw [hM];clear hL hx hS hD hsc hM
  go_enter func230,ntmps230
  go_wp2_with fail;refine HL.out.mono ?_;rintro e w' ⟨rfl,rfl⟩;go_wp2_with fail;refine HBY.out.mono ?_;rintro e w' ⟨rfl,rfl⟩;go_wp2
  go_ret
  exact⟨rfl,Below.refl _ _⟩
 ·have hfe:=lastBit_bounds (f:=f) (by omega);have hwlt:=w_lt hq hsc;have hwge:=w_ge hq hsc
  obtain⟨E,hE⟩:∃ E,lastBit f=E:=⟨_,rfl⟩
  rw [hE] at hfe hwlt hwge
  have hE2:max ((b:Int) - 53+exp) (-1074)=E:=by unfold lastBit at hE;split at hE<;>omega
  have hmf:E - 2 - exp<0->more=false:=by
   intro h
   cases more with
   | false=>rfl
   | true=>have:=hmore rfl;omega
  obtain⟨v0,l0,hcu0⟩:∃ v l,Cutd S exp E v l more:=by
   by_cases c:0<=E - 2 - exp
   ·exact⟨S / 2^(E - 2 - exp).toNat,decide (S % 2^(E - 2 - exp).toNat≠0),fun _=>⟨rfl,by simp⟩,fun h=>by omega⟩
   ·exact⟨S*2^(-(E - 2 - exp)).toNat,false,fun h=>absurd h c,fun h=>⟨rfl,rfl,hmf h⟩⟩
  have hda:=digits_at hD hq hfe.1 hcu0.1 hcu0.2
  obtain⟨V,hV⟩:∃ V,marked v0 (l0 || more)=V:=⟨_,rfl⟩
  have hvv:v0 / 4=V / 4:=by rw [<- hV,marked_div]
  rw [hV] at hda
  obtain⟨R,hR⟩:∃ R,V % 4=R:=⟨_,rfl⟩
  obtain⟨W,hW⟩:∃ W,V / 4=W:=⟨_,rfl⟩
  rw [hR,hW] at hda;rw [<- hda.1] at hwlt hwge
  obtain⟨up,hup⟩:∃ u:Bool,(decide (R=3) || (decide (R=2) && decide (W % 2=1)))=u:=⟨_,rfl⟩
  obtain⟨Z,hZ⟩:∃ Z,W+(if up=true then 1 else 0)=Z:=⟨_,rfl⟩
  have hWb:W<9007199254740992:=hwlt
  have hZ1:Z<=9007199254740992:=by rw [<- hZ];split<;>omega
  have hZ2:E=-1074\/4503599627370496<=Z:=by
   by_cases h:-1074<E
   ·right
    have h6:=hwge h
    rw [<- hZ];split<;>omega
   ·left;omega
  have hLD:=fun W'=>ldexp_any Z E W' hZ1 hfe hZ2;refine⟨(E+1074).toNat*4503599627370496+Z,?_,fun A n c xs w hx hS hl=>?_⟩
  ·have hM2:M=2045*4503599627370496+9007199254740992:=rfl;rw [hM2]
   exact Nat.add_le_add (Nat.mul_le_mul_right _ (by omega)) hZ1
  obtain⟨T,hTT⟩:∃ T,(E+1074).toNat*4503599627370496+Z=T:=⟨_,rfl⟩
  rw [hTT] at hLD ⊢;have hL:=nlen_any A n c xs w hx;rw [hS,hb] at hL;have HL:=Hd hL;have HX:=Hd hx;have HS:=Hd hS;have HLD:=Hd hLD;have HZ:=Hd hZ;have HV:=Hd hV;have HUP:=Hd hup;have HR:=Hd hR;have HW:=Hd hW;have HCU0:=Hd hcu0
  obtain⟨C,hC⟩:∃ C,E - 2 - exp=C:=⟨_,rfl⟩
  have HC:=Hd hC
  have hR4:R<4:=by omega
  have hv64:v0<18446744073709551616:=by omega
  have hV64:V<18446744073709551616:=by omega
  have HSM:=Hd (⟨hR4,hv64,hV64,hWb⟩:R<4/\v0<18446744073709551616/\V<18446744073709551616/\W<9007199254740992);clear hL hx hD hsc hS hE hLD hZ hV hup hR hW hcu0 hda hwlt hwge hvv hZ2 hTT hR4 hv64 hV64 hWb hZ1
  go_enter func230,ntmps230
  go_wp2_with fail;refine HL.out.mono ?_;rintro e w' ⟨rfl,rfl⟩
  go_upto_if 44 with fail
  clear hC
  obtain⟨cb,hcb⟩:∃ x,decide (0<C)=x:=⟨_,rfl⟩
  rw [hcb];have HCB:=Hd hcb;clear hcb
  go_cut [14,15] from 45 to 58 (fun s14 s15 wx=>∃ A1 n1 c1 lost v,s14=.slice A1 n1 c1/\s15=.bool lost/\U32s wx A1 n1 c1 (digs v)/\Cutd S exp E v lost more/\Below w.heap.size w wx)
  case first=>
   have hC:=HC.out
   by_cases hc:0<C
   ·obtain⟨k,hk⟩:∃ k:Nat,E - 2 - exp=k:=⟨(E - 2 - exp).toNat,by omega⟩
    obtain rfl:C=k:=by omega
    obtain rfl:cb=true:=by rw [<- HCB.out];exact decide_eq_true hc
    have HSH:=Hd (nshr_any A n c k xs w HX.out hl (by omega));rw [HS.out] at HSH;have HCU:=Hd (show Cutd S exp E (S / 2^k) (decide (S % 2^k≠0)) more from⟨fun _=>by rw [hk,Int.toNat_natCast];exact⟨rfl,by simp⟩,fun h=>by omega⟩)
    obtain⟨lost,hlo⟩:∃ l,decide (S % 2^k≠0)=l:=⟨_,rfl⟩
    obtain⟨v,hv⟩:∃ l,S / 2^k=l:=⟨_,rfl⟩
    rw [hlo,hv] at HSH HCU;clear hc HCB hk hC HC hlo hv hE2 hfe hf hov hmore he1 he2 hmf;go_wp2_with fail;refine HSH.out.mono ?_;rintro e w1 ⟨A2,n2,c2,rfl,hu,hb⟩;have HU:=Hd hu;have HB:=Hd hb;clear hu hb;go_wp2_with fail
    go_meet
    exact⟨A2,n2,c2,lost,v,rfl,rfl,HU.out,HCU.out,HB.out⟩
   ·obtain⟨k,hk⟩:∃ k:Nat,-(E - 2 - exp)=k:=⟨(-(E - 2 - exp)).toNat,by omega⟩
    have HSH:=Hd (nshl_any A n c k xs w HX.out hl (by rw [HS.out,hb];omega));rw [HS.out] at HSH
    have HCU:=Hd (show Cutd S exp E (S*2^k) false more from⟨fun h=>by
     have hk0:k=0:=by omega
     rw [show (E - 2 - exp).toNat=0 from by omega,hk0]
     simp [Nat.mod_one],fun h=>⟨by rw [hk,Int.toNat_natCast],rfl,hmf h⟩⟩)
    obtain⟨v,hv⟩:∃ l,S*2^k=l:=⟨_,rfl⟩
    rw [hv] at HSH HCU
    have hkb:k<=2000:=by omega
    obtain rfl:C=-(k:Int):=by omega
    obtain rfl:cb=false:=by rw [<- HCB.out];exact decide_eq_false hc
    clear hc;clear HCB hk hC HC hv hmf hE2 hfe hf hov hmore he1 he2;go_wp2_with fail;refine HSH.out.mono ?_;rintro e w1 ⟨A2,n2,c2,rfl,hu,hb⟩;have HU:=Hd hu;have HB:=Hd hb;clear hu hb;go_wp2_with fail
    go_meet
    exact⟨A2,n2,c2,false,v,rfl,rfl,HU.out,HCU.out,HB.out⟩
  case rest=>
  obtain⟨A1,n1,c1,lost,v,rfl,rfl,hu,hcu,hb1⟩:=hcut;obtain⟨rfl,rfl⟩:=hcu.one HCU0.out;obtain⟨hR4,hv64,hV64,hWb⟩:=HSM.out
  have HWD:=Hd (nword_any A1 n1 c1 (digs v) wc hu (by
   rw [wlen_digs];exact digs_length_le (k:=2) (by omega)))
  rw [num_digs] at HWD;have HB1:=Hd hb1;clear hu hcu hb1 HCU0;go_wp2_with fail;refine HWD.out.mono ?_;rintro e w2 ⟨rfl,z,hz⟩;have HB2:=Hd (show Below w.heap.size w w2 from by rw [hz];exact below_drewN HB1.out z);clear hz HB1 HWD
  go_upto_region 13 with fail
  go_cut [67] from 64 to 66 (fun s67 wx=>s67=.bool (lost || more)/\wx=w2)
  case first=>
   cases lost<;>cases more<;>(go_wp2_with fail;go_meet;exact⟨rfl,rfl⟩)
  case rest=>
  obtain⟨rfl,rfl⟩:=hcut
  obtain⟨L,hL⟩:∃ L,(lost || more)=L:=⟨_,rfl⟩
  rw [hL] at HV ⊢;clear hL
  go_upto_if 67 with fail
  go_cut [16] from 68 to 69 (fun s16 wx=>s16=.int .u64 (V:Int)/\wc=wx)
  case first=>
   have hor:bits .or .u64 (v:Int) 1=((2*(v / 2)+1:Nat):Int):=by
    have h:=u64_or_nat v 1 hv64 (by omega);rw [or_one] at h;exact h
   have hv:=HV.out
   cases L
   ·have e:v=V:=by rw [<- hv];rfl
    subst e;go_wp2_with fail
    go_meet
    exact⟨rfl,rfl⟩
   ·have e:2*(v / 2)+1=V:=by rw [<- hv];rfl
    rw [e] at hor;go_wp2_with fail
    go_meet
    exact⟨rfl,rfl⟩
  case rest=>
  obtain⟨rfl,rfl⟩:=hcut
  have h3:bits .and .u64 (V:Int) 3=((V % 4:Nat):Int):=by
   have h:=u64_and_nat V 3 hV64 (by omega);rw [show (3:Nat)=2^2 - 1 from rfl,Nat.and_two_pow_sub_one_eq_mod] at h
   exact h
  rw [HR.out] at h3
  have h4:(V:Int) / 4=(W:Int):=by have:=HW.out;omega
  clear hV64 hv64 HV hfe
  go_upto_block 0 with fail
  go_cut [18] from 74 to 104 (fun s18 wx=>s18=.int .u64 (Z:Int)/\wc=wx)
  case first=>
   have h5:bits .and .u64 (W:Int) 1=((W % 2:Nat):Int):=by
    have h:=u64_and_nat W 1 (by omega) (by omega);rw [show (1:Nat)=2^1 - 1 from rfl,Nat.and_two_pow_sub_one_eq_mod] at h
    exact h
   have hup:=HUP.out;have hz:=HZ.out
   have hr:R=0\/R=1\/R=2\/R=3:=by omega
   have hw2:W % 2=0\/W % 2=1:=by omega
   rcases hr with rfl | rfl | rfl | rfl<;>rcases hw2 with h6 | h6<;>simp [h6] at hup<;>subst hup<;>simp at hz<;>subst hz<;>rw [h6] at h5<;>clear h6<;>(go_wp2_with fail;go_meet;exact⟨rfl,rfl⟩)
  case rest=>
  obtain⟨rfl,rfl⟩:=hcut;clear HZ HUP HR HW HSM hR4 hWb;go_wp2_with fail;refine (HLD.out _).mono ?_;rintro e w3 ⟨rfl,rfl⟩;go_wp2
  go_ret
  exact⟨rfl,HB2.out⟩
theorem of_quo_near(N D k:Nat)(exp:Int)(hN:0<N)(hD:0<D)(hb:blen N<=300000)(hk:k<=200000)(h57:blen D+57<=blen N+k)(he1:-700000<=exp)(he2:exp<=1099511627776):
  ∃ T:Nat,T<=M/\∀ (A:Option Addr) (n c:Nat) (w:World),U32s w A n c (digs (N*2^k / D)) ->
  Rt 230 #[.int .i64 0,.bool false,.slice A n c,.int .i64 (exp - (k:Int)),.bool (decide (0<N*2^k % D))] (.float .f64 T) w:=by
 have h1:=quo_blen (t:=57) hN hD rfl rfl h57 (by omega);have h2:=quo_blen_le (D:=D) (b:=500000) (k:=k) (N:=N) rfl (by omega)
 have hS:0<N*2^k / D:=by
  rcases Nat.eq_zero_or_pos (N*2^k / D) with h | h
  ·rw [h,blen_zero] at h1;omega
  ·exact h
 have hl:=wlen_digs_le (K:=16384) (S:=N*2^k / D) (by omega);obtain⟨T,hT,h⟩:=of_near (decide (0<N*2^k % D)) (N*2^k / D) (N*2^exp.toNat) (D*2^(-exp).toNat) (exp - (k:Int)) hS (by omega) (Dg.quo hD) (Nat.mul_pos hD (Nat.two_pow_pos _)) (fun _=>by omega) (by omega) (by omega)
 exact⟨T,hT,fun A n c w hu=>h A n c _ w hu (num_digs _) hl⟩
theorem nudge_near(s e:Nat)(w:World)(hs:L64 s)(hf:rungOf s<=M):
  Calls prog 186 #[.int .i64 0,.float .f64 s,.float .f64 e] w fun e' w'=>e'=.returned (.float .f64 (pat (idx s)))/\w=w':=by
 have HP:=Hd (rplain s w hs hf);clear hs hf
 go_enter func186,ntmps186
 go_wp2_with fail;refine HP.out.mono ?_;rintro e' w' ⟨rfl,rfl⟩;go_wp2
 go_ret
 exact⟨rfl,rfl⟩
theorem root_near(S n:Nat)(e:Int)(hS:0<S)(hS2:S<9007199254740992)(he:-1074<=e/\e<=971)(hn:1<=n)(hn2:n<=1024):∃ T:Nat,T<=M /\
  ∀ (A:Option Addr) (m c:Nat) (w:World),U32s w A m c (digs S) ->
   Calls prog 223 #[.int .i64 0,.agg #[.bool false,.slice A m c,.int .i64 e],.int .i64 (n:Int)] w fun e' w'=>e'=.returned (.float .f64 T)/\Below w.heap.size w w':=by
 have hb:blen S<=53:=blen_le_iff.2 (by omega)
 have hb0:0<blen S:=by
  rcases Nat.eq_zero_or_pos (blen S) with h | h
  ·have:=blen_eq_zero.1 h;omega
  ·exact h
 obtain⟨k0,hk0⟩:∃ k:Nat,max 0 (58*(n:Int) - (blen S:Int))=(k:Int):=⟨58*n - blen S,by omega⟩
 have hn0:(0:Int)<(n:Int):=by omega
 have hm1:=Int.emod_nonneg (e - (k0:Int)) (show (n:Int)≠0 by omega);have hm2:=Int.emod_lt_of_pos (e - (k0:Int)) hn0;have hdm:=Int.mul_ediv_add_emod (e - (k0:Int)) (n:Int)
 obtain⟨J,hJ⟩:∃ J:Nat,(e - (k0:Int)) % (n:Int)=(J:Int):=⟨((e - (k0:Int)) % (n:Int)).toNat,by omega⟩
 obtain⟨E,hE⟩:∃ E:Int,(e - (k0:Int)) / (n:Int)=E:=⟨_,rfl⟩
 rw [hJ,hE] at hdm;rw [hJ] at hm2
 have hek:e - ((k0+J:Nat):Int)=(n:Int)*E:=by omega
 have hEb:-100000<=E/\E<=100000:=by
  rw [<- hE]
  constructor
  ·rw [Int.le_ediv_iff_mul_le hn0];omega
  ·exact Int.le_of_lt (Int.ediv_lt_of_lt_mul hn0 (by omega))
 obtain⟨s,hs⟩:∃ s,S*2 ^ (k0+J)=s:=⟨_,rfl⟩
 have hs0:0<s:=by rw [<- hs];exact Nat.mul_pos hS (Nat.two_pow_pos _)
 obtain⟨r,hr⟩:=exists_root n (by omega) s
 have h58:2 ^ (58*n - 1)<=s:=by
  rw [<- hs]
  have h1:2 ^ (blen S - 1)<=S:=by
   rcases Nat.lt_or_ge S (2 ^ (blen S - 1)) with q | q
   ·have:=blen_le_iff.2 q;omega
   ·exact q
  calc 2 ^ (58*n - 1)<=2 ^ (blen S - 1+(k0+J)):=Nat.pow_le_pow_right (by omega) (by omega)
   _=2 ^ (blen S - 1)*2 ^ (k0+J):=Nat.pow_add ..
   _<=S*2 ^ (k0+J):=Nat.mul_le_mul_right _ h1
 have hR:144115188075855872<=r:=by
  rcases Nat.lt_or_ge r 144115188075855872 with q | q
  ·exfalso
   have h2:=Nat.pow_le_pow_left (show r+1<=2 ^ 57 by omega) n;rw [<- Nat.pow_mul] at h2;have h3:(2:Nat) ^ (57*n)<=2 ^ (58*n - 1):=Nat.pow_le_pow_right (by omega) (by omega);have:=hr.2
   omega
  ·exact q
 have hrb:blen r<=70000:=by
  have h1:r<=s:=by
   refine Nat.le_trans ?_ hr.1
   calc r=r ^ 1:=(Nat.pow_one r).symm
    _<=r ^ n:=Nat.pow_le_pow_right (by omega) hn
  refine Nat.le_trans (blen_mono h1) ?_;rw [<- hs];have:=blen_mul S (2 ^ (k0+J));have:blen (2 ^ (k0+J))<=k0+J+1:=blen_le_iff.2 (Nat.pow_lt_pow_right (by omega) (by omega))
  omega
 have hb58:58<=blen r:=by
  rcases Nat.lt_or_ge (blen r) 58 with q | q
  ·have:=blen_le_iff.1 (show blen r<=57 by omega);omega
  ·exact q
 obtain⟨more,hmo⟩:∃ b,(!(cmp3 (r ^ n) s == 0))=b:=⟨_,rfl⟩
 obtain⟨T,hT,hof⟩:∃ T:Nat,T<=M/\∀ W B m' c',U32s W B m' c' (digs r)->Rt 230 #[.int .i64 0,.bool false,.slice B m' c',.int .i64 E,.bool more] (.float .f64 T) W:=by
  by_cases h:r ^ n=s
  ·have e1:more=false:=by rw [<- hmo,cmp3_eq h];rfl
   rw [e1];obtain⟨T,hT,ho⟩:=of_quo_near r 1 0 E (by omega) (by omega) (by omega) (by omega) (by have:blen 1<=1:=blen_le_iff.2 (by omega);omega) (by omega) (by omega);rw [Nat.pow_zero,Nat.mul_one,Nat.div_one,Nat.mod_one,show (E - ((0:Nat):Int))=E from by omega] at ho
   exact⟨T,hT,fun W B m' c' hB=>ho B m' c' W hB⟩
  ·have e1:more=true:=by
    rw [<- hmo];have:cmp3 (r ^ n) s≠0:=fun k=>h (cmp3_zero.1 k)
    simpa using this
   rw [e1]
   have b2:blen (2*r+1)<=blen r+1:=by
    have:=blen_le_iff.1 (Nat.le_refl (blen r))
    exact blen_le_iff.2 (by rw [Nat.pow_succ];omega)
   have b3:blen r+1<=blen (2*r+1):=by
    have:=blen_half (n:=2*r+1) (by omega);rw [show (2*r+1) / 2=r by omega] at this;omega
   obtain⟨T,hT,ho⟩:=of_quo_near (2*r+1) 2 0 E (by omega) (by omega) (by omega) (by omega) (by have:blen 2<=2:=blen_le_iff.2 (by omega);omega) (by omega) (by omega);rw [Nat.pow_zero,Nat.mul_one,show (2*r+1) / 2=r by omega,show (2*r+1) % 2=1 by omega,show (E - ((0:Nat):Int))=E from by omega] at ho
   exact⟨T,hT,fun W B m' c' hB=>ho B m' c' W hB⟩
 refine⟨T,hT,fun A m c w hu=>?_⟩;refine root_walk 0 false more S n k0 J r s _ e E _ A m c w hu (by omega) hn hn2 (by omega) hk0 (by omega) (fun i hi=>?_) ?_ ?_ hEb hs hs0 hr rfl hmo hof
 ·rw [<- Int.dvd_iff_tmod_eq_zero];rintro⟨t,ht⟩
  have h1:(e - ((k0+i:Nat):Int))=(n:Int)*E+((J:Int) - (i:Int)):=by omega
  have h2:(n:Int)*(t - E)=(J:Int) - (i:Int):=by rw [Int.mul_sub];omega
  have h3:0<t - E:=by
   rcases Int.lt_or_le 0 (t - E) with q | q
   ·exact q
   ·have:=Int.mul_nonneg (show 0<=(n:Int) by omega) (show 0<=-(t - E) by omega);rw [Int.mul_neg] at this;omega
  have h4:(n:Int)*1<=(n:Int)*(t - E):=Int.mul_le_mul_of_nonneg_left (by omega) (by omega)
  omega
 ·rw [hek,Int.mul_tmod_right]
 ·rw [hek,Int.mul_tdiv_cancel_left _ (by omega)]
theorem ratio_near(N D:Nat)(exp:Int)(hN:0<N)(hD:0<D)(hbN:blen N<=64)(hbD:blen D<=64)(he1:-3000<=exp)(he2:exp<=100000)(h57:blen N<=blen D+56)(hnt:-1100<=(blen N:Int) - (blen D:Int)+exp):
  ∃ T:Nat,T<=M/\∀ (A B:Option Addr) (n c m c2:Nat) (w:World),U32s w A n c (digs N)->U32s w B m c2 (digs D) ->
  Rt 211 #[.int .i64 0,.bool false,.slice A n c,.slice B m c2,.int .i64 exp] (.float .f64 T) w:=by
 obtain⟨k,hkk⟩:∃ k:Nat,57+(blen D:Int) - (blen N:Int)=(k:Int):=⟨(57+(blen D:Int) - (blen N:Int)).toNat,by omega⟩
 obtain⟨T,hT,hKF⟩:=of_quo_near N D k exp hN hD (by omega) (by omega) (by omega) (by omega) (by omega);refine⟨T,hT,fun A B n c m c2 w hu hv=>?_⟩;have L1:=nlen_any A n c _ w hu;have L2:=nlen_any B m c2 _ w hv;rw [num_digs] at L1 L2
 have hbD0:blen D≠0:=fun h=>by rw [blen_eq_zero] at h;omega
 have hbN0:blen N≠0:=fun h=>by rw [blen_eq_zero] at h;omega
 have wN:=wlen_digs_le (K:=16384) (S:=N) (by omega)
 have KS:=Hd (by
   have h:=nshl_any A n c k _ w hu wN (by rw [num_digs];omega)
   rw [num_digs] at h;exact h:Calls prog 202 #[.slice A n c,.int .i64 (k:Int)] w (NewU32E w (digs (N*2^k))))
 have KQ:=Hd fun A B n c m d W (h1:U32s W A n c (digs (N*2^k))) (h2:U32s W B m d (digs D))=>(by
   have h:=nquo_any A B n c m d _ _ W h1 h2 (wlen_digs_le (K:=16384) (by rw [blen_shl _ _ hN];omega)) (wlen_digs_le (K:=16384) (by omega)) (by rw [num_digs];exact hD)
   rw [num_digs,num_digs] at h;exact h:Calls prog 240 #[.slice A n c,.slice B m d] W (NewQR W (N*2^k / D) (N*2^k % D)))
 have KF:=Hd hKF;have HH:=Hd fun W=>hold_any exp W (by omega) (by omega);have HV:=Hd hv;have K1:=Hd L1;have K2:=Hd L2
 obtain⟨bd,hbd⟩:∃ b,blen D=b:=⟨_,rfl⟩
 obtain⟨bn,hbn⟩:∃ b,blen N=b:=⟨_,rfl⟩
 rw [hbd] at K2 hbD hbD0 h57 hkk hnt;rw [hbn] at K1 hbN hbN0 h57 hkk hnt
 have hz1:((bd:Int) == 0)=false:=by simp;omega
 have hz2:((bn:Int) == 0)=false:=by simp;omega
 have hk3:¬ (bn:Int) - (bd:Int)+exp < -1100:=by omega
 have hk0:¬ (k:Int)<=0:=by omega
 have hk2:(k:Int)<=200000:=by omega
 obtain⟨Q,hQ⟩:∃ z,N*2^k / D=z:=⟨_,rfl⟩
 obtain⟨R,hR⟩:∃ z,N*2^k % D=z:=⟨_,rfl⟩
 rw [hQ] at KQ KF;rw [hR] at KQ KF
 have HLR:=Hd fun (m:Nat) (h:(digs R).length=m)=>(show decide (0<R)=decide (0<m) from by
   rcases Nat.eq_zero_or_pos R with h0 | h0
   ·subst h0;rw [digs_zero] at h;subst h;rfl
   ·have:=digs_len_pos (by omega) h
    rw [decide_eq_true h0,decide_eq_true this])
 clear L1 L2 hbd hbn hu hv wN hN hD hbD0 hbN0 hKF hQ hR h57 hnt
 go_enter func211,ntmps211
 go_wp2_with fail;refine K1.out.mono ?_;rintro e w' ⟨rfl,rfl⟩;go_wp2_with fail;refine K2.out.mono ?_;rintro e w' ⟨rfl,rfl⟩;clear K1 K2;go_wp2_with fail;refine cy (HH.out _) ?_;clear HH;go_wp2_with fail;refine KS.out.mono ?_;rintro e w1 ⟨A1,n1,c1,rfl,hu1,hb1⟩;have HU1:=Hd hu1;have HV1:=Hd (HV.out.below hb1);have HB1:=Hd hb1;clear hu1 hb1 KS HV;go_wp2_with fail;refine (KQ.out _ _ _ _ _ _ _ HU1.out HV1.out).mono ?_;rintro e w2 ⟨A2,n2,c3,B2,m2,d2,rfl,hq,hr,hb2⟩;have HB2:=Hd (HB1.out.trans (hb2.mono HB1.out.size));have HQ2:=Hd hq;have HRL:=Hd (HLR.out _ hr.len);clear hq hr hb2 HU1 HV1 HB1 KQ HLR;go_wp2_with fail;have h:=KF.out _ _ _ _ HQ2.out;rw [HRL.out] at h;refine h.mono ?_;rintro e w3 ⟨rfl,hb3⟩;have HB3:=Hd (HB2.out.trans (hb3.mono HB2.out.size));clear hb3 h KF HRL HQ2 HB2;go_wp2
 go_ret
 exact⟨rfl,HB3.out⟩
theorem one_parts{S:Nat}{e:Int}(h:(S:Rat)*2 ^ e=1)(he:-1074<=e):0<S/\1<=(blen S:Int)+e:=by
 have h0:0<S:=by
  rcases Nat.eq_zero_or_pos S with c | c
  ·subst c;rw [show ((0:Nat):Rat)=0 from rfl,Rat.zero_mul] at h;exact absurd h (by decide)
  ·exact c
 have hb0:0<blen S:=by
  rcases Nat.eq_zero_or_pos (blen S) with h | h
  ·rw [blen_eq_zero] at h;omega
  ·exact h
 refine⟨h0,?_⟩
 by_cases c:0<=e
 ·omega
 ·obtain⟨k,hk⟩:∃ k:Nat,e=-(k:Int):=⟨(-e).toNat,by omega⟩
  have hS:S=2 ^ k:=by
   rw [hk] at h
   have a:(2:Rat) ^ (-(k:Int))*2 ^ (k:Int)=1:=by rw [<- zpow_add,show -(k:Int)+(k:Int)=0 by omega];rfl
   have b:((S:Rat))=(2:Rat) ^ (k:Int):=by
    have c:=congrArg (·*(2:Rat) ^ (k:Int)) h
    rwa [Rat.mul_assoc,a,Rat.mul_one,Rat.one_mul] at c
   rw [zpow_nat] at b
   exact_mod_cast b
  have:¬ blen S<=k:=fun h=>by rw [blen_le_iff] at h;omega
  omega
structure Recip (j:Int) where
 q:Nat
 p:Nat
 t:Nat
 hq:FloatKind.f64.format.div 4607182418800017408 (pat j)=some q
 hp:FloatKind.f64.format.mul q (pat j)=some p
 q1:q<18446744073709551616
 q2:idx q=(t:Int)
 q3:t<=M
 q4:rungOf q<=M
 p1:p<18446744073709551616
 p2:rungOf p<=M
theorem recip_some{j:Int}(h0:0<j)(h1:j<M):Nonempty (Recip j):=by
 have hM:M=9218868437227405312:=rfl
 obtain⟨U,hU⟩:∃ T:Nat,T=1074:=⟨_,rfl⟩
 have hy:=pat_lt (i:=j) (by omega) (by omega);have ry:=rung_pat (i:=j) (by omega) (by omega);have sy:=sgn_pat2 (i:=j) (by omega) (by omega);rw [decide_eq_false (by omega)] at sy
 have r1:rungOf 4607182418800017408=4607182418800017408:=by decide
 obtain⟨q,t,hq,his,ht,-,-⟩:=div_pos (x:=4607182418800017408) (y:=pat j) hU (by unfold fin;rw [r1];omega) (by unfold fin;omega) (by decide) sy (by rw [r1];omega) (by omega);have hn:=idx_natAbs q;rw [his.idx] at hn
 have q4:rungOf q<=M:=by omega
 by_cases hf:rungOf q<M
 ·obtain⟨p,hp,hip⟩:=mul_fin (x:=q) (y:=pat j) hf (by unfold fin;omega);have hr:=near_range (val (idx q)*val (idx (pat j))) 1074;have hn:=idx_natAbs p;rw [hip.idx] at hn
  exact⟨⟨q,p,t,hq,hp,his.lt,his.idx,ht,q4,hip.lt,by omega⟩⟩
 ·have hm:=mul_inf (x:=q) (y:=pat j) (by omega) (by omega) (by omega) (by omega) (by omega)
  obtain⟨k,hk⟩:∃ k:Int,(if (sgn q ^^ sgn (pat j))=true then -(M:Int) else M)=k:=⟨_,rfl⟩
  rw [hk] at hm
  have hk2:-(M:Int)<=k/\k<=M:=by rw [<- hk];split<;>omega
  exact⟨⟨q,pat k,t,hq,hm,his.lt,his.idx,ht,q4,pat_lt hk2.1 hk2.2,by rw [rung_pat hk2.1 hk2.2];omega⟩⟩
theorem order_one{j:Int}(h0:0<j)(h1:j<M):FloatKind.f64.format.order (pat j) 0=some .gt:=by
 have hM:=M_val;have o:=ord0 (i:=j) (by omega);rw [Int.compare_eq_gt.2 h0] at o
 exact o
theorem plain_pos{j:Int}(h0:0<j)(h1:j<M)(W:World):Calls prog 184 #[.float .f64 (pat j)] W fun e w'=>e=.returned (.float .f64 (pat j))/\W=w':=by
 have hM:=M_val;have h:=rplain (pat j) W (pat_lt (by omega) (by omega)) (by rw [rung_pat (by omega) (by omega)];omega);rw [idx_pat (by omega) (by omega)] at h
 exact h
theorem parts_one{j:Int}(h0:0<j)(h1:j<M):∃ S1 S2:Nat,∃ e1 e2:Int,(S1<9007199254740992/\-1074<=e1/\e1<=971)/\(S2<9007199254740992/\-1074<=e2/\e2<=971)/\0<S1/\0<S2/\1<=(blen S1:Int)+e1/\rv false S1 S2*2 ^ (e1 - e2)=1 / fl j /\
  (∀ W,Calls prog 189 #[.float .f64 4607182418800017408] W (NewDy W false S1 e1))/\(∀ W,Calls prog 189 #[.float .f64 (pat j)] W (NewDy W false S2 e2)):=by
 have hM:=M_val
 have r1:rungOf 4607182418800017408=4607182418800017408:=by decide
 obtain⟨S1,e1,a1,a2,a3,a4,P1⟩:=part_any 4607182418800017408 (by decide) (by unfold fin;rw [r1];omega);obtain⟨S2,e2,b1,b2,b3,b4,P2⟩:=part_any (pat j) (pat_lt (by omega) (by omega)) (by unfold fin;rw [rung_pat (by omega) (by omega)];omega);have sy:=sgn_pat2 (i:=j) (by omega) (by omega);rw [decide_eq_false (by omega)] at sy;rw [sy] at b4 P2;rw [idx_pat (by omega) (by omega)] at b4
 have s1:sgn 4607182418800017408=false:=by decide
 rw [s1] at a4 P1
 have i1:idx 4607182418800017408=4607182418800017408:=by decide
 rw [i1,show fl 4607182418800017408=1 from by decide +kernel] at a4
 have f1:∀ S:Nat,rv false S 1=(S:Rat):=fun S=>by unfold rv;simp only [Bool.false_eq_true,if_false];grind
 rw [f1] at a4 b4;obtain⟨c1,c2⟩:=one_parts a4.symm a2;have hp:=fl_lt_iff.2 h0;rw [fl_zero] at hp
 have c3:0<S2:=by
  rcases Nat.eq_zero_or_pos S2 with c | c
  ·subst c;rw [show ((0:Nat):Rat)=0 from rfl,Rat.zero_mul] at b4;grind
  ·exact c
 refine⟨S1,S2,e1,e2,⟨a1,a2,a3⟩,⟨b1,b2,b3⟩,c1,c3,c2,?_,P1,P2⟩
 have S2r:(0:Rat)<(S2:Rat):=by exact_mod_cast c3
 have p2:(0:Rat)<2 ^ e2:=zpow_pos _
 have e:rv false S1 S2=(S1:Rat) / (S2:Rat):=by unfold rv;simp
 have em:(2:Rat) ^ (e1 - e2)*2 ^ e2=2 ^ e1:=by rw [<- zpow_add,show e1 - e2+e2=e1 by omega]
 have h2:(S1:Rat) / (S2:Rat)*2 ^ (e1 - e2)*fl j=1:=by
  rw [b4]
  have:(S1:Rat) / (S2:Rat)*2 ^ (e1 - e2)*((S2:Rat)*2 ^ e2)=(S1:Rat) / (S2:Rat)*(S2:Rat)*(2 ^ (e1 - e2)*2 ^ e2):=by grind
  rw [this,em,Rat.div_mul_cancel (by grind)]
  exact a4.symm
 rw [e];generalize (S1:Rat) / (S2:Rat)*2 ^ (e1 - e2)=z at h2 ⊢;clear b4 a4 e em S2r p2
 grind
theorem rdiv_pat(d j:Int)(w:World)(hd:d=-1\/d=1)(h0:0<j)(h1:j<M):
  Rt 245 #[.int .i64 d,.float .f64 4607182418800017408,.float .f64 (pat j)] (.float .f64 (pat (rndI d (1 / fl j)))) w:=by
 have hM:=M_val;obtain⟨⟨q,p,t,hq,hp,q1,q2,q3,q4,p1,p2⟩⟩:=recip_some h0 h1;have hy:=pat_lt (i:=j) (by omega) (by omega);have ry:=rung_pat (i:=j) (by omega) (by omega);have sy:=sgn_pat2 (i:=j) (by omega) (by omega);rw [decide_eq_false (by omega)] at sy;have m1:=fun W=>middle_any 4607182418800017408 W (by decide) (by decide);rw [show mid 4607182418800017408=true from by decide] at m1;have m2:=fun W=>middle_any (pat j) W hy (by omega);have m3:=fun W=>middle_any q W q1 q4;have m4:=fun W=>middle_any p W p1 p2;have iy:=idx_pat (i:=j) (by omega) (by omega)
 by_cases hm:mid (pat j)=true/\mid q=true/\mid p=true
 ·obtain⟨xt,xu,xh,xl,yt,yu,yh,yl,z1,e0,z2,e1,z3,e2,z4,e,f,g,g1,g2,g3,g4,g5,g6,g7,g8,g9,g10,g11,g12,g13,g14,g15,g16,g17,g18,g19,g20,g21,g22,g23⟩:=quick_recip hd hy hm.1 sy hq hm.2.1 hp hm.2.2;rw [hm.1] at m2;rw [hm.2.1] at m3;rw [hm.2.2] at m4;have hN:=fun W=>nudge_any d q g W hd g20 g21 g22;rw [g23,iy] at hN
  exact rdiv_quick_walk d (pat j) q p f e g _ w hy (by omega) (plain_pos h0 h1) (order_one h0 h1) hq hp g17 g18 m1 m2 m3 m4 (fun W=>missed_walk q (pat j) p xh xl yh yl z1 e0 z2 e1 z3 e2 z4 e W (fun W=>halves_walk q xt xu xh xl W g1 g2 g3 g4) (fun W=>halves_walk (pat j) yt yu yh yl W g5 g6 g7 g8) g9 g10 g11 g12 g13 g14 g15 g16) hN
 ·obtain⟨S1,S2,e1,e2,⟨a1,a2,a3⟩,⟨b1,b2,b3⟩,c1,c2,c3,hv,P1,P2⟩:=parts_one h0 h1;have k1:blen S1<=53:=blen_le_iff.2 (show S1<2^53 from a1);have k2:blen S2<=53:=blen_le_iff.2 (show S2<2^53 from b1);refine rdiv_exact_walk d (pat j) q p _ S1 S2 e1 e2 (mid (pat j)) (mid q) (mid p) w hy (by omega) (plain_pos h0 h1) (order_one h0 h1) hq hp m1 m2 m3 m4 ?_ P1 P2 (fun W A1 n1 c1' A2 n2 c2' u1 u2=>rquotient_walk d S1 S2 _ e1 e2 _ A1 n1 c1' A2 n2 c2' W u1 u2 ⟨a2,a3⟩ ⟨b2,b3⟩ rfl fun W A m c B m' c' v1 v2=>?_)
  ·cases k:mid (pat j)
   ·exact .inl rfl
   ·cases k':mid q
    ·exact .inr (.inl ⟨rfl,rfl⟩)
    ·refine .inr (.inr ⟨rfl,rfl,?_⟩)
     cases k'':mid p
     ·rfl
     ·exact absurd ⟨k,k',k''⟩ hm
  ·rw [<- hv]
   exact ratio_any d false A B m c m' c' S1 S2 (e1 - e2) W v1 v2 c2 (by omega) (by omega) hd (by omega) (by omega)
theorem rdiv_near{j:Int}(h0:0<j)(h1:j<M):∃ T:Nat,T<=M/\∀ w,Rt 245 #[.int .i64 0,.float .f64 4607182418800017408,.float .f64 (pat j)] (.float .f64 T) w:=by
 have hM:=M_val;obtain⟨⟨q,p,t,hq,hp,q1,q2,q3,q4,p1,p2⟩⟩:=recip_some h0 h1;have hy:=pat_lt (i:=j) (by omega) (by omega);have ry:=rung_pat (i:=j) (by omega) (by omega);have sy:=sgn_pat2 (i:=j) (by omega) (by omega);rw [decide_eq_false (by omega)] at sy;have m1:=fun W=>middle_any 4607182418800017408 W (by decide) (by decide);rw [show mid 4607182418800017408=true from by decide] at m1;have m2:=fun W=>middle_any (pat j) W hy (by omega);have m3:=fun W=>middle_any q W q1 q4;have m4:=fun W=>middle_any p W p1 p2
 by_cases hm:mid (pat j)=true/\mid q=true/\mid p=true
 ·obtain⟨xt,xu,xh,xl,yt,yu,yh,yl,z1,e0,z2,e1,z3,e2,z4,e,f,g,g1,g2,g3,g4,g5,g6,g7,g8,g9,g10,g11,g12,g13,g14,g15,g16,g17,g18,g19,g20,g21,g22,g23⟩:=quick_recip (d:=1) (.inr rfl) hy hm.1 sy hq hm.2.1 hp hm.2.2;rw [hm.1] at m2;rw [hm.2.1] at m3;rw [hm.2.2] at m4;have hN:=fun W=>nudge_near q g W q1 q4;rw [q2,pat_nn (by omega)] at hN
  exact⟨t,q3,fun w=>rdiv_quick_walk 0 (pat j) q p f e g _ w hy (by omega) (plain_pos h0 h1) (order_one h0 h1) hq hp g17 g18 m1 m2 m3 m4 (fun W=>missed_walk q (pat j) p xh xl yh yl z1 e0 z2 e1 z3 e2 z4 e W (fun W=>halves_walk q xt xu xh xl W g1 g2 g3 g4) (fun W=>halves_walk (pat j) yt yu yh yl W g5 g6 g7 g8) g9 g10 g11 g12 g13 g14 g15 g16) hN⟩
 ·obtain⟨S1,S2,e1,e2,⟨a1,a2,a3⟩,⟨b1,b2,b3⟩,c1,c2,c3,hv,P1,P2⟩:=parts_one h0 h1;have k1:blen S1<=53:=blen_le_iff.2 (show S1<2^53 from a1);have k2:blen S2<=53:=blen_le_iff.2 (show S2<2^53 from b1);obtain⟨T,hT,hR⟩:=ratio_near S1 S2 (e1 - e2) c1 c2 (by omega) (by omega) (by omega) (by omega) (by omega) (by omega);refine⟨T,hT,fun w=>rdiv_exact_walk 0 (pat j) q p _ S1 S2 e1 e2 (mid (pat j)) (mid q) (mid p) w hy (by omega) (plain_pos h0 h1) (order_one h0 h1) hq hp m1 m2 m3 m4 ?_ P1 P2 (fun W A1 n1 c1' A2 n2 c2' u1 u2=>rquotient_walk 0 S1 S2 _ e1 e2 _ A1 n1 c1' A2 n2 c2' W u1 u2 ⟨a2,a3⟩ ⟨b2,b3⟩ rfl fun W A m c B m' c' v1 v2=>hR A B m c m' c' W v1 v2)⟩
  cases k:mid (pat j)
  ·exact .inl rfl
  ·cases k':mid q
   ·exact .inr (.inl ⟨rfl,rfl⟩)
   ·refine .inr (.inr ⟨rfl,rfl,?_⟩)
    cases k'':mid p
    ·rfl
    ·exact absurd ⟨k,k',k''⟩ hm
theorem rroot_near{t:Nat}(ht:t<=M)(n:Nat)(hn:1<=n)(hn2:n<=1024):∃ T:Nat,T<=M/\∀ w,Rt 174 #[.int .i64 0,.float .f64 t,.int .i64 (n:Int)] (.float .f64 T) w:=by
 have hM:=M_val
 have et:pat (t:Int)=t:=by rw [pat_nn (by omega)];rfl
 by_cases h0:t=0
 ·subst h0
  exact⟨0,by omega,fun w=>root_nought 0 n w hn hn2⟩
 by_cases h1:t=M
 ·refine⟨t,ht,fun w=>?_⟩;have h:=root_far 0 (t:Int) n .eq w hn hn2 (.inl (by omega)) (.inr (by omega));rw [et] at h
  exact h
 ·have hi:-(M:Int)<=(t:Int)/\(t:Int)<=M:=by omega
  obtain⟨S,e,b1,b2,b3,hv,hpt⟩:=part_any (pat (t:Int)) (pat_lt hi.1 hi.2) (by unfold fin;rw [rung_pat hi.1 hi.2];omega);have s0:=sgn_pat2 (i:=(t:Int)) hi (by omega);rw [decide_eq_false (by omega)] at s0;rw [idx_pat hi.1 hi.2,s0] at hv;rw [s0] at hpt
  have hS:0<S:=by
   rcases Nat.eq_zero_or_pos S with h | h
   ·exfalso
    have hz:fl (t:Int)=0:=by rw [hv,h];unfold rv;simp only [Bool.false_eq_true,if_false];grind
    have:=fl_lt_iff.2 (show (0:Int)<(t:Int) by omega);rw [fl_zero] at this;grind
   ·exact h
  obtain⟨T,hT,hroot⟩:=root_near S n e hS b1 ⟨b2,b3⟩ hn hn2;refine⟨T,hT,fun w=>?_⟩;have HF:=fun W=>isinff (pat (t:Int)) W (pat_lt hi.1 hi.2) (by rw [rung_pat hi.1 hi.2];omega);rw [rung_pat hi.1 hi.2,decide_eq_false (show ¬ (t:Int).natAbs=M by omega)] at HF
  have h:=root_some 0 (pat (t:Int)) n T false S e (compare (t:Int) 0) w hn hn2 (fun W=>isnanf (pat (t:Int)) W (by rw [rung_pat hi.1 hi.2];omega)) HF (ord0 hi) (by
   have c:compare (t:Int) 0=.gt:=Int.compare_eq_gt.2 (by omega)
   rcases Nat.mod_two_eq_zero_or_one n with k | k
   ·exact .inr ⟨k,c⟩
   ·exact .inl ⟨k,.inr c⟩) hpt (fun A m c W hu=>hroot A m c W hu)
  rw [et] at h
  exact h
def RtQ(x:Rat)(n:Nat)(q:Rat):Prop:=0<q/\∀ j:Int,0<=j->(fl j<=q↔fl j ^ n<=x)/\(q<=fl j↔x<=fl j ^ n)
theorem RtQ.of{i:Int}{n:Nat}{q:Rat}(h:RtOk i n q):RtQ (fl i) n q:=h
def Rtp(n:Nat)(x q:Rat):Prop:=(x=0/\q=0)\/(0<x/\RtQ x n q)\/(x<0/\RtQ (-x) n (-q))
theorem Rtp.neg{n:Nat}{x q:Rat}(h:Rtp n x q):Rtp n (-x) (-q):=by
 rcases h with ⟨rfl,rfl⟩ | ⟨h0,h⟩ | ⟨h0,h⟩
 ·exact .inl ⟨by grind,by grind⟩
 ·exact .inr (.inr ⟨by grind,by rw [Rat.neg_neg,Rat.neg_neg];exact h⟩)
 ·exact .inr (.inl ⟨by grind,h⟩)
theorem Rtp.one(x:Rat):Rtp 1 x x:=by
 have e:∀ y:Rat,y ^ 1=y:=fun y=>by rw [Rat.pow_succ,Rat.pow_zero];grind
 by_cases h0:x=0
 ·exact .inl ⟨h0,h0⟩
 ·by_cases h:x<0
  ·exact .inr (.inr ⟨h,by grind,fun j _=>by rw [e];exact⟨Iff.rfl,Iff.rfl⟩⟩)
  ·have h2:0<x:=by grind
   exact .inr (.inl ⟨h2,h2,fun j _=>by rw [e];exact⟨Iff.rfl,Iff.rfl⟩⟩)
theorem RtQ.le{x:Rat}{n:Nat}{q q':Rat}(h:RtQ x n q)(h':RtQ x n q')(j:Int):(fl j<=q↔fl j<=q')/\(q<=fl j↔q'<=fl j):=by
 by_cases hj:0<=j
 ·rw [(h.2 j hj).1,(h'.2 j hj).1,(h.2 j hj).2,(h'.2 j hj).2];exact⟨Iff.rfl,Iff.rfl⟩
 ·have h1:fl j<0:=by have:=fl_lt_iff.2 (show j<0 by omega);rwa [fl_zero] at this
  have h2:=h.1;have h3:=h'.1
  exact⟨⟨fun _=>by grind,fun _=>by grind⟩,⟨fun _=>by grind,fun _=>by grind⟩⟩
theorem rnd_same{q q':Rat}(h:∀ j,(fl j<=q↔fl j<=q')/\(q<=fl j↔q'<=fl j)){d:Int}(hd:d=-1\/d=1):rndI d q=rndI d q':=by
 have hM:=M_val
 rcases hd with rfl | rfl
 ·obtain⟨a1,a2,a3⟩:=rndI_down q;obtain⟨b1,b2,b3⟩:=rndI_down q'
  by_cases c1:rndI (-1) q=-(M:Int)
  ·by_cases c2:rndI (-1) q'=-(M:Int)
   ·omega
   ·have:=(a3 _ (by omega) b2).2 ((h _).1.2 ((b3 _ (by omega) b2).1 (Int.le_refl _)))
    omega
  ·have l1:=(b3 _ (by omega) a2).2 ((h _).1.1 ((a3 _ (by omega) a2).1 (Int.le_refl _)));have l2:=(a3 (rndI (-1) q') (by omega) b2).2 ((h _).1.2 ((b3 _ (by omega) b2).1 (Int.le_refl _)))
   omega
 ·obtain⟨a1,a2,a3⟩:=rndI_up q;obtain⟨b1,b2,b3⟩:=rndI_up q'
  by_cases c1:rndI 1 q=M
  ·by_cases c2:rndI 1 q'=M
   ·omega
   ·have:=(a3 _ b1 (by omega)).2 ((h _).2.2 ((b3 _ b1 (by omega)).1 (Int.le_refl _)))
    omega
  ·have l1:=(b3 _ a1 (by omega)).2 ((h _).2.1 ((a3 _ a1 (by omega)).1 (Int.le_refl _)));have l2:=(a3 (rndI 1 q') b1 (by omega)).2 ((h _).2.2 ((b3 _ b1 (by omega)).1 (Int.le_refl _)))
   omega
def rqb(b:Bool)(R:Nat)(c:Rat):Rat:=if b=true then (R:Rat)*c else ((2*R+1:Nat):Rat)*(c / 2)
theorem rqb_pos{b:Bool}{R:Nat}{c:Rat}(hc:0<c)(hR:0<R):0<rqb b R c:=by
 unfold rqb
 split
 ·exact Rat.mul_pos (by exact_mod_cast hR) hc
 ·exact Rat.mul_pos (by exact_mod_cast (show 0<2*R+1 by omega)) (by grind)
theorem rqb_cmp{c f s:Rat}{b:Bool}{n R:Nat}(hc:0<c)(hn:0<n)(h1:((R ^ n:Nat):Rat)<=s)(h2:s<(((R+1) ^ n:Nat):Rat))(hb:b=true↔((R ^ n:Nat):Rat)=s)(hf:(∃ Z:Nat,f=(Z:Rat)*c)\/(0<=f/\f<(R:Rat)*c)):
  (f<=rqb b R c↔f ^ n<=s*c ^ n)/\(rqb b R c<=f↔s*c ^ n<=f ^ n):=by
 have hcn:0<c ^ n:=Rat.pow_pos hc
 have hc2:0<c / 2:=by grind
 rcases hf with ⟨Z,rfl⟩ | ⟨h0,hlt⟩
 ·rw [rmul_pow,<- Rat.natCast_pow,mul_le_pos hcn,mul_le_pos hcn];unfold rqb
  by_cases h:b=true
  ·rw [if_pos h,nat_le_c hc,nat_le_c hc,<- hb.1 h,Rat.natCast_le_natCast,Rat.natCast_le_natCast,pow_le_iff _ _ _ hn,pow_le_iff _ _ _ hn]
   exact⟨Iff.rfl,Iff.rfl⟩
  ·rw [if_neg h];have hne:((R ^ n:Nat):Rat)≠s:=fun e=>h (hb.2 e)
   have e:(Z:Rat)*c=((2*Z:Nat):Rat)*(c / 2):=by push_cast;grind
   rw [e,nat_le_c hc2,nat_le_c hc2]
   constructor
   ·constructor
    ·intro k;have:=Rat.natCast_le_natCast.2 (Nat.pow_le_pow_left (show Z<=R by omega) n)
     exact Rat.le_trans this h1
    ·intro k
     rcases Nat.lt_or_ge R Z with q | q
     ·have:=Rat.natCast_le_natCast.2 (Nat.pow_le_pow_left (show R+1<=Z from q) n)
      grind
     ·omega
   ·constructor
    ·intro k;have:=Rat.natCast_le_natCast.2 (Nat.pow_le_pow_left (show R+1<=Z by omega) n)
     grind
    ·intro k
     rcases Nat.lt_or_ge R Z with q | q
     ·omega
     ·have:=Rat.natCast_le_natCast.2 (Nat.pow_le_pow_left q n)
      grind
 ·have h3:(R:Rat)*c<=rqb b R c:=by
   unfold rqb
   split
   ·grind
   ·have:((R:Rat)*c)=((2*R:Nat):Rat)*(c / 2):=by push_cast;grind
    rw [this,nat_le_c hc2];omega
  have h4:f ^ n<((R:Rat)*c) ^ n:=rpow_lt h0 hlt n hn
  have h5:((R:Rat)*c) ^ n<=s*c ^ n:=by
   rw [rmul_pow,<- Rat.natCast_pow,mul_le_pos hcn];exact h1
  exact⟨⟨fun _=>by grind,fun _=>by grind⟩,⟨fun _=>by grind,fun _=>by grind⟩⟩
theorem rqb_ok{x s:Rat}{b:Bool}{n R:Nat}{E:Int}(hn:0<n)(h1:((R ^ n:Nat):Rat)<=s)(h2:s<(((R+1) ^ n:Nat):Rat))(hb:b=true↔((R ^ n:Nat):Rat)=s)(h57:144115188075855872<=R)(hx:x=s*2 ^ ((n:Int)*E)):RtQ x n (rqb b R (2 ^ E)):=by
 have hc:=zpow_pos E;refine⟨rqb_pos hc (by omega),fun j hj=>?_⟩;have h:=rqb_cmp hc hn h1 h2 hb (fl_dig hj E R h57);rw [zpow_pow,<- hx] at h
 exact h
theorem rpow_nought(d:Int)(m:Nat)(w:World)(hm:1<=m)(hm2:m<=1024):
  Rt 248 #[.int .i64 d,.float .f64 0,.int .i64 (-(m:Int))] (.float .f64 9218868437227405312) w:=by
 have hM:=M_val;have hN0:=fun W=>isnanf (pat 0) W (by rw [rung_pat (by omega) (by omega)];omega);have hF0:=fun W=>isinff (pat 0) W (pat_lt (by omega) (by omega)) (by rw [rung_pat (by omega) (by omega)];omega);have hG0:=fun W=>isinfm (pat 0) W (pat_lt (by omega) (by omega)) (by rw [rung_pat (by omega) (by omega)];omega) (by rw [idx_pat (by omega) (by omega)];omega);rw [rung_pat (by omega) (by omega),decide_eq_false (by omega)] at hF0;rw [pat_zero] at hN0 hF0 hG0;have o:=ord0_eq (i:=0) rfl;rw [pat_zero] at o;have HN:=Hd hN0;have HF:=Hd hF0;have HG:=Hd hG0;have HJ:=Hd inf_pos
 have h1:¬ -(m:Int) < -1024:=by omega
 have h2:¬ (1024:Int) < -(m:Int):=by omega
 have h3:(-(m:Int) == 0)=false:=by simp;omega
 have h4:-(m:Int)<0:=by omega
 clear hN0 hF0 hG0 hM
 go_enter func248,ntmps248
 go_wp2_with fail;refine cy (HN.out _) ?_;go_wp2_with fail;refine cy (HF.out _) ?_;go_wp2_with fail;refine cy (HG.out _) ?_;go_wp2_with fail;refine cy (HF.out _) ?_;go_wp2_with fail;refine cy (HJ.out _) ?_;go_wp2
 go_ret
 exact⟨rfl,Below.refl _ _⟩
theorem one_div_flip{a b:Rat}(ha:0<a)(hb:0<b):(a<=1 / b↔b<=1 / a)/\(1 / b<=a↔1 / a<=b):=by
 have e1:1 / b*b=1:=Rat.div_mul_cancel (by grind);have e2:1 / a*a=1:=Rat.div_mul_cancel (by grind)
 constructor
 ·rw [<- mul_le_pos (a:=a) (b:=1 / b) hb,e1,<- mul_le_pos (a:=b) (b:=1 / a) ha,e2,Rat.mul_comm]
 ·rw [<- mul_le_pos (a:=1 / b) (b:=a) hb,e1,<- mul_le_pos (a:=1 / a) (b:=b) ha,e2,Rat.mul_comm]
theorem fl_pos'{k:Int}(h:0<k):0<fl k:=by have:=fl_lt_iff.2 h;rwa [fl_zero] at this
theorem pow_pos'{x:Rat}(h:0<x):∀ n:Nat,0<x ^ n
 | 0=>by rw [Rat.pow_zero];decide
 | n+1=>by rw [Rat.pow_succ];exact Rat.mul_pos (pow_pos' h n) h
theorem rch_iff{j:Int}{n k:Nat}{q:Rat}(h0:0<j)(h1:j<M)(hq:RtQ (1 / fl j) n q)(hk:(k:Int)<=M):rch j n k=true↔((k:Int)<M/\fl (k:Int)<=q):=by
 have hM:=M_val;unfold rch;rw [decide_eq_true_eq];have hj:=fl_pos' h0
 rcases Nat.eq_zero_or_pos k with c | c
 ·subst c;refine⟨fun _=>⟨by omega,?_⟩,fun _=>.inl rfl⟩;rw [show ((0:Nat):Int)=0 from rfl,fl_zero]
  exact Rat.le_of_lt hq.1
 ·have hkp:=pow_pos' (fl_pos' (k:=(k:Int)) (by omega)) n;have e:=(hq.2 (k:Int) (by omega)).1;have g:=fun (hkM:(k:Int)<M)=>(rndI_down (1 / fl (k:Int) ^ n)).2.2 j (by omega) h1
  constructor
  ·rintro (h | ⟨h,h'⟩)
   ·omega
   ·exact⟨h,e.2 ((one_div_flip hj hkp).1.1 ((g h).1 h'))⟩
  ·rintro⟨h,h'⟩
   exact .inr ⟨h,(g h).2 ((one_div_flip hj hkp).1.2 (e.1 h'))⟩
def pwI(d:Int)(n k:Nat):Int:=if k=0 then M else rndI d (1 / fl (k:Int) ^ n)
theorem pwI_rng{d:Int}(hd:d=-1\/d=1)(n k:Nat):-(M:Int)<=pwI d n k/\pwI d n k<=M:=by
 have hM:=M_val;unfold pwI
 split
 ·omega
 ·have a:=rndI_down (1 / fl (k:Int) ^ n);have b:=rndI_up (1 / fl (k:Int) ^ n)
  rcases hd with rfl | rfl<;>omega
theorem pwI_call{d:Int}(hd:d=-1\/d=1){n k:Nat}(hn:1<=n)(hn2:n<=1024)(hk:k<9218868437227405312)(W:World)(hT:Tab W):
  Rt 248 #[.int .i64 d,.float .f64 k,.int .i64 (-(n:Int))] (.float .f64 (pat (pwI d n k))) W:=by
 have hM:=M_val
 rcases Nat.eq_zero_or_pos k with c | c
 ·subst c;unfold pwI;rw [if_pos rfl,pat_max]
  exact rpow_nought d n W hn hn2
 ·unfold pwI;rw [if_neg (by omega)];have h:=rpow_neg d (k:Int) n W hd (by omega) (by omega) hn hn2 hT;rw [show pat (k:Int)=k from pat_nn (by omega)] at h
  exact h
theorem inverse_any(j:Int)(n:Nat)(q:Rat)(w:World)(h0:0<j)(h1:j<M)(hn:1<=n)(hn2:n<=1024)(hq:RtQ (1 / fl j) n q)(hT:Tab w):
  Rt 220 #[.float .f64 (pat j),.int .i64 (n:Int)] (Zf (pat (rndI (-1) q)) (pat (rndI 1 q))) w:=by
 have hM:=M_val;have hI:=fun W=>isinf1 (pat j) W (by rw [rung_pat (by omega) (by omega)];omega);rw [idx_pat (by omega) (by omega),decide_eq_false (by omega)] at hI
 by_cases c1:n=1
 ·subst c1
  have same:=fun {d:Int} (hd:d=-1\/d=1)=>by
   have hX:RtQ (1 / fl j) 1 (1 / fl j):=by
    have hp:0<1 / fl j:=by
     have e1:1 / fl j*fl j=1:=Rat.div_mul_cancel (by have:=fl_pos' h0;grind);have:=fl_pos' h0
     by_cases z:0<1 / fl j
     ·exact z
     ·exfalso
      have:0<=-(1 / fl j)*fl j:=Rat.mul_nonneg (by grind) (by grind)
      grind
    rcases Rtp.one (1 / fl j) with ⟨a,-⟩ | ⟨-,h⟩ | ⟨a,-⟩
    ·grind
    ·exact h
    ·grind
   exact rnd_same (fun i=>hq.le hX i) (d:=d) hd
  rw [same (.inl rfl),same (.inr rfl)]
  exact inverse_one (pat j) _ _ w hI (fun W=>rdiv_pat (-1) j W (.inl rfl) h0 h1) (fun W=>rdiv_pat 1 j W (.inr rfl) h0 h1)
 ·obtain⟨T1,hT1,hD⟩:=rdiv_near h0 h1;obtain⟨T2,hT2,hR⟩:=rroot_near hT1 n hn hn2;have ord:=fun (d:Int) (hd:d=-1\/d=1) (k:Nat)=>order_pat (i:=pwI d n k) (j:=j) (pwI_rng hd n k).1 (pwI_rng hd n k).2 (by omega) (by omega)
  have h:=inverse_search (pat j) n T1 T2 (rch j n) (fun k=>pat (pwI (-1) n k)) (fun k=>pat (pwI 1 n k)) (fun k=>compare (pwI (-1) n k) j) (fun k=>compare (pwI 1 n k) j) w (by simp;omega) hn2 hI inf_pos
   (fun k W hk=>fplace_any k W (by omega)) (fun k W hk=>fat_any k W (by omega)) (fun b W=>at_any b W) hD hR (by omega)
   (fun k W hk a b t l=>by
     have hk':(k:Int)<=M:=by omega
     have hc:CapR W W (w.heap.size+1) w.heap.size n j:=⟨a,b,t,⟨l,by omega⟩,Below.refl _ _⟩
     have hi:=fun W'=>(isinf1 k W' (by have:=rung_pat (i:=(k:Int)) (by omega) hk';rw [show pat (k:Int)=k from pat_nn (by omega)] at this;omega)).mono (R':=fun e w'=>e=.returned (.bool (decide (idx k=M)))/\Below W'.heap.size W' w') (by rintro e w' ⟨h,rfl⟩;exact⟨h,Below.refl _ _⟩)
     have ek:idx k=(k:Int):=by have:=idx_pat (i:=(k:Int)) (by omega) hk';rwa [show pat (k:Int)=k from pat_nn (by omega)] at this
     rw [ek] at hi;refine reaches_walk n k _ _ (pat (pwI (-1) n k)) j _ _ _ W (by omega) hn2 (fun W'=>fat_any k W' (by omega)) hi (fun k0 ki W' t'=>pwI_call (.inl rfl) hn hn2 (by have:=of_decide_eq_false ki;omega) W' t') (ord (-1) (.inl rfl) k) ?_ hc;unfold rch;refine decide_eq_decide.2 ?_
     constructor
     ·rintro (h | ⟨h,h'⟩)
      ·exact .inl h
      ·by_cases k0:k=0
       ·exact .inl k0
       ·refine .inr ⟨decide_eq_false (by omega),?_⟩;unfold pwI;rw [if_neg k0];intro hlt;have:=Int.compare_eq_lt.1 hlt
        omega
     ·rintro (h | ⟨h,h'⟩)
      ·exact .inl h
      ·by_cases k0:k=0
       ·exact .inl k0
       ·have:=of_decide_eq_false h;refine .inr ⟨by omega,?_⟩;unfold pwI at h';rw [if_neg k0] at h'
        rcases Int.lt_or_le (rndI (-1) (1 / fl (k:Int) ^ n)) j with c | c
        ·exact absurd (Int.compare_eq_lt.2 c) h'
        ·exact c)
   (by unfold rch;simp) (by unfold rch;exact decide_eq_false (by omega))
   (fun k W hk t=>pwI_call (.inl rfl) hn hn2 hk W t) (fun k W hk t=>pwI_call (.inr rfl) hn hn2 hk W t) (fun k _=>ord (-1) (.inl rfl) k) (fun k _=>ord 1 (.inr rfl) k) hT
  refine h.mono ?_;rintro e w' ⟨k,hk,f1,f2,rfl,hb⟩;have g1:=(rch_iff h0 h1 hq (by omega)).1 f1
  have g2:¬ (((k+1:Nat):Int)<M/\fl ((k+1:Nat):Int)<=q):=fun h=>by
   have:=(rch_iff h0 h1 hq (by omega)).2 h;rw [f2] at this;exact absurd this (by decide)
  have dn:=rndI_down q;have up:=rndI_up q
  have e1:rndI (-1) q=(k:Int):=by
   have a:=(dn.2.2 (k:Int) (by omega) g1.1).2 g1.2
   by_cases c:((k+1:Nat):Int)<M
   ·have b:=mt (dn.2.2 ((k+1:Nat):Int) (by omega) c).1 (fun h=>g2 ⟨c,h⟩)
    omega
   ·omega
  have e2:(k:Int)<=rndI 1 q/\rndI 1 q<=(k:Int)+1:=by
   have:=rndI_le q;refine⟨by omega,?_⟩
   by_cases c:((k+1:Nat):Int)<M
   ·have b:=(up.2.2 ((k+1:Nat):Int) (by omega) c).2 (by have:¬ fl ((k+1:Nat):Int)<=q:=fun h=>g2 ⟨c,h⟩;grind)
    omega
   ·omega
  have e3:rndI 1 q=(k:Int)↔(compare (pwI (-1) n k) j=.eq/\compare (pwI 1 n k) j=.eq):=by
   rw [Int.compare_eq_eq,Int.compare_eq_eq];have hj:=fl_pos' h0
   rcases Nat.eq_zero_or_pos k with c | c
   ·subst c
    have:pwI (-1) n 0=M:=by unfold pwI;rw [if_pos rfl]
    constructor
    ·intro h
     exfalso
     have:=(up.2.2 0 (by omega) (by omega)).1 (by omega);rw [fl_zero] at this;have:=hq.1
     grind
    ·rintro⟨h,-⟩;omega
   ·have hkp:=pow_pos' (fl_pos' (k:=(k:Int)) (by omega)) n
    have ev:=(hq.2 (k:Int) (by omega))
    unfold pwI;rw [if_neg (by omega),if_neg (by omega)]
    have fk:=(ev.1.1 g1.2)
    have fl1:=(one_div_flip hj hkp)
    constructor
    ·intro h;have a:=(up.2.2 (k:Int) (by omega) g1.1).1 (by omega);have b:=ev.2.1 a;have v:1 / fl (k:Int) ^ n=fl j:=Rat.le_antisymm (fl1.2.2 b) (fl1.1.2 fk);rw [v,rndI_fl (.inl rfl) (by omega) h1,rndI_fl (.inr rfl) (by omega) h1]
     exact⟨rfl,rfl⟩
    ·rintro⟨-,h⟩;have a:=((rndI_up (1 / fl (k:Int) ^ n)).2.2 j (by omega) h1).1 (by omega);have b:=ev.2.2 (fl1.2.1 a);have:=(up.2.2 (k:Int) (by omega) g1.1).2 b
     omega
  refine⟨?_,hb⟩;rw [e1,show pat (k:Int)=k from pat_nn (by omega)]
  by_cases c:compare (pwI (-1) n k) j=.eq/\compare (pwI 1 n k) j=.eq
  ·rw [e3.2 c,show pat (k:Int)=k from pat_nn (by omega)]
   try dsimp only
   rw [if_pos c]
  ·have:rndI 1 q=((k+1:Nat):Int):=by
    have:=mt e3.1 c;omega
   rw [this,show pat ((k+1:Nat):Int)=k+1 from pat_nn (by omega)]
   try dsimp only
   rw [if_neg c]
theorem rtq_exists{x:Rat}(hx:0<x){n:Nat}(hn:0<n):∃ q,RtQ x n q:=by
 obtain⟨D,hxd⟩:∃ D:Nat,(1:Rat)<=x*(D:Rat):=by
  have h1:=Rat.lt_floor_add_one (1 / x);have e1:1 / x*x=1:=Rat.div_mul_cancel (by grind)
  have h0:0<=(1 / x).floor:=Rat.le_floor_iff.2 (by
   show (0:Rat)<=1 / x
   rcases Classical.em (0<=1 / x) with z | z
   ·exact z
   ·exfalso
    have:0<=-(1 / x)*x:=Rat.mul_nonneg (by grind) (by grind)
    grind)
  refine⟨((1 / x).floor+1).toNat,?_⟩
  have e2:((((1 / x).floor+1).toNat:Nat):Rat)=(((1 / x).floor+1:Int):Rat):=by
   rw [<- Rat.intCast_natCast];congr 1;omega
  rw [e2];have:=Rat.mul_le_mul_of_nonneg_right (Rat.le_of_lt h1) (Rat.le_of_lt hx);rw [e1,Rat.mul_comm] at this
  exact this
 obtain⟨k,hk⟩:∃ k:Nat,57+D=k:=⟨_,rfl⟩
 obtain⟨s,hs⟩:∃ s:Rat,x*2 ^ ((n:Int)*(k:Int))=s:=⟨_,rfl⟩
 have hxs:x=s*2 ^ ((n:Int)*(-(k:Int))):=by
  rw [<- hs,Rat.mul_assoc,<- zpow_add,show (n:Int)*(k:Int)+(n:Int)*-(k:Int)=0 by rw [Int.mul_neg];omega];rw [show (2:Rat) ^ (0:Int)=1 from rfl,Rat.mul_one]
 have big:((2 ^ (57*n):Nat):Rat)<=s:=by
  have h1:D*2 ^ (57*n)<=2 ^ (n*k):=by
   have a:D<=2 ^ (n*D):=Nat.le_trans (Nat.le_of_lt Nat.lt_two_pow_self) (Nat.pow_le_pow_right (by omega) (Nat.le_mul_of_pos_left _ hn))
   calc D*2 ^ (57*n)<=2 ^ (n*D)*2 ^ (57*n):=Nat.mul_le_mul_right _ a
    _=2 ^ (n*k):=by rw [<- Nat.pow_add,<- hk,Nat.mul_add];congr 1;rw [Nat.mul_comm 57 n];omega
  have e:s=x*((2 ^ (n*k):Nat):Rat):=by
   rw [<- hs,show (n:Int)*(k:Int)=((n*k:Nat):Int) by push_cast;rfl,zpow_nat]
  have h2:((D*2 ^ (57*n):Nat):Rat)<=((2 ^ (n*k):Nat):Rat):=Rat.natCast_le_natCast.2 h1;rw [e];have h3:x*((D*2 ^ (57*n):Nat):Rat)<=x*((2 ^ (n*k):Nat):Rat):=Rat.mul_le_mul_of_nonneg_left h2 (Rat.le_of_lt hx);refine Rat.le_trans ?_ h3;rw [Rat.natCast_mul,<- Rat.mul_assoc];have h4:(0:Rat)<=((2 ^ (57*n):Nat):Rat):=Rat.natCast_nonneg;have:=Rat.mul_le_mul_of_nonneg_right hxd h4
  rwa [Rat.one_mul] at this
 have hs0:0<=s.floor:=by
  apply Rat.le_floor_iff.2
  exact Rat.le_trans (by show (0:Rat)<=_;exact Rat.natCast_nonneg) big
 obtain⟨a,ha⟩:∃ a:Nat,s.floor=(a:Int):=⟨s.floor.toNat,by omega⟩
 have hfl:((a:Nat):Rat)<=s/\s<((a:Nat):Rat)+1:=by
  have h1:=Rat.floor_le s;have h2:=Rat.lt_floor_add_one s;rw [ha] at h1 h2;refine⟨h1,?_⟩
  have c:(((a:Int)+1:Int):Rat)=(a:Rat)+1:=by push_cast;rfl
  rw [c] at h2
  exact h2
 have h57:2 ^ (57*n)<=a:=by
  have:((2 ^ (57*n):Nat):Int)<=s.floor:=Rat.le_floor_iff.2 big
  omega
 obtain⟨r,hr⟩:=exists_root n hn a
 have hR:144115188075855872<=r:=by
  rcases Nat.lt_or_ge r 144115188075855872 with q | q
  ·exfalso
   have h2:=Nat.pow_le_pow_left (show r+1<=2 ^ 57 by omega) n;rw [<- Nat.pow_mul] at h2;have:=hr.2
   omega
  ·exact q
 have e1:((r ^ n:Nat):Rat)<=s:=Rat.le_trans (Rat.natCast_le_natCast.2 hr.1) hfl.1
 have e2:s<(((r+1) ^ n:Nat):Rat):=by
  have h:a+1<=(r+1) ^ n:=hr.2;have:=Rat.natCast_le_natCast.2 h
  have c:((a+1:Nat):Rat)=(a:Rat)+1:=by push_cast;rfl
  grind
 exact⟨_,rqb_ok (b:=decide (((r ^ n:Nat):Rat)=s)) hn e1 e2 (by simp) hR hxs⟩
section
attribute [local go_sem] run_store_float
theorem apart_none(n c1 c2 x y:Nat)(w:World)(ho:FloatKind.f64.format.order c2 0=some .lt\/FloatKind.f64.format.order c2 0=some .eq)(hE:∀ W,Rt 76 #[] (Zf 9218868437227405312 18442240474082181120) W):
  Rt 172 #[.int .i64 (n:Int),Zf c1 c2,Zf x y] (Zf 9218868437227405312 18442240474082181120) w:=by
 have HE:=Hd hE;clear hE
 rcases ho with ho | ho
 ·skip;have LL:=li3 w (Zv c1 c2) 28 (Zv x y) 28 (Zv 0 0) 28
  go_enter func172,ntmps172
  obtain⟨q1_0,q1_1⟩:=(LL.out.blk 0 rfl).c2;go_wp2_with fail;refine cx (HE.out _) fun wk hb=>?_;replace LL:=stL LL hb;clear hb q1_0 q1_1 ho;replace LL:=Hd (LL.out.loose2 rfl);obtain⟨ha6_0,hf6_0,ha6_1,hf6_1⟩:=(LL.out.has 0 rfl).sf2;have LF:=Hd (LL.out.wr [.float .f64 9218868437227405312,.float .f64 18442240474082181120]);obtain⟨hk6_0,hk6_1⟩:=(LF.out.blk 2 rfl).c2
  simp [sets] at hk6_0 hk6_1
  clear LL;go_wp2;refine bodyPost_ret (v:=Zf 9218868437227405312 18442240474082181120) (by simp [results,results172,go_sem,hk6_0,hk6_1]) rfl ?_
  exact⟨rfl,LF.out.b⟩
 ·skip;have LL:=li3 w (Zv c1 c2) 28 (Zv x y) 28 (Zv 0 0) 28
  go_enter func172,ntmps172
  obtain⟨q1_0,q1_1⟩:=(LL.out.blk 0 rfl).c2;go_wp2_with fail;refine cx (HE.out _) fun wk hb=>?_;replace LL:=stL LL hb;clear hb q1_0 q1_1 ho;replace LL:=Hd (LL.out.loose2 rfl);obtain⟨ha6_0,hf6_0,ha6_1,hf6_1⟩:=(LL.out.has 0 rfl).sf2;have LF:=Hd (LL.out.wr [.float .f64 9218868437227405312,.float .f64 18442240474082181120]);obtain⟨hk6_0,hk6_1⟩:=(LF.out.blk 2 rfl).c2
  simp [sets] at hk6_0 hk6_1
  clear LL;go_wp2;refine bodyPost_ret (v:=Zf 9218868437227405312 18442240474082181120) (by simp [results,results172,go_sem,hk6_0,hk6_1]) rfl ?_
  exact⟨rfl,LF.out.b⟩
theorem apart_low(n c1 c2 x y p1 p2 r1 r2:Nat)(w:World)(ho:FloatKind.f64.format.order c2 0=some .gt)(hl:(FloatKind.f64.format.order c1 0 == some Ordering.gt)=false)(hI:∀ W,Calls prog 19 #[.int .i64 1] W fun e w'=>e=.returned (.float .f64 9218868437227405312)/\W=w')(hA:∀ W,Rt 88 #[.float .f64 9218868437227405312] (Zf 9218868437227405312 9218868437227405312) W)(hV:∀ W,Tab W->Rt 220 #[.float .f64 c2,.int .i64 (n:Int)] (Zf p1 p2) W)(hC:∀ W,Rt 77 #[Zf x y,Zf p1 p2,Zf 9218868437227405312 9218868437227405312,.bool true] (Zf r1 r2) W)(hT:Tab w):
  Rt 172 #[.int .i64 (n:Int),Zf c1 c2,Zf x y] (Zf r1 r2) w:=by
 have HI:=Hd hI;have HA:=Hd hA;have HV:=Hd hV;have HC:=Hd hC;clear hI hA hV hC;have LL:=li3 w (Zv c1 c2) 28 (Zv x y) 28 (Zv 0 0) 28;have HT:=Hd (hT.below LL.out.b);clear hT
 go_enter func172,ntmps172
 obtain⟨q1_0,q1_1⟩:=(LL.out.blk 0 rfl).c2;go_wp2_with fail;refine (HI.out _).mono ?_;rintro e w9 ⟨rfl,rfl⟩;go_wp2_with fail;refine cx (HA.out _) fun wk hb=>?_;replace LL:=stL LL hb;replace HT:=Hd (HT.out.below hb);clear hb q1_0 q1_1 ho HI HA
 go_upto_region 4 with fail
 have hl_j7:=LL.out.lts;generalize hwn:World.alloc wk _=wn;replace HT:=Hd (HT.out.below (below_allocE hwn));replace LL:=Hd (LL.out.newE hwn)
 simp only [List.cons_append,List.nil_append] at LL
 simp only [List.mem_cons,List.not_mem_nil,or_false,forall_eq_or_imp,forall_eq,false_imp_iff,implies_true,and_true] at hl_j7
 clear hwn;generalize wk.heap.size=j7 at LL hl_j7 ⊢;obtain⟨q2_0,q2_1⟩:=(LL.out.blk 0 rfl).c2;go_wp2_with fail;clear q2_0 q2_1 hl;replace LL:=Hd (LL.out.loose2 rfl);refine regL LL (fun hHeld=>?_);clear LL;replace HT:=Hd (HT.out.below (Below.refl _ _).drew);generalize World.drew _=wk at hHeld HT ⊢;refine tkb 0 (fun _ h=>(h.blk 1 rfl).c2) ?_;refine tks 1 ?_;refine tkb 2 (fun _ h=>(h.blk 0 rfl).c2) ?_;refine tks 3 ?_;refine tkb 5 (fun _ h=>(h.blk 2 rfl).c2) ?_;refine rcs 4 (HV.out _ HT.out) ?_;clear hHeld;intro wk hb1 hHeld;(try replace HT:=Hd (HT.out.below hb1));clear hb1;refine rcs 6 (HC.out _) ?_;clear hHeld;intro wk hb2 hHeld;(try replace HT:=Hd (HT.out.below hb2));clear hb2;refine rdy 7 fun KK hKK=>?_;obtain⟨ha0,hf0,ha1,hf1⟩:=(hHeld.has 0 rfl).sf2;obtain⟨csx,hbx,-,hcx⟩:=hHeld.has 0 rfl;(try clear HT);clear hbx hcx;go_simp;have HS_0:=(hHeld.has 0 rfl).laid [.float .f64 r1,.float .f64 r2] rfl;refine hKK.out _ _ (hHeld.over 0 rfl [.float .f64 r1,.float .f64 r2] rfl rfl (by first | omega | exact hHeld.le_of 0 rfl) (by simp<;>omega) (by simp<;>omega)) (fun _=>?_);clear hKK KK hHeld;rename_i hHeld;(try simp only [Act.put,lay]);refine wpAnyH_done (by kernel_rfl) ?_ _;have LB:=Hd hHeld.b;clear hHeld;obtain⟨hk6_0,hk6_1⟩:=HS_0.c2;clear HS_0
 simp [sets] at hk6_0 hk6_1
 go_wp2;refine bodyPost_ret (v:=Zf r1 r2) (by simp [results,results172,go_sem,hk6_0,hk6_1]) rfl ?_
 exact⟨rfl,LB.out⟩
theorem apart_high(n c1 c2 x y p1 p2 q1 q2 r1 r2:Nat)(w:World)(ho:FloatKind.f64.format.order c2 0=some .gt)(hl:FloatKind.f64.format.order c1 0=some .gt)(hI:∀ W,Calls prog 19 #[.int .i64 1] W fun e w'=>e=.returned (.float .f64 9218868437227405312)/\W=w')(hA:∀ W,Rt 88 #[.float .f64 9218868437227405312] (Zf 9218868437227405312 9218868437227405312) W)(hV:∀ W,Tab W->Rt 220 #[.float .f64 c2,.int .i64 (n:Int)] (Zf p1 p2) W)(hU:∀ W,Tab W->Rt 220 #[.float .f64 c1,.int .i64 (n:Int)] (Zf q1 q2) W)(hC:∀ W,Rt 77 #[Zf x y,Zf p1 p2,Zf q1 q2,.bool true] (Zf r1 r2) W)(hT:Tab w):
  Rt 172 #[.int .i64 (n:Int),Zf c1 c2,Zf x y] (Zf r1 r2) w:=by
 have HI:=Hd hI;have HA:=Hd hA;have HV:=Hd hV;have HC:=Hd hC;have HU:=Hd hU;clear hI hA hV hC hU;have LL:=li3 w (Zv c1 c2) 28 (Zv x y) 28 (Zv 0 0) 28;have hT0:=hT;have HT:=Hd (hT.below LL.out.b);clear hT
 go_enter func172,ntmps172
 obtain⟨q1_0,q1_1⟩:=(LL.out.blk 0 rfl).c2;go_wp2_with fail;refine (HI.out _).mono ?_;rintro e w9 ⟨rfl,rfl⟩;go_wp2_with fail;refine cx (HA.out _) fun wk hb=>?_;replace LL:=stL LL hb;replace HT:=Hd (HT.out.below hb);clear hb q1_0 q1_1 ho HI HA
 go_upto_region 4 with fail
 have hl_j7:=LL.out.lts;generalize hwn:World.alloc wk _=wn;replace HT:=Hd (HT.out.below (below_allocE hwn));replace LL:=Hd (LL.out.newE hwn)
 simp only [List.cons_append,List.nil_append] at LL
 simp only [List.mem_cons,List.not_mem_nil,or_false,forall_eq_or_imp,forall_eq,false_imp_iff,implies_true,and_true] at hl_j7
 clear hwn;generalize wk.heap.size=j7 at LL hl_j7 ⊢;obtain⟨q2_0,q2_1⟩:=(LL.out.blk 0 rfl).c2;go_wp2_with fail;refine cx (HU.out _ HT.out) fun wk hb=>?_;replace LL:=stL LL hb;replace HT:=Hd (HT.out.below hb);clear hb q2_0 q2_1 hl HU;obtain⟨q3_0,q3_1⟩:=(LL.out.blk 3 rfl).c2;have fz0:=(LL.out.blk 3 rfl).frozen 0;have fz1:=(LL.out.blk 3 rfl).frozen 1;go_wp2_with fail;clear q3_0 q3_1 fz0 fz1;skip;replace LL:=Hd (LL.out.part 3 rfl 0 [.float .f64 q1,.float .f64 q2] (by omega) (by simp<;>omega) (by simp<;>omega))
 simp only [List.eraseIdx,laid,List.cons_append,List.nil_append,List.setIfInBounds_toArray,List.set_cons_zero,List.set_cons_succ,Nat.zero_add,Nat.reduceAdd] at LL
 obtain⟨wn,hwn⟩:∃ X,(sets wk j7 0 [.float .f64 q1,.float .f64 q2])=X:=⟨_,rfl⟩
 rw [hwn] at LL
 simp only [sets,Nat.reduceAdd] at hwn
 rw [hwn];clear hwn;have HT:=Hd (hT0.below LL.out.b);replace LL:=Hd (LL.out.loose2 rfl);refine regL LL (fun hHeld=>?_);clear LL;replace HT:=Hd (HT.out.below (Below.refl _ _).drew);generalize World.drew _=wk at hHeld HT ⊢;refine tkb 0 (fun _ h=>(h.blk 1 rfl).c2) ?_;refine tks 1 ?_;refine tkb 2 (fun _ h=>(h.blk 0 rfl).c2) ?_;refine tks 3 ?_;refine tkb 5 (fun _ h=>(h.blk 2 rfl).c2) ?_;refine rcs 4 (HV.out _ HT.out) ?_;clear hHeld;intro wk hb1 hHeld;(try replace HT:=Hd (HT.out.below hb1));clear hb1;refine rcs 6 (HC.out _) ?_;clear hHeld;intro wk hb2 hHeld;(try replace HT:=Hd (HT.out.below hb2));clear hb2;refine rdy 7 fun KK hKK=>?_;obtain⟨ha0,hf0,ha1,hf1⟩:=(hHeld.has 0 rfl).sf2;obtain⟨csx,hbx,-,hcx⟩:=hHeld.has 0 rfl;(try clear HT);clear hbx hcx;go_simp;have HS_0:=(hHeld.has 0 rfl).laid [.float .f64 r1,.float .f64 r2] rfl;refine hKK.out _ _ (hHeld.over 0 rfl [.float .f64 r1,.float .f64 r2] rfl rfl (by first | omega | exact hHeld.le_of 0 rfl) (by simp<;>omega) (by simp<;>omega)) (fun _=>?_);clear hKK KK hHeld;rename_i hHeld;(try simp only [Act.put,lay]);refine wpAnyH_done (by kernel_rfl) ?_ _;have LB:=Hd hHeld.b;clear hHeld;obtain⟨hk6_0,hk6_1⟩:=HS_0.c2;clear HS_0
 simp [sets] at hk6_0 hk6_1
 go_wp2;refine bodyPost_ret (v:=Zf r1 r2) (by simp [results,results172,go_sem,hk6_0,hk6_1]) rfl ?_
 exact⟨rfl,LB.out⟩
end
noncomputable def rtx(j:Int)(n:Nat):Rat:=Classical.epsilon fun q=>RtQ (1 / fl j) n q
theorem recip_pos{j:Int}(h0:0<j):0<1 / fl j:=by
 have e1:1 / fl j*fl j=1:=Rat.div_mul_cancel (by have:=fl_pos' h0;grind);have:=fl_pos' h0
 by_cases z:0<1 / fl j
 ·exact z
 ·exfalso
  have:0<=-(1 / fl j)*fl j:=Rat.mul_nonneg (by grind) (by grind)
  grind
theorem rtx_ok{j:Int}(h0:0<j){n:Nat}(hn:1<=n):RtQ (1 / fl j) n (rtx j n):=by
 exact Classical.epsilon_spec (rtq_exists (recip_pos h0) (n:=n) (by omega))
noncomputable def ivd(d:Int)(j:Int)(n:Nat):Int:=if j=M then 0 else rndI d (rtx j n)
theorem ivd_rng{d:Int}(hd:d=-1\/d=1){j:Int}(h0:0<j)(h1:j<=M){n:Nat}(hn:1<=n):0<=ivd d j n/\ivd d j n<=M:=by
 have hM:=M_val;unfold ivd
 split
 ·omega
 ·have q:=(rtx_ok h0 hn).1;have r1:=rndI_down (rtx j n);have r2:=rndI_up (rtx j n);have r3:=rndI_mono hd (x:=0) (y:=rtx j n) (by grind);rw [rndI_zero hd] at r3
  rcases hd with rfl | rfl<;>omega
theorem inverse_full(j:Int)(n:Nat)(w:World)(h0:0<j)(h1:j<=M)(hn:1<=n)(hn2:n<=1024)(hT:Tab w):
  Rt 220 #[.float .f64 (pat j),.int .i64 (n:Int)] (Zf (pat (ivd (-1) j n)) (pat (ivd 1 j n))) w:=by
 have hM:=M_val;unfold ivd
 by_cases c:j=M
 ·rw [if_pos c,if_pos c,pat_zero];have hI:=fun W=>isinf1 (pat j) W (by rw [rung_pat (by omega) (by omega)];omega);rw [idx_pat (by omega) (by omega),decide_eq_true (by omega)] at hI
  exact inverse_inf (pat j) n w hI (fun W=>at_any 0 W)
 ·rw [if_neg c,if_neg c]
  exact inverse_any j n _ w h0 (by omega) hn hn2 (rtx_ok h0 hn) hT
noncomputable def apt(n:Nat)(i2 j2 i j:Int):Int × Int:=
 if j2<=0 then ((M:Int),-(M:Int)) else ctO true i j (ivd (-1) j2 n) (ivd 1 j2 n) (if 0<i2 then ivd (-1) i2 n else M) (if 0<i2 then ivd 1 i2 n else M)
theorem apart_any(n:Nat)(i2 j2 i j:Int)(w:World)(hn:1<=n)(hn2:n<=1024)(hc:-(M:Int)<=i2/\i2<=M/\-(M:Int)<=j2/\j2<=M)(hx:-(M:Int)<=i/\i<=M/\-(M:Int)<=j/\j<=M)(hT:Tab w):
  Rt 172 #[.int .i64 (n:Int),Zf (pat i2) (pat j2),Zf (pat i) (pat j)] (Zf (pat (apt n i2 j2 i j).1) (pat (apt n i2 j2 i j).2)) w:=by
 have hM:=M_val;have o2:=ord0 (i:=j2) (by omega);have o1:=ord0 (i:=i2) (by omega);unfold apt
 by_cases c:j2<=0
 ·rw [if_pos c,pat_max,pat_min];refine apart_none n _ _ _ _ w ?_ emptyf;rw [o2]
  rcases Int.lt_or_eq_of_le c with h | h
  ·left;rw [Int.compare_eq_lt.2 h]
  ·right;rw [Int.compare_eq_eq.2 h]
 ·rw [if_neg c];rw [Int.compare_eq_gt.2 (by omega)] at o2;have a1:=ivd_rng (d:=-1) (.inl rfl) (j:=j2) (by omega) (by omega) hn;have a2:=ivd_rng (d:=1) (.inr rfl) (j:=j2) (by omega) (by omega) hn;have hV:=fun W (t:Tab W)=>inverse_full j2 n W (by omega) (by omega) hn hn2 t
  by_cases k:0<i2
  ·rw [if_pos k,if_pos k];rw [Int.compare_eq_gt.2 k] at o1;have b1:=ivd_rng (d:=-1) (.inl rfl) (j:=i2) k (by omega) hn;have b2:=ivd_rng (d:=1) (.inr rfl) (j:=i2) k (by omega) hn
   exact apart_high n _ _ _ _ _ _ _ _ _ _ w o2 o1 inf_pos (fun W=>at_any _ W) hV (fun W t=>inverse_full i2 n W k (by omega) hn hn2 t) (fun W=>rcut2_any true i j _ _ _ _ W (by omega) (by omega) (by omega) (by omega) (by omega) (by omega)) hT
  ·rw [if_neg k,if_neg k];have hC:=fun W=>rcut2_any true i j (ivd (-1) j2 n) (ivd 1 j2 n) M M W (by omega) (by omega) (by omega) (by omega) (by omega) (by omega);rw [pat_max] at hC;refine apart_low n _ _ _ _ _ _ _ _ w o2 ?_ inf_pos (fun W=>at_any _ W) hV hC hT;rw [o1]
   rcases Int.lt_or_eq_of_le (show i2<=0 by omega) with h | h
   ·rw [Int.compare_eq_lt.2 h];rfl
   ·rw [Int.compare_eq_eq.2 h];rfl
section
attribute [local go_sem] run_store_float
theorem below_even(n c1 c2 x y u1 u2 v1 v2 x3 y3 v3 v4 r1 r2:Nat)(w:World)(hn:n % 2=0)(hA1:∀ W,Tab W->Rt 172 #[.int .i64 (n:Int),Zf c1 c2,Zf x y] (Zf u1 u2) W)(hMx:∀ W,Rt 85 #[Zf x y] (Zf x3 y3) W)(hA2:∀ W,Tab W->Rt 172 #[.int .i64 (n:Int),Zf c1 c2,Zf x3 y3] (Zf v1 v2) W)(hM3:∀ W,Rt 85 #[Zf v1 v2] (Zf v3 v4) W)(hH:∀ W,Rt 63 #[Zf u1 u2,Zf v3 v4] (Zf r1 r2) W)(hT:Tab w):
  Rt 103 #[.int .i64 (n:Int),Zf c1 c2,Zf x y] (Zf r1 r2) w:=by
 have e1:(n:Int) % 2=0:=by omega
 have e2:(n:Int).tmod 2=0:=by rw [Int.tmod_eq_emod_of_nonneg (by omega)];omega
 have HA1:=Hd hA1;have HMX:=Hd hMx;have HA2:=Hd hA2;have HM3:=Hd hM3;have HH:=Hd hH;clear hA1 hMx hA2 hM3 hH;have LL:=li3 w (Zv c1 c2) 28 (Zv x y) 28 (Zv 0 0) 28;have HT:=Hd (hT.below LL.out.b);clear hT hn
 go_enter func103,ntmps103
 obtain⟨q1_0,q1_1⟩:=(LL.out.blk 0 rfl).c2;obtain⟨q2_0,q2_1⟩:=(LL.out.blk 1 rfl).c2;go_wp2_with fail;refine cx (HA1.out _ HT.out) fun wk hb=>?_;replace LL:=stL LL hb;replace HT:=Hd (HT.out.below hb);clear hb q1_0 q1_1 q2_0 q2_1 HA1
 go_upto_region 2 with fail
 have hl_j7:=LL.out.lts;generalize hwn:World.alloc wk _=wn;replace HT:=Hd (HT.out.below (below_allocE hwn));replace LL:=Hd (LL.out.newE hwn)
 simp only [List.cons_append,List.nil_append] at LL
 simp only [List.mem_cons,List.not_mem_nil,or_false,forall_eq_or_imp,forall_eq,false_imp_iff,implies_true,and_true] at hl_j7
 clear hwn;generalize wk.heap.size=j7 at LL hl_j7 ⊢;go_wp2_with fail;replace LL:=Hd (LL.out.loose2 rfl);refine regL LL (fun hHeld=>?_);clear LL;replace HT:=Hd (HT.out.below (Below.refl _ _).drew);generalize World.drew _=wk at hHeld HT ⊢;refine tkb 0 (fun _ h=>(h.blk 2 rfl).c2) ?_;refine tks 1 ?_;refine tkb 2 (fun _ h=>(h.blk 0 rfl).c2) ?_;refine tkb 3 (fun _ h=>(h.blk 1 rfl).c2) ?_;refine rcs 4 (HMX.out _) ?_;clear hHeld;intro wk hb2 hHeld;(try replace HT:=Hd (HT.out.below hb2));clear hb2;refine rcs 5 (HA2.out _ HT.out) ?_;clear hHeld;intro wk hb3 hHeld;(try replace HT:=Hd (HT.out.below hb3));clear hb3;refine rcs 6 (HM3.out _) ?_;clear hHeld;intro wk hb4 hHeld;(try replace HT:=Hd (HT.out.below hb4));clear hb4;refine rcs 7 (HH.out _) ?_;clear hHeld;intro wk hb5 hHeld;(try replace HT:=Hd (HT.out.below hb5));clear hb5;refine rdy 8 fun KK hKK=>?_;obtain⟨ha0,hf0,ha1,hf1⟩:=(hHeld.has 0 rfl).sf2;obtain⟨csx,hbx,-,hcx⟩:=hHeld.has 0 rfl;(try clear HT);clear hbx hcx;go_simp;have HS_0:=(hHeld.has 0 rfl).laid [.float .f64 r1,.float .f64 r2] rfl;refine hKK.out _ _ (hHeld.over 0 rfl [.float .f64 r1,.float .f64 r2] rfl rfl (by first | omega | exact hHeld.le_of 0 rfl) (by simp<;>omega) (by simp<;>omega)) (fun _=>?_);clear hKK KK hHeld;rename_i hHeld;(try simp only [Act.put,lay]);refine wpAnyH_done (by kernel_rfl) ?_ _;have LB:=Hd hHeld.b;clear hHeld;obtain⟨hk6_0,hk6_1⟩:=HS_0.c2;clear HS_0
 simp [sets] at hk6_0 hk6_1
 go_wp2;refine bodyPost_ret (v:=Zf r1 r2) (by simp [results,results103,go_sem,hk6_0,hk6_1]) rfl ?_
 exact⟨rfl,LB.out⟩
theorem below_odd(n c1 c2 x y u1 u2 v1 v2 x3 y3 c3 c4 v3 v4 r1 r2:Nat)(w:World)(hn:n % 2=1)(hA1:∀ W,Tab W->Rt 172 #[.int .i64 (n:Int),Zf c1 c2,Zf x y] (Zf u1 u2) W)(hMx:∀ W,Rt 85 #[Zf x y] (Zf x3 y3) W)(hMc:∀ W,Rt 85 #[Zf c1 c2] (Zf c3 c4) W)(hA2:∀ W,Tab W->Rt 172 #[.int .i64 (n:Int),Zf c3 c4,Zf x3 y3] (Zf v1 v2) W)(hM3:∀ W,Rt 85 #[Zf v1 v2] (Zf v3 v4) W)(hH:∀ W,Rt 63 #[Zf u1 u2,Zf v3 v4] (Zf r1 r2) W)(hT:Tab w):
  Rt 103 #[.int .i64 (n:Int),Zf c1 c2,Zf x y] (Zf r1 r2) w:=by
 have e1:(n:Int) % 2=1:=by omega
 have e2:(n:Int).tmod 2=1:=by rw [Int.tmod_eq_emod_of_nonneg (by omega)];omega
 have HA1:=Hd hA1;have HMX:=Hd hMx;have HA2:=Hd hA2;have HM3:=Hd hM3;have HH:=Hd hH;have HMC:=Hd hMc;clear hA1 hMx hA2 hM3 hH hMc;have LL:=li3 w (Zv c1 c2) 28 (Zv x y) 28 (Zv 0 0) 28;have HT:=Hd (hT.below LL.out.b);clear hT hn
 go_enter func103,ntmps103
 obtain⟨q1_0,q1_1⟩:=(LL.out.blk 0 rfl).c2;obtain⟨q2_0,q2_1⟩:=(LL.out.blk 1 rfl).c2;go_wp2_with fail;refine cx (HA1.out _ HT.out) fun wk hb=>?_;replace LL:=stL LL hb;replace HT:=Hd (HT.out.below hb);clear hb q1_0 q1_1 q2_0 q2_1 HA1
 go_upto_region 2 with fail
 have hl_j7:=LL.out.lts;generalize hwn:World.alloc wk _=wn;replace HT:=Hd (HT.out.below (below_allocE hwn));replace LL:=Hd (LL.out.newE hwn)
 simp only [List.cons_append,List.nil_append] at LL
 simp only [List.mem_cons,List.not_mem_nil,or_false,forall_eq_or_imp,forall_eq,false_imp_iff,implies_true,and_true] at hl_j7
 clear hwn;generalize wk.heap.size=j7 at LL hl_j7 ⊢;go_wp2_with fail;replace LL:=Hd (LL.out.loose2 rfl);refine regL LL (fun hHeld=>?_);clear LL;replace HT:=Hd (HT.out.below (Below.refl _ _).drew);generalize World.drew _=wk at hHeld HT ⊢;refine tkb 0 (fun _ h=>(h.blk 2 rfl).c2) ?_;refine tks 1 ?_;refine tkb 2 (fun _ h=>(h.blk 0 rfl).c2) ?_;refine tkb 4 (fun _ h=>(h.blk 1 rfl).c2) ?_;refine rcs 3 (HMC.out _) ?_;clear hHeld;intro wk hb1 hHeld;(try replace HT:=Hd (HT.out.below hb1));clear hb1;refine rcs 5 (HMX.out _) ?_;clear hHeld;intro wk hb2 hHeld;(try replace HT:=Hd (HT.out.below hb2));clear hb2;refine rcs 6 (HA2.out _ HT.out) ?_;clear hHeld;intro wk hb3 hHeld;(try replace HT:=Hd (HT.out.below hb3));clear hb3;refine rcs 7 (HM3.out _) ?_;clear hHeld;intro wk hb4 hHeld;(try replace HT:=Hd (HT.out.below hb4));clear hb4;refine rcs 8 (HH.out _) ?_;clear hHeld;intro wk hb5 hHeld;(try replace HT:=Hd (HT.out.below hb5));clear hb5;refine rdy 9 fun KK hKK=>?_;obtain⟨ha0,hf0,ha1,hf1⟩:=(hHeld.has 0 rfl).sf2;obtain⟨csx,hbx,-,hcx⟩:=hHeld.has 0 rfl;(try clear HT);clear hbx hcx;go_simp;have HS_0:=(hHeld.has 0 rfl).laid [.float .f64 r1,.float .f64 r2] rfl;refine hKK.out _ _ (hHeld.over 0 rfl [.float .f64 r1,.float .f64 r2] rfl rfl (by first | omega | exact hHeld.le_of 0 rfl) (by simp<;>omega) (by simp<;>omega)) (fun _=>?_);clear hKK KK hHeld;rename_i hHeld;(try simp only [Act.put,lay]);refine wpAnyH_done (by kernel_rfl) ?_ _;have LB:=Hd hHeld.b;clear hHeld
 obtain⟨hk6_0,hk6_1⟩:=HS_0.c2;clear HS_0
 simp [sets] at hk6_0 hk6_1
 go_wp2;refine bodyPost_ret (v:=Zf r1 r2) (by simp [results,results103,go_sem,hk6_0,hk6_1]) rfl ?_
 exact⟨rfl,LB.out⟩
end
theorem ivd_lt{j:Int}(h0:0<j){n:Nat}:ivd (-1) j n<M:=by
 have hM:=M_val;unfold ivd
 split
 ·omega
 ·have:=rndI_down (rtx j n);omega
theorem ivd_pair(j:Int)(n:Nat):ivd (-1) j n<=ivd 1 j n:=by
 unfold ivd
 split
 ·omega
 ·exact rndI_le _
theorem ivd_anti{a b:Int}(h0:0<a)(hab:a<=b)(hb:b<=M){n:Nat}(hn:1<=n):ivd (-1) b n<=ivd (-1) a n/\ivd 1 b n<=ivd 1 a n:=by
 have hM:=M_val;have ra:=ivd_rng (d:=-1) (.inl rfl) h0 (by omega:a<=M) hn;have ra':=ivd_rng (d:=1) (.inr rfl) h0 (by omega:a<=M) hn
 by_cases c:b=M
 ·have e1:ivd (-1) b n=0:=by unfold ivd;rw [if_pos c]
  have e2:ivd 1 b n=0:=by unfold ivd;rw [if_pos c]
  omega
 ·have eb:∀ d,ivd d b n=rndI d (rtx b n):=fun d=>by unfold ivd;rw [if_neg c]
  have ea:∀ d,ivd d a n=rndI d (rtx a n):=fun d=>by unfold ivd;rw [if_neg (by omega)]
  rw [eb,eb,ea,ea];rw [ea] at ra ra';have qa:=rtx_ok h0 hn;have qb:=rtx_ok (j:=b) (by omega) hn;have pa:=recip_pos h0
  have hX:1 / fl b<=1 / fl a:=by
   have fa:=fl_pos' h0;have fb:=fl_pos' (k:=b) (by omega);have hle:fl a<=fl b:=fl_le_iff.2 hab
   have e:1 / (1 / fl a)=fl a:=by grind
   have:=(one_div_flip (a:=1 / fl a) (b:=fl b) pa fb).2
   exact this.2 (by rw [e];exact hle)
  have key:∀ i:Int,0<=i->fl i<=rtx b n->fl i<=rtx a n:=fun i hi h=>(qa.2 i hi).1.2 (Rat.le_trans ((qb.2 i hi).1.1 h) hX);have key2:∀ i:Int,0<=i->rtx a n<=fl i->rtx b n<=fl i:=fun i hi h=>(qb.2 i hi).2.2 (Rat.le_trans hX ((qa.2 i hi).2.1 h));have db:=rndI_down (rtx b n);have da:=rndI_down (rtx a n);have ub:=rndI_up (rtx b n);have ua:=rndI_up (rtx a n);have rb:=ivd_rng (d:=-1) (.inl rfl) (j:=b) (by omega) hb hn;rw [eb] at rb
  constructor
  ·exact (da.2.2 _ (by omega) (by omega)).2 (key _ rb.1 ((db.2.2 _ (by omega) (by omega)).1 (Int.le_refl _)))
  ·by_cases z:rndI 1 (rtx a n)=M
   ·omega
   ·exact (ub.2.2 _ (by omega) (by omega)).2 (key2 _ ra'.1 ((ua.2.2 _ (by omega) (by omega)).1 (Int.le_refl _)))
theorem apt_iv{n:Nat}{i2 j2 i j:Int}(hn:1<=n)(hc:i2<=j2/\j2<=M/\i2<M)(hx:-(M:Int)<=i/\i<=j/\j<=M/\i<M/\-(M:Int)<j):Iv (apt n i2 j2 i j).1 (apt n i2 j2 i j).2:=by
 have hM:=M_val;unfold apt
 by_cases c:j2<=0
 ·rw [if_pos c];exact Iv.none
 ·rw [if_neg c];have a1:=ivd_rng (d:=-1) (.inl rfl) (j:=j2) (by omega) hc.2.1 hn;have a2:=ivd_rng (d:=1) (.inr rfl) (j:=j2) (by omega) hc.2.1 hn;have a3:=ivd_lt (j:=j2) (by omega) (n:=n);have a4:=ivd_pair j2 n
  obtain⟨qd,hqd⟩:∃ q,(if 0<i2 then ivd (-1) i2 n else (M:Int))=q:=⟨_,rfl⟩
  obtain⟨qu,hqu⟩:∃ q,(if 0<i2 then ivd 1 i2 n else (M:Int))=q:=⟨_,rfl⟩
  have hq:0<=qd/\qd<=qu/\ivd (-1) j2 n<=qu:=by
   by_cases k:0<i2
   ·rw [if_pos k] at hqd hqu;have b1:=ivd_rng (d:=-1) (.inl rfl) (j:=i2) k (by omega) hn;have b4:=ivd_pair i2 n;have b5:=ivd_anti k hc.1 hc.2.1 hn
    omega
   ·rw [if_neg k] at hqd hqu
    omega
  rw [hqd,hqu];unfold ctO
  by_cases c1:qd<i\/j<ivd 1 j2 n
  ·rw [if_pos c1];exact Iv.none
  ·rw [if_neg c1]
   split
   ·exact Iv.none
   ·unfold Iv
    dsimp only
    omega
noncomputable def blw(n:Nat)(i2 j2 i j:Int):Int × Int:=
 (min (apt n i2 j2 i j).1 (-(if n % 2=0 then apt n i2 j2 (-j) (-i) else apt n (-j2) (-i2) (-j) (-i)).2),max (apt n i2 j2 i j).2 (-(if n % 2=0 then apt n i2 j2 (-j) (-i) else apt n (-j2) (-i2) (-j) (-i)).1))
theorem mirror_pat{i j:Int}(h:Iv i j)(w:World):Rt 85 #[Zf (pat i) (pat j)] (Zf (pat (-j)) (pat (-i))) w:=by
 have m:=mirrorf (pat i) (pat j) w (pat_lt h.lo.1 h.lo.2) (pat_lt h.hi.1 h.hi.2);rw [rd_pat h] at m
 exact m
theorem neg_iv'{i j:Int}(h:Iv i j):Iv (-j) (-i):=by
 have hM:=M_val;unfold Iv at *
 omega
theorem below_any(n:Nat)(i2 j2 i j:Int)(w:World)(hn:1<=n)(hn2:n<=1024)(hc:-(M:Int)<=i2/\i2<=j2/\j2<=M/\i2<M/\-(M:Int)<j2)(hx:-(M:Int)<=i/\i<=j/\j<=M/\i<M/\-(M:Int)<j)(hT:Tab w):
  Rt 103 #[.int .i64 (n:Int),Zf (pat i2) (pat j2),Zf (pat i) (pat j)] (Zf (pat (blw n i2 j2 i j).1) (pat (blw n i2 j2 i j).2)) w:=by
 have hM:=M_val;have hu:=apt_iv (n:=n) hn (i2:=i2) (j2:=j2) (by omega) hx;have A1:=fun W (t:Tab W)=>apart_any n i2 j2 i j W hn hn2 (by omega) (by omega) t;have MX:=fun W=>mirror_pat (i:=i) (j:=j) (.inl hx) W;unfold blw
 rcases Nat.mod_two_eq_zero_or_one n with hp | hp
 ·rw [if_pos hp];have hv:=apt_iv (n:=n) hn (i2:=i2) (j2:=j2) (i:=-j) (j:=-i) (by omega) (by omega)
  exact below_even n _ _ _ _ _ _ _ _ _ _ _ _ _ _ w hp A1 MX (fun W t=>apart_any n i2 j2 (-j) (-i) W hn hn2 (by omega) (by omega) t) (fun W=>mirror_pat hv W) (fun W=>hullf _ _ _ _ W hu (neg_iv' hv)) hT
 ·rw [if_neg (by omega)];have hv:=apt_iv (n:=n) hn (i2:=-j2) (j2:=-i2) (i:=-j) (j:=-i) (by omega) (by omega)
  exact below_odd n _ _ _ _ _ _ _ _ _ _ _ _ _ _ _ _ w hp A1 MX (fun W=>mirror_pat (i:=i2) (j:=j2) (.inl hc) W) (fun W t=>apart_any n (-j2) (-i2) (-j) (-i) W hn hn2 (by omega) (by omega) t) (fun W=>mirror_pat hv W) (fun W=>hullf _ _ _ _ W hu (neg_iv' hv)) hT
end Go.Proofs.YthlmlmfebpjgdaaGreatDoor
