/-
Lemmas for the statement: FmP RfmaT FmT WthT FadP Hd2P ReadT CutT ArT.
-/
import Derived.Test.YthlmlmfebpjgdaaGreatDoorM09
import Derived.Test.YthlmlmfebpjgdaaGreatDoorM10
import Derived.Deep.DeepCutAuto
import Derived.Test.YthlmlmfebpjgdaaGreatDoorM07
import Derived.Test.YthlmlmfebpjgdaaGreatDoorM01
import Derived.Test.YthlmlmfebpjgdaaGreatDoorM08
import Derived.Test.YthlmlmfebpjgdaaGreatDoorM03
set_option linter.unusedSimpArgs false
set_option linter.unusedVariables false
set_option maxHeartbeats 12800000
namespace Go.Proofs.YthlmlmfebpjgdaaGreatDoor
section
open Go.RowKit Ieee
theorem R_stay{r e:Int}(hr:Rep r){l:Nat}(h1:2^(54+l)<=r.natAbs)(h2:r.natAbs<2^(55+l))(he:e.natAbs*2^55<r.natAbs):R (r+e)=r:=by
 have p0:2^(55+l)=2^55*2^l:=Nat.pow_add 2 55 l;have p1:2^(54+l)=2^54*2^l:=Nat.pow_add 2 54 l
 have p2:2^(52+(l+1))=2^53*2^l:=by rw [show 52+(l+1)=53+l from by omega,Nat.pow_add]
 have p3:2^(l+1)=2*2^l:=by rw [Nat.pow_succ,Nat.mul_comm]
 have hl:0<2^l:=Nat.two_pow_pos l;have near:=R_nearest (n:=r+e) hr
 have he2:e.natAbs<2^l:=by
  have:e.natAbs*2^55<2^l*2^55:=by rw [Nat.mul_comm (2^l)];omega
  exact Nat.lt_of_mul_lt_mul_right this
 have hd:(R (r+e) - r).natAbs<2^(l+1):=by omega
 have k1:=rep_dvd (k:=l+1) hr (by omega);have k2:=rep_dvd (k:=l+1) (R_rep (r+e)) (by omega);obtain⟨a,ha⟩:=k1;obtain⟨b,hb⟩:=k2
 have e1:R (r+e) - r=2^(l+1)*(b - a):=by rw [hb];conv=>lhs;rw [ha]
                                         rw [Int.mul_sub]
 rw [e1,Int.natAbs_mul,Int.natAbs_pow] at hd
 have h0:(b - a).natAbs=0:=by
  rcases Nat.eq_zero_or_pos (b - a).natAbs with h | h
  ·exact h
  ·exfalso
   have:2^(l+1)*1<=2^(l+1)*(b - a).natAbs:=Nat.mul_le_mul_left _ h;have e2:(2:Int).natAbs=2:=rfl;rw [e2] at hd
   omega
 have:b=a:=by omega
 rw [this,Int.sub_self,Int.mul_zero] at e1
 omega
theorem R_stays{r e:Int}(hr:Rep r)(h1:2^54<=r.natAbs)(he:e.natAbs*2^55<r.natAbs):R (r+e)=r:=by
 have n0:r.natAbs≠0:=by have:=Nat.two_pow_pos 54;omega
 have a:=Nat.log2_self_le n0;have b:=@Nat.lt_log2_self r.natAbs;have c:54<=r.natAbs.log2:=(Nat.le_log2 n0).2 h1
 obtain⟨l,hl⟩:∃ l,r.natAbs.log2=54+l:=⟨_,(Nat.add_sub_cancel' c).symm⟩
 rw [hl] at a b
 exact R_stay hr a (by rw [show 54+l+1=55+l from by omega] at b;exact b) he
theorem add_nought{x y:Nat}{m:Int}(hx:Fl x m)(hy:Fl y 0):(∃ r,FloatKind.f64.format.add x y=some r/\Fl r m)/\∃ r,FloatKind.f64.format.add y x=some r/\Fl r m:=by
 have hM:M=9218868437227405312:=rfl;have h1:=idx_natAbs x;have hf:rungOf x<M:=hx.fin;have e:near (val (idx x)) 0=idx x:=near_val_zero (by omega) (by omega)
 have key:∀ r,Is r (idx x)->Fl r m:=fun r h=>by
  have h2:=idx_natAbs r;rw [h.idx] at h2
  exact⟨h.lt,by unfold fin;omega,by rw [h.idx,hx.val]⟩
 constructor
 ·obtain⟨r,hr,hi⟩:=add_fin hx.fin hy.fin;rw [hy.val,Int.add_zero,e] at hi
  exact⟨r,hr,key r hi⟩
 ·obtain⟨r,hr,hi⟩:=add_fin hy.fin hx.fin;rw [hy.val,Int.zero_add,e] at hi
  exact⟨r,hr,key r hi⟩
theorem fma_good{d:Int}(hd:d=-1\/d=1){s f e:Nat}{N P Z n:Int}(hn:n=P+Z)(fs:Fl s (R n))(ff:Fl f (n - R n))(fe:Fl e (N - P))(hc:N - P=0\/(n - R n=0/\2^54<=(R n).natAbs/\(N - P).natAbs*2^55<(R n).natAbs)):
  ∃ g,FloatKind.f64.format.add e f=some g/\rungOf g<=M/\nud d (idx s) (idx g)=rndI d (((N+Z:Int):Rat)*2^(-1074:Int)):=by
 rcases hc with h | ⟨h,h2,h3⟩
 ·rw [h] at fe;obtain⟨g,hg,fg⟩:=(add_nought ff fe).2
  have e1:N+Z=n:=by omega
  refine⟨g,hg,Nat.le_of_lt fg.fin,?_⟩;rw [e1]
  exact nud_n hd fs fg
 ·rw [h] at ff;obtain⟨g,hg,fg⟩:=(add_nought fe ff).1
  have e1:R (N+Z)=R n:=by
   rw [show N+Z=R n+(N - P) from by omega]
   exact R_stays (R_rep n) h2 h3
  refine⟨g,hg,Nat.le_of_lt fg.fin,?_⟩;rw [<- e1] at fs;rw [show N - P=N+Z - R (N+Z) from by rw [e1];omega] at fg
  exact nud_n hd fs fg
end
section
open Go.RowKit
attribute [local go_sem] run_store_float run_frombits run_bitsof run_negf
theorem odd_one(g x:Nat)(w:World)(hx:x<18446744073709551616)(rx:rungOf x<=M)(c0:w.cell? ⟨g,0,none⟩=some (.float .f64 x)):
  Calls Tryz.prog 183 #[.slice (some ⟨g,0,none⟩) 1 1] w fun e w'=>e=.returned (.bool (decide (rungOf x=M)))/\w=w':=by
 have N0:=Hd (isnanf x w rx);have I0:=Hd (isinff x w hx rx)
 obtain⟨b0,e0⟩:∃ p,decide (rungOf x=M)=p:=⟨_,rfl⟩
 rw [e0] at I0 ⊢;clear e0 rx hx
 go_enter Tryz.func183,Tryz.ntmps183
 go_wp2
 go_loop [4,7] (fun _ v=>∃ k:Nat,k<=1/\v=.int .i64 k/\(0<k->b0=false)) (fun _ v=>1 - (intOf v).toNat)
 case atStart=>exact⟨0,by omega,rfl,by omega⟩
 case round=>
  obtain⟨k,hk,rfl,hk0⟩:=hrel
  match k,hk with
  | 0,_=>
   clear hk0
   cases b0
   ·go_wp2_with fail;refine N0.out.mono ?_;rintro e w' ⟨rfl,rfl⟩;go_wp2_with fail;refine I0.out.mono ?_;rintro e w' ⟨rfl,rfl⟩;go_wp2
    go_round
    case rel=>exact⟨1,by omega,rfl,by simp⟩
    case measure=>simp [intOf]
   ·go_wp2_with fail;refine N0.out.mono ?_;rintro e w' ⟨rfl,rfl⟩;go_wp2_with fail;refine I0.out.mono ?_;rintro e w' ⟨rfl,rfl⟩;go_wp2
    go_ret
    exact⟨rfl,rfl⟩
  | 1,_=>
   have h0:=hk0 (by omega);subst h0;clear hk0;go_wp2
   go_ret
   exact⟨rfl,rfl⟩
theorem rfma_inf(d:Int)(x y z p r:Nat)(w:World)(hx:x<18446744073709551616)(hy:y<18446744073709551616)(hz:z<18446744073709551616)(rx:rungOf x<=M)(ry:rungOf y<=M)(ho:(decide (rungOf x=M) || decide (rungOf y=M))=true)(hp:floatBits .mul .f64 x y=some p)(hr:floatBits .add .f64 p z=some r):
  Rt 162 #[.int .i64 d,.float .f64 x,.float .f64 y,.float .f64 z] (.float .f64 r) w:=by
 have HA:=fun W=>run_float_arith (P:=Tryz.prog) W .mul 26 .f64 x y p hp;have HB:=fun W=>run_float_arith (P:=Tryz.prog) W .add 26 .f64 p z r hr;have HO0:=fun (W:World) (hb:Below w.heap.size w W)=>odd_two W.heap.size x y (W.alloc (.cells (Zv x y) 26)) hx hy (by omega) (by omega) (by simp [World.cell?_alloc_new]) (by simp [World.cell?_alloc_new]);rw [ho] at HO0;have HO:=Hd HO0;have LB:=Hd (below_alloc w (.cells (Zv x y) 26));clear HO0 ho hp hr rx ry hx hy hz
 go_enter Tryz.func162,Tryz.ntmps162
 go_wp2_with fail
 go_step3
 go_wp2_with fail;refine cy (HO.out _ (Below.refl _ _)) ?_;go_wp2
 try rw [Exit.noGoto_ret]
 go_ret
 exact⟨rfl,LB.out⟩
set_option maxRecDepth 8000 in
theorem rfma_quick(d:Int)(x y z p e s t a b c f g q r:Nat)(of oe o2:Ordering)(w:World)(hx:x<18446744073709551616)(hy:y<18446744073709551616)(hz:z<18446744073709551616)(rx:rungOf x<M)(ry:rungOf y<M)(rz:rungOf z<M)(hp:FloatKind.f64.format.mul x y=some p)(hp1:p<18446744073709551616)(hp2:rungOf p<=M)(mx:mid x=true)(my:mid y=true)(mp:mid p=true)
  (gz:(FloatKind.f64.format.order (rungOf z) 8660422083433463808 == some Ordering.gt)=false)(hmi:∀ W,Calls Tryz.prog 187 #[.float .f64 x,.float .f64 y,.float .f64 p] W fun e' w'=>e'=.returned (.float .f64 e)/\W=w')(q1:FloatKind.f64.format.add p z=some s)(q2:FloatKind.f64.format.sub s p=some t)(q3:FloatKind.f64.format.sub s t=some a)(q4:FloatKind.f64.format.sub p a=some b)(q5:FloatKind.f64.format.sub z t=some c)(q6:FloatKind.f64.format.add b c=some f)(he:e<18446744073709551616)(hs:s<18446744073709551616)(hfz:FloatKind.f64.format.order f 0=some of)(hez:FloatKind.f64.format.order e 0=some oe)
  (hsm:(FloatKind.f64.format.order (rungOf s) 553942754166571008 == some Ordering.lt)=false)(hq:FloatKind.f64.format.mul (rungOf s) 4359484439294640128=some q)(ho2:FloatKind.f64.format.order (rungOf e) q=some o2)(hc:((of=.lt\/of=.gt)/\oe=.eq)\/(of=.eq/\o2=.lt))
  (hg:FloatKind.f64.format.add e f=some g)(hn:∀ W,Calls Tryz.prog 186 #[.int .i64 d,.float .f64 s,.float .f64 g] W fun e w'=>e=.returned (.float .f64 r)/\W=w'):
  Rt 162 #[.int .i64 d,.float .f64 x,.float .f64 y,.float .f64 z] (.float .f64 r) w:=by
 have hM:M=9218868437227405312:=rfl;have A1:=fun W=>run_float_arith (P:=Tryz.prog) W .mul 26 .f64 x y p hp;have A2:=fun W=>run_float_arith (P:=Tryz.prog) W .add 26 .f64 p z s q1;have A3:=fun W=>run_float_arith (P:=Tryz.prog) W .sub 26 .f64 s p t q2;have A4:=fun W=>run_float_arith (P:=Tryz.prog) W .sub 26 .f64 s t a q3;have A5:=fun W=>run_float_arith (P:=Tryz.prog) W .sub 26 .f64 p a b q4;have A6:=fun W=>run_float_arith (P:=Tryz.prog) W .sub 26 .f64 z t c q5;have A7:=fun W=>run_float_arith (P:=Tryz.prog) W .add 26 .f64 b c f q6;have A8:=fun W=>run_float_arith (P:=Tryz.prog) W .mul 26 .f64 (rungOf s) 4359484439294640128 q hq;have A9:=fun W=>run_float_arith (P:=Tryz.prog) W .add 26 .f64 e f g hg;have HX0:=fun W=>middle_any x W hx (by omega);have HY0:=fun W=>middle_any y W hy (by omega);have HQ0:=fun W=>middle_any p W hp1 hp2;rw [mx] at HX0;rw [my] at HY0;rw [mp] at HQ0;have HX:=Hd HX0;have HY:=Hd HY0;have HQ:=Hd HQ0;have HZ:=Hd fun W=>abs_any z W hz;have HE:=Hd fun W=>abs_any e W he;have HS:=Hd fun W=>abs_any s W hs;have HMI:=Hd hmi;have HN:=Hd hn
 have ho:(decide (rungOf x=M) || decide (rungOf y=M))=false:=by
  rw [decide_eq_false (by omega),decide_eq_false (by omega)];rfl
 have HO0:=fun (W:World) (hb:Below w.heap.size w W)=>odd_two W.heap.size x y (W.alloc (.cells (Zv x y) 26)) hx hy (by omega) (by omega) (by simp [World.cell?_alloc_new]) (by simp [World.cell?_alloc_new]);rw [ho] at HO0;have HO:=Hd HO0
 have HP0:=odd_one (w.heap.size+1) z ((w.alloc (.cells (Zv x y) 26)).alloc (.cells #[.float .f64 z] 26)) hz (by omega) (by
  have h:=World.cell?_alloc_new (w.alloc (.cells (Zv x y) 26)) #[.float .f64 z] 26 0;rw [show (w.alloc (.cells (Zv x y) 26)).heap.size=w.heap.size+1 from by simp] at h
  rw [h];rfl)
 rw [show decide (rungOf z=M)=false from decide_eq_false (by omega)] at HP0;have HOZ:=Hd HP0;have LB:=Hd (show Below w.heap.size w ((w.alloc (.cells (Zv x y) 26)).alloc (.cells #[.float .f64 z] 26)) from (below_alloc w _).alloc (by simp) _)
 obtain⟨Z,eZ⟩:∃ v,rungOf z=v:=⟨_,rfl⟩
 obtain⟨E,eE⟩:∃ v,rungOf e=v:=⟨_,rfl⟩
 obtain⟨S,eS⟩:∃ v,rungOf s=v:=⟨_,rfl⟩
 rw [eZ] at HZ gz;rw [eE] at HE ho2;rw [eS] at HS hsm A8;clear HO0 HP0 ho rx ry rz hx hy hz hM hp hp1 hp2 mx my mp HX0 HY0 HQ0 hmi hn q1 q2 q3 q4 q5 q6 he hs hq hg eZ eE eS;have GZh:=Hd gz;have HFZh:=Hd hfz;have HEZh:=Hd hez;have HSMh:=Hd hsm;have A8h:=Hd A8;have HO2h:=Hd ho2;clear gz hfz hez hsm A8 ho2
 rcases hc with ⟨k1,rfl⟩ | ⟨rfl,rfl⟩
 ·rcases k1 with rfl | rfl
  all_goals
   go_enter Tryz.func162,Tryz.ntmps162
   go_wp2_with fail
   go_step3
   go_wp2_with fail;refine cy (HO.out _ (Below.refl _ _)) ?_;go_wp2_with fail;refine cy (HOZ.out) ?_;go_wp2_with fail;refine cy (HX.out _) ?_;go_wp2_with fail;refine cy (HY.out _) ?_;go_wp2_with fail;refine cy (HQ.out _) ?_;go_wp2_with fail;refine cy (HZ.out _) ?_
   have gz:(FloatKind.f64.format.order Z 8660422083433463808 == some Ordering.gt)=false:=by have h:=GZh.out;simpa using h
   go_wp2_with fail;clear gz;refine cy (HMI.out _) ?_;have hfz:=HFZh.out;have hez:=HEZh.out;go_wp2_with fail;refine cy (HS.out _) ?_
   have hsm:(FloatKind.f64.format.order S 553942754166571008 == some Ordering.lt)=false:=by have h:=HSMh.out;simpa using h
   go_wp2_with fail;refine cy (HN.out _) ?_;go_wp2
   try rw [Exit.noGoto_ret]
   go_ret
   exact⟨rfl,LB.out⟩
 ·skip
  go_enter Tryz.func162,Tryz.ntmps162
  go_wp2_with fail
  go_step3
  go_wp2_with fail;refine cy (HO.out _ (Below.refl _ _)) ?_;go_wp2_with fail;refine cy (HOZ.out) ?_;go_wp2_with fail;refine cy (HX.out _) ?_;go_wp2_with fail;refine cy (HY.out _) ?_;go_wp2_with fail;refine cy (HQ.out _) ?_;go_wp2_with fail;refine cy (HZ.out _) ?_
  have gz:(FloatKind.f64.format.order Z 8660422083433463808 == some Ordering.gt)=false:=by have h:=GZh.out;simpa using h
  go_wp2_with fail;clear gz;refine cy (HMI.out _) ?_;have hfz:=HFZh.out;go_wp2_with fail;refine cy (HS.out _) ?_
  have hsm:(FloatKind.f64.format.order S 553942754166571008 == some Ordering.lt)=false:=by have h:=HSMh.out;simpa using h
  go_wp2_with fail;refine cy (HE.out _) ?_;go_wp2_with fail;refine cy (HS.out _) ?_;have A8:=A8h.out;have ho2:=HO2h.out;go_wp2_with fail;refine cy (HN.out _) ?_;go_wp2
  try rw [Exit.noGoto_ret]
  go_ret
  exact⟨rfl,LB.out⟩
set_option maxRecDepth 8000 in
theorem rfma_exact1(d:Int)(x y z p:Nat)(w:World)(hd:d=-1\/d=1)(hx:x<18446744073709551616)(hy:y<18446744073709551616)(hz:z<18446744073709551616)(rx:rungOf x<M)(ry:rungOf y<M)(rz:rungOf z<M)(hp:FloatKind.f64.format.mul x y=some p)(hp1:p<18446744073709551616)(hp2:rungOf p<=M)(gz:Bool)
  (hgz:(FloatKind.f64.format.order (rungOf z) 8660422083433463808 == some Ordering.gt)=gz)(hm:¬ (mid x=true/\mid y=true/\mid p=true/\gz=false)):
  Rt 162 #[.int .i64 d,.float .f64 x,.float .f64 y,.float .f64 z] (.float .f64 (pat (rndI d (fl (idx x)*fl (idx y)+fl (idx z))))) w:=by
 have hM:M=9218868437227405312:=rfl;have A1:=fun W=>run_float_arith (P:=Tryz.prog) W .mul 26 .f64 x y p hp;obtain⟨S1,e1,b1,l1,u1,v1,HP1⟩:=part_any x hx rx;obtain⟨S2,e2,b2,l2,u2,v2,HP2⟩:=part_any y hy ry;obtain⟨S3,e3,b3,l3,u3,v3,HP3⟩:=part_any z hz rz;have k1:blen S1<=53:=blen_le_iff.2 (show S1<2^53 from b1);have k2:blen S2<=53:=blen_le_iff.2 (show S2<2^53 from b2);have k3:blen S3<=53:=blen_le_iff.2 (show S3<2^53 from b3)
 have kb:blen (S1*S2)<=106:=blen_le_iff.2 (by
  refine Nat.lt_of_le_of_lt (Nat.mul_le_mul_left S1 (Nat.le_of_lt b2)) ?_;rw [show (2:Nat)^106=2^53*2^53 from by rw [<- Nat.pow_add]]
  exact (Nat.mul_lt_mul_right (by omega)).2 b1)
 have hV:rv (sgn x != sgn y) (S1*S2) 1*2^(e1+e2)=fl (idx x)*fl (idx y):=by
  have hm:=rv_mul (sgn x) (sgn y) S1 1 S2 1;rw [Nat.mul_one] at hm;rw [v1,v2,zpow_add,<- hm]
  grind
 have HM0:=fun (A1:Option Addr) (m1 c1:Nat) (A2:Option Addr) (m2 c2:Nat) (W:World) (h1:U32s W A1 m1 c1 (digs S1)) (h2:U32s W A2 m2 c2 (digs S2))=>rprod_any (sgn x) A1 m1 c1 S1 e1 (sgn y) A2 m2 c2 S2 e2 W h1 h2 b1 b2 (by omega) (by omega)
 obtain⟨np,hnp⟩:∃ v,(sgn x != sgn y)=v:=⟨_,rfl⟩
 obtain⟨SP,hSP⟩:∃ v,S1*S2=v:=⟨_,rfl⟩
 obtain⟨eP,heP⟩:∃ v,e1+e2=v:=⟨_,rfl⟩
 rw [hnp,hSP,heP] at hV HM0;rw [hSP] at kb;have hB:=dsF_bound np SP eP (sgn z) S3 e3 4000 (by omega) (by omega);have hW:=dsF_val np SP eP (sgn z) S3 e3;rw [hV,<- v3] at hW;have HS0:=fun (A1:Option Addr) (m1 c1:Nat) (A2:Option Addr) (m2 c2:Nat) (W:World) (h1:U32s W A1 m1 c1 (digs SP)) (h2:U32s W A2 m2 c2 (digs S3))=>sum_any np A1 m1 c1 SP eP (sgn z) A2 m2 c2 S3 e3 W h1 h2 (by omega) (by omega) (by omega) (by omega)
 obtain⟨n,hn⟩:∃ v,(dsF np SP eP (sgn z) S3 e3).1=v:=⟨_,rfl⟩
 obtain⟨S,hS⟩:∃ v,(dsF np SP eP (sgn z) S3 e3).2.1=v:=⟨_,rfl⟩
 obtain⟨E,hE⟩:∃ v,(dsF np SP eP (sgn z) S3 e3).2.2=v:=⟨_,rfl⟩
 rw [hn,hS,hE] at HS0 hW;rw [hS,hE] at hB;have HT0:=fun (A:Option Addr) (m c:Nat) (W:World) (h:U32s W A m c (digs S))=>to_any d n A m c S E W h hd (by omega) (by omega) (by omega);rw [hW] at HT0;have HPR:=Hd HM0;have HSU:=Hd HS0;have HT:=Hd HT0;have HX1:=Hd HP1;have HX2:=Hd HP2;have HX3:=Hd HP3
 obtain⟨n1,hn1⟩:∃ v,sgn x=v:=⟨_,rfl⟩
 obtain⟨n2,hn2⟩:∃ v,sgn y=v:=⟨_,rfl⟩
 obtain⟨n3,hn3⟩:∃ v,sgn z=v:=⟨_,rfl⟩
 rw [hn1] at HX1 HPR;rw [hn2] at HX2 HPR;rw [hn3] at HX3 HSU;clear HP1 HP2 HP3 HM0 HS0 HT0 hS hE hn hW hV hB kb k1 k2 k3 b1 b2 b3 l1 l2 l3 u1 u2 u3 v1 v2 v3 hn1 hn2 hn3 hnp hSP heP
 have ho:(decide (rungOf x=M) || decide (rungOf y=M))=false:=by
  rw [decide_eq_false (by omega),decide_eq_false (by omega)];rfl
 have HO0:=fun (W:World) (hb:Below w.heap.size w W)=>odd_two W.heap.size x y (W.alloc (.cells (Zv x y) 26)) hx hy (by omega) (by omega) (by simp [World.cell?_alloc_new]) (by simp [World.cell?_alloc_new]);rw [ho] at HO0;have HO:=Hd HO0
 have HP0:=odd_one (w.heap.size+1) z ((w.alloc (.cells (Zv x y) 26)).alloc (.cells #[.float .f64 z] 26)) hz (by omega) (by
  have h:=World.cell?_alloc_new (w.alloc (.cells (Zv x y) 26)) #[.float .f64 z] 26 0;rw [show (w.alloc (.cells (Zv x y) 26)).heap.size=w.heap.size+1 from by simp] at h
  rw [h];rfl)
 rw [show decide (rungOf z=M)=false from decide_eq_false (by omega)] at HP0;have HOZ:=Hd HP0;have LB:=Hd (show Below w.heap.size w ((w.alloc (.cells (Zv x y) 26)).alloc (.cells #[.float .f64 z] 26)) from (below_alloc w _).alloc (by simp) _);have HX0:=fun W=>middle_any x W hx (by omega);have HY0:=fun W=>middle_any y W hy (by omega);have HQ0:=fun W=>middle_any p W hp1 hp2
 obtain⟨mx,ex⟩:∃ v,mid x=v:=⟨_,rfl⟩
 obtain⟨my,ey⟩:∃ v,mid y=v:=⟨_,rfl⟩
 obtain⟨mp,ep⟩:∃ v,mid p=v:=⟨_,rfl⟩
 rw [ex] at HX0 hm;rw [ey] at HY0 hm;rw [ep] at HQ0 hm;have HX:=Hd HX0;have HY:=Hd HY0;have HQ:=Hd HQ0;have HZ:=Hd fun W=>abs_any z W hz
 have hc:mx=false\/(mx=true/\my=false)\/(mx=true/\my=true/\mp=false)\/(mx=true/\my=true/\mp=true/\gz=true):=by
  cases mx
  ·exact .inl rfl
  ·cases my
   ·exact .inr (.inl ⟨rfl,rfl⟩)
   ·cases mp
    ·exact .inr (.inr (.inl ⟨rfl,rfl,rfl⟩))
    ·cases gz
     ·exact absurd ⟨rfl,rfl,rfl,rfl⟩ hm
     ·exact .inr (.inr (.inr ⟨rfl,rfl,rfl,rfl⟩))
 obtain⟨r,hr⟩:∃ r,pat (rndI d (fl (idx x)*fl (idx y)+fl (idx z)))=r:=⟨_,rfl⟩
 rw [hr] at HT ⊢
 obtain⟨Z,eZ⟩:∃ v,rungOf z=v:=⟨_,rfl⟩
 rw [eZ] at HZ hgz;clear HO0 HP0 ho hr rx ry rz hx hy hz hd hM hm ex ey ep HX0 HY0 HQ0 hp1 hp2 hp eZ;have GZh:=Hd hgz;clear hgz
 rcases hc with rfl | ⟨rfl,rfl⟩ | ⟨rfl,rfl,rfl⟩ | ⟨rfl,rfl,rfl,rfl⟩
 all_goals
  go_enter Tryz.func162,Tryz.ntmps162
  go_wp2_with fail
  apply scope_once 0 _ _ rfl
  focus
   go_wp2_with fail;refine cy (HO.out _ (Below.refl _ _)) ?_;go_wp2_with fail;refine cy (HOZ.out) ?_;go_wp2_with fail;refine cy (HX.out _) ?_;go_wp2_with fail
   try
    refine cy (HY.out _) ?_;go_wp2_with fail
   try
    refine cy (HQ.out _) ?_;go_wp2_with fail
   try
    refine cy (HZ.out _) ?_
    have gz:(FloatKind.f64.format.order Z 8660422083433463808 == some Ordering.gt)=true:=by have h:=GZh.out;simpa using h
    go_wp2_with fail
   try go_step3
   exact⟨rfl,rfl,rfl⟩
  clear HO HOZ HX HY HQ HZ GZh A1;generalize (w.alloc (.cells (Zv x y) 26)).alloc (.cells #[.float .f64 z] 26)=wa at LB ⊢;go_wp2_with fail;refine (HX1.out _).mono ?_;rintro e w1 ⟨A1,m1,c1,rfl,hu1,hb1⟩;have LB1:=Hd (LB.out.trans (hb1.mono LB.out.size));have U1:=Hd hu1;clear hu1 hb1 LB;go_wp2_with fail;refine (HX2.out _).mono ?_;rintro e w2 ⟨A2,m2,c2,rfl,hu2,hb2⟩;have LB2:=stB LB1 hb2 LB1.out.size;have V1:=Hd (U1.out.below hb2);have V2:=Hd hu2;clear hu2 hb2 LB1 U1;go_wp2_with fail;refine (HPR.out _ _ _ _ _ _ _ V1.out V2.out).mono ?_;rintro e w3 ⟨A3,m3,c3,rfl,hu3,hb3⟩;have LB3:=stB LB2 hb3 LB2.out.size;have V3:=Hd hu3;clear hu3 hb3 LB2 V1 V2;go_wp2_with fail;refine (HX3.out _).mono ?_;rintro e w4 ⟨A4,m4,c4,rfl,hu4,hb4⟩;have LB4:=stB LB3 hb4 LB3.out.size;have V4:=Hd (V3.out.below hb4);have V5:=Hd hu4;clear hu4 hb4 LB3 V3;go_wp2_with fail;refine (HSU.out _ _ _ _ _ _ _ V4.out V5.out).mono ?_;rintro e w5 ⟨A5,m5,c5,rfl,hu5,hb5⟩;have LB5:=stB LB4 hb5 LB4.out.size;have V6:=Hd hu5;clear hu5 hb5 LB4 V4 V5;go_wp2_with fail;refine cx (HT.out _ _ _ _ V6.out) fun w6 hb6=>?_;have LB6:=stB LB5 hb6 LB5.out.size;clear hb6 LB5 V6;go_wp2
  simp only [Exit.jump]
  go_ret
  exact⟨rfl,LB6.out⟩
set_option maxRecDepth 8000 in
theorem rfma_exact2(d:Int)(x y z p e s t a b c f q:Nat)(sm:Bool)(of oe o2:Ordering)(w:World)(hd:d=-1\/d=1)(hx:x<18446744073709551616)(hy:y<18446744073709551616)(hz:z<18446744073709551616)(rx:rungOf x<M)(ry:rungOf y<M)(rz:rungOf z<M)(hp:FloatKind.f64.format.mul x y=some p)(hp1:p<18446744073709551616)(hp2:rungOf p<=M)(mx:mid x=true)(my:mid y=true)(mp:mid p=true)
  (gz:(FloatKind.f64.format.order (rungOf z) 8660422083433463808 == some Ordering.gt)=false)(hmi:∀ W,Calls Tryz.prog 187 #[.float .f64 x,.float .f64 y,.float .f64 p] W fun e' w'=>e'=.returned (.float .f64 e)/\W=w')(q1:FloatKind.f64.format.add p z=some s)(q2:FloatKind.f64.format.sub s p=some t)(q3:FloatKind.f64.format.sub s t=some a)(q4:FloatKind.f64.format.sub p a=some b)(q5:FloatKind.f64.format.sub z t=some c)(q6:FloatKind.f64.format.add b c=some f)(he:e<18446744073709551616)(hs:s<18446744073709551616)(hfz:FloatKind.f64.format.order f 0=some of)(hez:FloatKind.f64.format.order e 0=some oe)
  (hsm:(FloatKind.f64.format.order (rungOf s) 553942754166571008 == some Ordering.lt)=sm)(hc:((of=.lt\/of=.gt)/\(oe=.lt\/oe=.gt))\/((of=.lt\/of=.gt)/\oe=.eq/\sm=true)\/(of=.eq/\sm=true)\/(of=.eq/\sm=false/\FloatKind.f64.format.mul (rungOf s) 4359484439294640128=some q/\FloatKind.f64.format.order (rungOf e) q=some o2/\(o2=.eq\/o2=.gt))):
  Rt 162 #[.int .i64 d,.float .f64 x,.float .f64 y,.float .f64 z] (.float .f64 (pat (rndI d (fl (idx x)*fl (idx y)+fl (idx z))))) w:=by
 have hM:M=9218868437227405312:=rfl;have A1:=fun W=>run_float_arith (P:=Tryz.prog) W .mul 26 .f64 x y p hp;have A2:=fun W=>run_float_arith (P:=Tryz.prog) W .add 26 .f64 p z s q1;have A3:=fun W=>run_float_arith (P:=Tryz.prog) W .sub 26 .f64 s p t q2;have A4:=fun W=>run_float_arith (P:=Tryz.prog) W .sub 26 .f64 s t a q3;have A5:=fun W=>run_float_arith (P:=Tryz.prog) W .sub 26 .f64 p a b q4;have A6:=fun W=>run_float_arith (P:=Tryz.prog) W .sub 26 .f64 z t c q5;have A7:=fun W=>run_float_arith (P:=Tryz.prog) W .add 26 .f64 b c f q6;obtain⟨S1,e1,b1,l1,u1,v1,HP1⟩:=part_any x hx rx;obtain⟨S2,e2,b2,l2,u2,v2,HP2⟩:=part_any y hy ry;obtain⟨S3,e3,b3,l3,u3,v3,HP3⟩:=part_any z hz rz;have k1:blen S1<=53:=blen_le_iff.2 (show S1<2^53 from b1);have k2:blen S2<=53:=blen_le_iff.2 (show S2<2^53 from b2);have k3:blen S3<=53:=blen_le_iff.2 (show S3<2^53 from b3)
 have kb:blen (S1*S2)<=106:=blen_le_iff.2 (by
  refine Nat.lt_of_le_of_lt (Nat.mul_le_mul_left S1 (Nat.le_of_lt b2)) ?_;rw [show (2:Nat)^106=2^53*2^53 from by rw [<- Nat.pow_add]]
  exact (Nat.mul_lt_mul_right (by omega)).2 b1)
 have hV:rv (sgn x != sgn y) (S1*S2) 1*2^(e1+e2)=fl (idx x)*fl (idx y):=by
  have hm:=rv_mul (sgn x) (sgn y) S1 1 S2 1;rw [Nat.mul_one] at hm;rw [v1,v2,zpow_add,<- hm]
  grind
 have HM0:=fun (A1:Option Addr) (m1 c1:Nat) (A2:Option Addr) (m2 c2:Nat) (W:World) (h1:U32s W A1 m1 c1 (digs S1)) (h2:U32s W A2 m2 c2 (digs S2))=>rprod_any (sgn x) A1 m1 c1 S1 e1 (sgn y) A2 m2 c2 S2 e2 W h1 h2 b1 b2 (by omega) (by omega)
 obtain⟨np,hnp⟩:∃ v,(sgn x != sgn y)=v:=⟨_,rfl⟩
 obtain⟨SP,hSP⟩:∃ v,S1*S2=v:=⟨_,rfl⟩
 obtain⟨eP,heP⟩:∃ v,e1+e2=v:=⟨_,rfl⟩
 rw [hnp,hSP,heP] at hV HM0;rw [hSP] at kb;have hB:=dsF_bound np SP eP (sgn z) S3 e3 4000 (by omega) (by omega);have hW:=dsF_val np SP eP (sgn z) S3 e3;rw [hV,<- v3] at hW;have HS0:=fun (A1:Option Addr) (m1 c1:Nat) (A2:Option Addr) (m2 c2:Nat) (W:World) (h1:U32s W A1 m1 c1 (digs SP)) (h2:U32s W A2 m2 c2 (digs S3))=>sum_any np A1 m1 c1 SP eP (sgn z) A2 m2 c2 S3 e3 W h1 h2 (by omega) (by omega) (by omega) (by omega)
 obtain⟨n,hn⟩:∃ v,(dsF np SP eP (sgn z) S3 e3).1=v:=⟨_,rfl⟩
 obtain⟨S,hS⟩:∃ v,(dsF np SP eP (sgn z) S3 e3).2.1=v:=⟨_,rfl⟩
 obtain⟨E,hE⟩:∃ v,(dsF np SP eP (sgn z) S3 e3).2.2=v:=⟨_,rfl⟩
 rw [hn,hS,hE] at HS0 hW;rw [hS,hE] at hB;have HT0:=fun (A:Option Addr) (m c:Nat) (W:World) (h:U32s W A m c (digs S))=>to_any d n A m c S E W h hd (by omega) (by omega) (by omega);rw [hW] at HT0;have HPR:=Hd HM0;have HSU:=Hd HS0;have HT:=Hd HT0;have HX1:=Hd HP1;have HX2:=Hd HP2;have HX3:=Hd HP3
 obtain⟨n1,hn1⟩:∃ v,sgn x=v:=⟨_,rfl⟩
 obtain⟨n2,hn2⟩:∃ v,sgn y=v:=⟨_,rfl⟩
 obtain⟨n3,hn3⟩:∃ v,sgn z=v:=⟨_,rfl⟩
 rw [hn1] at HX1 HPR;rw [hn2] at HX2 HPR;rw [hn3] at HX3 HSU;clear HP1 HP2 HP3 HM0 HS0 HT0 hS hE hn hW hV hB kb k1 k2 k3 b1 b2 b3 l1 l2 l3 u1 u2 u3 v1 v2 v3 hn1 hn2 hn3 hnp hSP heP
 have ho:(decide (rungOf x=M) || decide (rungOf y=M))=false:=by
  rw [decide_eq_false (by omega),decide_eq_false (by omega)];rfl
 have HO0:=fun (W:World) (hb:Below w.heap.size w W)=>odd_two W.heap.size x y (W.alloc (.cells (Zv x y) 26)) hx hy (by omega) (by omega) (by simp [World.cell?_alloc_new]) (by simp [World.cell?_alloc_new]);rw [ho] at HO0;have HO:=Hd HO0
 have HP0:=odd_one (w.heap.size+1) z ((w.alloc (.cells (Zv x y) 26)).alloc (.cells #[.float .f64 z] 26)) hz (by omega) (by
  have h:=World.cell?_alloc_new (w.alloc (.cells (Zv x y) 26)) #[.float .f64 z] 26 0;rw [show (w.alloc (.cells (Zv x y) 26)).heap.size=w.heap.size+1 from by simp] at h
  rw [h];rfl)
 rw [show decide (rungOf z=M)=false from decide_eq_false (by omega)] at HP0;have HOZ:=Hd HP0;have LB:=Hd (show Below w.heap.size w ((w.alloc (.cells (Zv x y) 26)).alloc (.cells #[.float .f64 z] 26)) from (below_alloc w _).alloc (by simp) _);have HX0:=fun W=>middle_any x W hx (by omega);have HY0:=fun W=>middle_any y W hy (by omega);have HQ0:=fun W=>middle_any p W hp1 hp2;rw [mx] at HX0;rw [my] at HY0;rw [mp] at HQ0;have HX:=Hd HX0;have HY:=Hd HY0;have HQ:=Hd HQ0;have HZ:=Hd fun W=>abs_any z W hz;have HE:=Hd fun W=>abs_any e W he;have HS:=Hd fun W=>abs_any s W hs;have HMI:=Hd hmi
 obtain⟨r,hr⟩:∃ r,pat (rndI d (fl (idx x)*fl (idx y)+fl (idx z)))=r:=⟨_,rfl⟩
 rw [hr] at HT ⊢
 obtain⟨Z,eZ⟩:∃ v,rungOf z=v:=⟨_,rfl⟩
 obtain⟨E',eE⟩:∃ v,rungOf e=v:=⟨_,rfl⟩
 obtain⟨S',eS⟩:∃ v,rungOf s=v:=⟨_,rfl⟩
 rw [eZ] at HZ gz;rw [eE] at HE hc;rw [eS] at HS hsm hc;clear HO0 HP0 ho hr rx ry rz hx hy hz hd hM hp hp1 hp2 mx my mp HX0 HY0 HQ0 hmi q1 q2 q3 q4 q5 q6 he hs eZ eE eS;have GZh:=Hd gz;have HFZh:=Hd hfz;have HEZh:=Hd hez;have HSMh:=Hd hsm;clear gz hfz hez hsm
 rcases hc with ⟨rfl | rfl,rfl | rfl⟩ | ⟨rfl | rfl,rfl,rfl⟩ | ⟨rfl,rfl⟩ | ⟨rfl,rfl,hq,ho2,rfl | rfl⟩
 all_goals
  try
   have A8h:=Hd fun W=>run_float_arith (P:=Tryz.prog) W .mul 26 .f64 S' 4359484439294640128 q hq;have HO2h:=Hd ho2;clear hq ho2
  go_enter Tryz.func162,Tryz.ntmps162
  go_wp2_with fail
  apply scope_once 0 _ _ rfl
  focus
   go_wp2_with fail;refine cy (HO.out _ (Below.refl _ _)) ?_;go_wp2_with fail;refine cy (HOZ.out) ?_;go_wp2_with fail;refine cy (HX.out _) ?_;go_wp2_with fail;refine cy (HY.out _) ?_;go_wp2_with fail;refine cy (HQ.out _) ?_;go_wp2_with fail;refine cy (HZ.out _) ?_
   have gz:(FloatKind.f64.format.order Z 8660422083433463808 == some Ordering.gt)=false:=by have h:=GZh.out;simpa using h
   go_wp2_with fail;clear gz;refine cy (HMI.out _) ?_;have hfz:=HFZh.out;have hez:=HEZh.out;go_wp2_with fail
   try
    refine cy (HS.out _) ?_
    first
    | have hsm:(FloatKind.f64.format.order S' 553942754166571008 == some Ordering.lt)=true:=by have h:=HSMh.out;simpa using h
    | have hsm:(FloatKind.f64.format.order S' 553942754166571008 == some Ordering.lt)=false:=by have h:=HSMh.out;simpa using h
    go_wp2_with fail
   try
    refine cy (HE.out _) ?_;go_wp2_with fail;refine cy (HS.out _) ?_;have A8:=A8h.out;have ho2:=HO2h.out;go_wp2_with fail
   try go_step3
   exact⟨rfl,rfl,rfl⟩
  try clear A8h HO2h
  clear HO HOZ HX HY HQ HZ HE HS HMI A1 A2 A3 A4 A5 A6 A7 GZh HFZh HEZh HSMh;generalize (w.alloc (.cells (Zv x y) 26)).alloc (.cells #[.float .f64 z] 26)=wa at LB ⊢;go_wp2_with fail;refine (HX1.out _).mono ?_;rintro e w1 ⟨A1,m1,c1,rfl,hu1,hb1⟩;have LB1:=Hd (LB.out.trans (hb1.mono LB.out.size));have U1:=Hd hu1;clear hu1 hb1 LB;go_wp2_with fail;refine (HX2.out _).mono ?_;rintro e w2 ⟨A2,m2,c2,rfl,hu2,hb2⟩;have LB2:=stB LB1 hb2 LB1.out.size;have V1:=Hd (U1.out.below hb2);have V2:=Hd hu2;clear hu2 hb2 LB1 U1;go_wp2_with fail;refine (HPR.out _ _ _ _ _ _ _ V1.out V2.out).mono ?_;rintro e w3 ⟨A3,m3,c3,rfl,hu3,hb3⟩;have LB3:=stB LB2 hb3 LB2.out.size;have V3:=Hd hu3;clear hu3 hb3 LB2 V1 V2;go_wp2_with fail;refine (HX3.out _).mono ?_;rintro e w4 ⟨A4,m4,c4,rfl,hu4,hb4⟩;have LB4:=stB LB3 hb4 LB3.out.size;have V4:=Hd (V3.out.below hb4);have V5:=Hd hu4;clear hu4 hb4 LB3 V3;go_wp2_with fail;refine (HSU.out _ _ _ _ _ _ _ V4.out V5.out).mono ?_;rintro e w5 ⟨A5,m5,c5,rfl,hu5,hb5⟩;have LB5:=stB LB4 hb5 LB4.out.size;have V6:=Hd hu5;clear hu5 hb5 LB4 V4 V5;go_wp2_with fail;refine cx (HT.out _ _ _ _ V6.out) fun w6 hb6=>?_;have LB6:=stB LB5 hb6 LB5.out.size;clear hb6 LB5 V6;go_wp2
  simp only [Exit.jump]
  go_ret
  exact⟨rfl,LB6.out⟩
end
section
open Go.RowKit Ieee
theorem quick_prod2{x y p:Nat}(hx:x<18446744073709551616)(hy:y<18446744073709551616)(mx:mid x=true)(my:mid y=true)(hp:FloatKind.f64.format.mul x y=some p)(mp:mid p=true){U:Nat}(hU:U=1074):
  ∃ e:Nat,(∀ W,Calls Tryz.prog 187 #[.float .f64 x,.float .f64 y,.float .f64 p] W fun e' w'=>e'=.returned (.float .f64 e)/\W=w')/\∃ N:Int,val (idx x)*val (idx y)=N*2^U/\Fl p (R N)/\Fl e (N - R N):=by
 have hM:M=9218868437227405312:=rfl
 obtain⟨T,hT⟩:∃ T:Nat,T=1974:=⟨_,rfl⟩
 obtain⟨L,hL⟩:∃ T:Nat,T=174:=⟨_,rfl⟩
 have mx':=mid_iff.1 mx;have my':=mid_iff.1 my;have mp':=mid_iff.1 mp
 have pM:rungOf p<M:=by omega
 obtain⟨m,a,fx,m1,m2,bx,-⟩:=middle_form hT hL hx (by omega) (by omega);obtain⟨n,b,fy,n1,n2,by_,-⟩:=middle_form hT hL hy (by omega) (by omega);obtain⟨r,hr,his⟩:=mul_fin (show fin x by unfold fin;omega) (show fin y by unfold fin;omega)
 have e0:p=r:=by
  have:some p=some r:=by rw [<- hp];exact hr
  cases this;rfl
 subst e0;rw [<- hU] at his;have hip:=his.idx
 have hv:val (idx x)*val (idx y)=m*2^a*(n*2^b):=by rw [fx.val,fy.val]
 have hab:U<=a+b:=by
  rcases Nat.lt_or_ge (a+b) U with h | h
  ·exfalso
   obtain⟨g,hg⟩:∃ g:Nat,g=122:=⟨_,rfl⟩
   have h2:=prod_small (V:=val (idx x)*val (idx y)) hv m2 n2 (show 54<=g by omega) h;have h3:=near_natAbs (val (idx x)*val (idx y)) U;rw [<- hip,idx_natAbs] at h3;have h4:=mp'.1;clear bx by_ fx fy m1 m2 n1 n2 hv hT hL hU his hip mx my mp mx' my'
   omega
  ·exact h
 have fp:Fl p (val (idx p)):=⟨his.lt,by unfold fin;omega,rfl⟩
 have bp:=not_great (x:=p) (t:=1922) (T:=T) (by omega) (by omega);obtain⟨xt,xu,xh,xl,yt,yu,yh,yl,z1,e0,z2,e1,z3,e2,z4,e,q1,q2,q3,q4,q5,q6,q7,q8,q9,q10,q11,q12,q13,q14,q15,q16,N,hN,fpN,fe⟩:=quick_mul hU hT fx m1 m2 bx fy n1 n2 by_ hp fp.fin bp hab
 exact⟨e,fun W=>missed_walk x y p xh xl yh yl z1 e0 z2 e1 z3 e2 z4 e W (fun W=>halves_walk x xt xu xh xl W q1 q2 q3 q4) (fun W=>halves_walk y yt yu yh yl W q5 q6 q7 q8) q9 q10 q11 q12 q13 q14 q15 q16,N,hv.trans hN,fpN,fe⟩
theorem Fl_abs{s:Nat}{v:Int}(h:Fl s v):Fl (rungOf s) v.natAbs:=by
 have hM:M=9218868437227405312:=rfl;have hf:rungOf s<M:=h.fin;have r:=rung_idx (b:=rungOf s) (by omega);have e1:=val_natAbs (idx s);rw [h.val,idx_natAbs] at e1;have e2:=val_natAbs ((rungOf s:Nat):Int);rw [Int.natAbs_natCast] at e2
 have e3:0<=val ((rungOf s:Nat):Int):=by
  rcases Nat.eq_zero_or_pos (rungOf s) with k | k
  ·rw [k];exact Int.le_of_eq val_zero.symm
  ·have:=(@val_lt_iff 0 ((rungOf s:Nat):Int)).2 (by omega);rw [val_zero] at this;omega
 exact⟨by omega,by unfold fin;omega,by rw [r.2];omega⟩
theorem c55{K:Nat}(hK:K=1019):Fl 4359484439294640128 (2^K):=by
 have hM:M=9218868437227405312:=rfl;have r:rungOf 4359484439294640128=4359484439294640128/\idx 4359484439294640128=((4359484439294640128:Nat):Int):=rung_idx (by decide)
 obtain⟨t,ht⟩:∃ t:Nat,t=967:=⟨_,rfl⟩
 have e1:=val_natAbs ((4359484439294640128:Nat):Int);rw [Int.natAbs_natCast,show 4359484439294640128=(t+1)*2^52 from by omega,mag_two_pow,<- Nat.pow_add,show 52+t=K from by omega] at e1;have e3:=(@val_lt_iff 0 ((4359484439294640128:Nat):Int)).2 (by omega);rw [val_zero] at e3;refine⟨by omega,by unfold fin;rw [r.1];omega,?_⟩;rw [r.2]
 have e4:((2^K:Nat):Int)=(2:Int)^K:=by push_cast;rfl
 rw [<- e4];rw [show ((t+1)*2^52:Nat)=4359484439294640128 from by omega] at e1
 omega
theorem order_of{x y:Nat}{m n:Int}(hx:Fl x m)(hy:Fl y n):FloatKind.f64.format.order x y=some (compare m n):=by
 have h:=order_real (x:=x) (y:=y) (Nat.le_of_lt hx.fin) (Nat.le_of_lt hy.fin);refine h.trans ?_;rw [<- hx.val,<- hy.val]
 congr 1
 rcases Int.lt_trichotomy (idx x) (idx y) with k | k | k
 ·rw [Int.compare_eq_lt.2 k,Int.compare_eq_lt.2 (val_lt_iff.2 k)]
 ·rw [k,Int.compare_eq_eq.2 rfl,Int.compare_eq_eq.2 rfl]
 ·rw [Int.compare_eq_gt.2 k,Int.compare_eq_gt.2 (val_lt_iff.2 k)]
theorem Fl_zero:Fl 0 0:=⟨by omega,by unfold fin;decide,by rw [show idx 0=0 from by decide,val_zero]⟩
theorem part55{s:Nat}{v:Int}{F:Nat}(hF:F=55)(h:Fl s v)(hs:553942754166571008<=rungOf s):∃ (q:Nat) (Z:Nat),FloatKind.f64.format.mul (rungOf s) 4359484439294640128=some q/\Fl q Z/\v.natAbs=Z*2^F/\2^54<=v.natAbs:=by
 have hM:M=9218868437227405312:=rfl;have hf:rungOf s<M:=h.fin;obtain⟨k,m,e,hk,hq⟩:=rung_form (rungOf s)
 have hmag:mag (rungOf s)=m*2^k:=by rw [e];exact mag_form k m hk (by omega)
 have hv:v.natAbs=m*2^k:=by rw [<- h.val,val_natAbs,idx_natAbs,hmag]
 have k1:55<=k:=by omega
 have m1:2^52<=m:=by omega
 obtain⟨l,hl⟩:∃ l,k=F+l:=⟨k - F,by omega⟩
 obtain⟨U,hU⟩:∃ U:Nat,U=1074:=⟨_,rfl⟩
 obtain⟨K,hK⟩:∃ K:Nat,K=1019:=⟨_,rfl⟩
 have fa:=Fl_abs h
 have e1:v.natAbs=m*2^l*2^F:=by rw [hv,hl,Nat.add_comm F l,Nat.pow_add,<- Nat.mul_assoc]
 have e2:(v.natAbs:Int)*2^K=(m*2^l:Nat)*2^U:=by
  have e3:v.natAbs*2^K=m*2^l*2^U:=by rw [e1,Nat.mul_assoc,<- Nat.pow_add,show F+K=U from by omega]
  have e4:((v.natAbs*2^K:Nat):Int)=((m*2^l*2^U:Nat):Int):=by rw [e3]
  rw [Int.natCast_mul,Int.natCast_mul (m*2^l),Int.natCast_pow,Int.natCast_pow] at e4
  exact e4
 have hrep:Rep ((m*2^l:Nat):Int):=rep_iff.2 (by
  rcases Nat.lt_or_ge m (2^53) with c | c
  ·exact⟨m,l,c,Int.natAbs_natCast _⟩
  ·refine⟨2^52,l+1,by omega,?_⟩
   have p2:2^(l+1)=2*2^l:=by rw [Nat.pow_succ,Nat.mul_comm]
   rw [Int.natAbs_natCast,p2,<- Nat.mul_assoc,show m=2^52*2 from by omega])
 have hb:((m*2^l:Nat):Int).natAbs<=2^2090:=by
  have hk2:k<=2046:=by omega
  rw [Int.natAbs_natCast]
  obtain⟨Q,hQ⟩:∃ Q:Nat,Q=2090:=⟨_,rfl⟩
  rw [<- hQ];refine Nat.le_trans (Nat.mul_le_mul (show m<=2^53 by omega) (Nat.le_refl _)) ?_;rw [<- Nat.pow_add]
  exact Nat.pow_le_pow_right (by omega) (by omega)
 obtain⟨q,hq1,fq⟩:=Fl.mul_at (Nat.le_refl 2090) hU fa (c55 hK) e2 hb;rw [R_of_rep hrep] at fq;refine⟨q,_,hq1,fq,e1,?_⟩;rw [hv];have p3:2^55<=2^k:=Nat.pow_le_pow_right (by omega) k1
 exact Nat.le_trans (show 2^54<=2^52*2^55 by omega) (Nat.mul_le_mul m1 p3)
theorem cmp_ne{a:Int}(h:a≠0):compare a 0=.lt\/compare a 0=.gt:=by
 rcases Int.lt_or_gt_of_ne h with k | k
 ·exact .inl (Int.compare_eq_lt.2 k)
 ·exact .inr (Int.compare_eq_gt.2 k)
theorem small_ord{s:Nat}(hs:rungOf s<=M):(FloatKind.f64.format.order (rungOf s) 553942754166571008 == some Ordering.lt)=decide (rungOf s<553942754166571008):=by
 have hM:M=9218868437227405312:=rfl;have r0:=rung_idx (b:=rungOf s) (by omega);have r1:rungOf 553942754166571008=553942754166571008/\idx 553942754166571008=((553942754166571008:Nat):Int):=rung_idx (by decide);have h:=order_real (x:=rungOf s) (y:=553942754166571008) (show rungOf (rungOf s)<=M by rw [r0.1];exact hs) (show rungOf 553942754166571008<=M by rw [r1.1];omega);rw [r0.2,r1.2] at h;have h':FloatKind.f64.format.order (rungOf s) 553942754166571008=some (compare ((rungOf s:Nat):Int) ((553942754166571008:Nat):Int)):=h;rw [h']
 by_cases k:rungOf s<553942754166571008
 ·rw [decide_eq_true k,Int.compare_eq_lt.2 (by omega)];rfl
 ·rw [decide_eq_false k]
  rcases Int.lt_or_eq_of_le (show ((553942754166571008:Nat):Int)<=((rungOf s:Nat):Int) by omega) with c | c
  ·rw [Int.compare_eq_gt.2 c];rfl
  ·rw [Int.compare_eq_eq.2 c.symm];rfl
theorem rfma_fin(d:Int)(x y z:Nat)(w:World)(hd:d=-1\/d=1)(hx:x<18446744073709551616)(hy:y<18446744073709551616)(hz:z<18446744073709551616)(rx:rungOf x<M)(ry:rungOf y<M)(rz:rungOf z<M):
  Rt 162 #[.int .i64 d,.float .f64 x,.float .f64 y,.float .f64 z] (.float .f64 (pat (rndI d (fl (idx x)*fl (idx y)+fl (idx z))))) w:=by
 have hM:M=9218868437227405312:=rfl;obtain⟨p,hp,his⟩:=mul_fin (show fin x from rx) (show fin y from ry);have hr:=near_range (val (idx x)*val (idx y)) 1074;have hpn:=idx_natAbs p;rw [his.idx] at hpn
 have hp2:rungOf p<=M:=by omega
 obtain⟨gz,hgz⟩:∃ v,(FloatKind.f64.format.order (rungOf z) 8660422083433463808 == some Ordering.gt)=v:=⟨_,rfl⟩
 by_cases hm:mid x=true/\mid y=true/\mid p=true/\gz=false
 ·obtain⟨mx,my,mp,g0⟩:=hm;subst g0
  obtain⟨U,hU⟩:∃ U:Nat,U=1074:=⟨_,rfl⟩
  obtain⟨T,hT⟩:∃ U:Nat,U=1974:=⟨_,rfl⟩
  obtain⟨F,hF⟩:∃ U:Nat,U=55:=⟨_,rfl⟩
  obtain⟨e,HMI,N,hN,fp,fe⟩:=quick_prod2 hx hy mx my hp mp hU
  have gzz:rungOf z<=8660422083433463808:=by
   rcases great_ord (r:=rungOf z) (by omega) with h | h
   ·exact h.1
   ·rw [h.2] at hgz;cases hgz
  have mp':=mid_iff.1 mp;have bz:=not_great (x:=z) (t:=1922) (T:=T) (by omega) (by omega);have bp:=not_great (x:=p) (t:=1922) (T:=T) (by omega) (by omega);rw [fp.val] at bp;have fz:=Fl_self hz rz;obtain⟨s,t,a,b,c,f,q1,q2,q3,q4,q5,q6,fs,ff⟩:=quick_sum (T:=T) (by omega) fp fz bp bz
  obtain⟨n,hn⟩:∃ n,R N+val (idx z)=n:=⟨_,rfl⟩
  rw [hn] at fs ff;have of:=order_of ff Fl_zero;have oe:=order_of fe Fl_zero;have osm:=small_ord (s:=s) (Nat.le_of_lt fs.fin)
  have ev:fl (idx x)*fl (idx y)+fl (idx z)=((N+val (idx z):Int):Rat)*2^(-1074:Int):=by
   rw [fl_mul_units hU hN,Rat.intCast_add];unfold fl;grind
  have good:(N - R N=0\/(n - R n=0/\2^54<=(R n).natAbs/\(N - R N).natAbs*2^55<(R n).natAbs))->∃ g,FloatKind.f64.format.add e f=some g/\∀ W,Calls Tryz.prog 186 #[.int .i64 d,.float .f64 s,.float .f64 g] W fun e w'=>e=.returned (.float .f64 (pat (rndI d (fl (idx x)*fl (idx y)+fl (idx z)))))/\W=w':=fun hc=>by
   obtain⟨g,hg,gM,hnn⟩:=fma_good hd hn.symm fs ff fe hc;refine⟨g,hg,fun W=>?_⟩;have h:=nudge_any d s g W hd fs.lt fs.fin gM;rw [hnn,<- ev] at h
   exact h
  by_cases sm:rungOf s<553942754166571008
  ·rw [decide_eq_true sm] at osm;refine rfma_exact2 d x y z p e s t a b c f 0 true _ _ .eq w hd hx hy hz rx ry rz hp his.lt hp2 mx my mp hgz HMI q1 q2 q3 q4 q5 q6 fe.lt fs.lt of oe osm ?_
   by_cases k1:n - R n=0
   ·exact .inr (.inr (.inl ⟨Int.compare_eq_eq.2 k1,rfl⟩))
   ·by_cases k2:N - R N=0
    ·exact .inr (.inl ⟨cmp_ne k1,Int.compare_eq_eq.2 k2,rfl⟩)
    ·exact .inl ⟨cmp_ne k1,cmp_ne k2⟩
  ·rw [decide_eq_false sm] at osm;obtain⟨q,Z,hq,fq,hZ,h54⟩:=part55 hF fs (by omega);have o2:=order_of (Fl_abs fe) fq
   by_cases k1:n - R n=0
   ·rcases Int.lt_trichotomy ((N - R N).natAbs:Int) (Z:Int) with k | k | k
    ·have hlt:(N - R N).natAbs*2^55<(R n).natAbs:=by
      rw [hZ,hF]
      exact (Nat.mul_lt_mul_right (Nat.two_pow_pos 55)).2 (by omega)
     obtain⟨g,hg,hN2⟩:=good (.inr ⟨k1,h54,hlt⟩)
     exact rfma_quick d x y z p e s t a b c f g q _ _ _ _ w hx hy hz rx ry rz hp his.lt hp2 mx my mp hgz HMI q1 q2 q3 q4 q5 q6 fe.lt fs.lt of oe osm hq o2 (.inr ⟨Int.compare_eq_eq.2 k1,Int.compare_eq_lt.2 k⟩) hg hN2
    ·exact rfma_exact2 d x y z p e s t a b c f q false _ _ _ w hd hx hy hz rx ry rz hp his.lt hp2 mx my mp hgz HMI q1 q2 q3 q4 q5 q6 fe.lt fs.lt of oe osm (.inr (.inr (.inr ⟨Int.compare_eq_eq.2 k1,rfl,hq,o2,.inl (Int.compare_eq_eq.2 k)⟩)))
    ·exact rfma_exact2 d x y z p e s t a b c f q false _ _ _ w hd hx hy hz rx ry rz hp his.lt hp2 mx my mp hgz HMI q1 q2 q3 q4 q5 q6 fe.lt fs.lt of oe osm (.inr (.inr (.inr ⟨Int.compare_eq_eq.2 k1,rfl,hq,o2,.inr (Int.compare_eq_gt.2 k)⟩)))
   ·by_cases k2:N - R N=0
    ·obtain⟨g,hg,hN2⟩:=good (.inl k2)
     exact rfma_quick d x y z p e s t a b c f g q _ _ _ _ w hx hy hz rx ry rz hp his.lt hp2 mx my mp hgz HMI q1 q2 q3 q4 q5 q6 fe.lt fs.lt of oe osm hq o2 (.inl ⟨cmp_ne k1,Int.compare_eq_eq.2 k2⟩) hg hN2
    ·exact rfma_exact2 d x y z p e s t a b c f q false _ _ .eq w hd hx hy hz rx ry rz hp his.lt hp2 mx my mp hgz HMI q1 q2 q3 q4 q5 q6 fe.lt fs.lt of oe osm (.inl ⟨cmp_ne k1,cmp_ne k2⟩)
 ·exact rfma_exact1 d x y z p w hd hx hy hz rx ry rz hp his.lt hp2 gz hgz hm
def fm(d i j k:Int):Int:=if i=M\/i=-(M:Int)\/j=M\/j=-(M:Int) then (if (decide (i<0) ^^ decide (j<0))=true then -(M:Int) else M) else rndI d (fl i*fl j+fl k)
theorem rfma_pat(d i j k:Int)(w:World)(hd:d=-1\/d=1)(hi:-(M:Int)<=i/\i<=M)(hj:-(M:Int)<=j/\j<=M)(hk:-(M:Int)<k/\k<M)(ni:i≠0)(nj:j≠0):
  Rt 162 #[.int .i64 d,.float .f64 (pat i),.float .f64 (pat j),.float .f64 (pat k)] (.float .f64 (pat (fm d i j k))) w:=by
 have hM:M=9218868437227405312:=rfl;have px:=pat_lt hi.1 hi.2;have py:=pat_lt hj.1 hj.2;have pz:=pat_lt (i:=k) (by omega) (by omega);have rx:=rung_pat hi.1 hi.2;have ry:=rung_pat hj.1 hj.2;have rz:=rung_pat (i:=k) (by omega) (by omega);unfold fm
 by_cases h:i=M\/i=-(M:Int)\/j=M\/j=-(M:Int)
 ·rw [if_pos h];have hm:=mul_inf (x:=pat i) (y:=pat j) (by omega) (by omega) (by omega) (by omega) (by omega);rw [sgn_pat hi ni,sgn_pat hj nj] at hm
  obtain⟨v,hv⟩:∃ k:Int,(if (decide (i<0) ^^ decide (j<0))=true then -(M:Int) else M)=k:=⟨_,rfl⟩
  have hv2:v=M\/v=-(M:Int):=by rw [<- hv];split<;>omega
  rw [hv] at hm ⊢;have rv':=rung_pat (i:=v) (by omega) (by omega);have ha:=add_inf_left (x:=pat v) (y:=pat k) (pat_lt (by omega) (by omega)) (by omega) (by omega) (fun h=>by omega);rw [idx_pat (by omega) (by omega)] at ha;refine rfma_inf d (pat i) (pat j) (pat k) (pat v) (pat v) w px py pz (by omega) (by omega) ?_ hm ha
  by_cases h2:rungOf (pat i)=M
  ·rw [decide_eq_true h2];rfl
  ·rw [decide_eq_true (show rungOf (pat j)=M by omega),Bool.or_true]
 ·rw [if_neg h]
  have e:rndI d (fl i*fl j+fl k)=rndI d (fl (idx (pat i))*fl (idx (pat j))+fl (idx (pat k))):=by rw [idx_pat hi.1 hi.2,idx_pat hj.1 hj.2,idx_pat (by omega) (by omega)]
  rw [e]
  exact rfma_fin d (pat i) (pat j) (pat k) w hd px py pz (by omega) (by omega) (by omega)
end
section
open Go.RowKit
attribute [local go_sem] run_store_float run_negf
set_option maxRecDepth 8000 in
theorem without_at(c u v:Nat)(oi:Bool)(o1 o2:Ordering)(w:World)(hi:∀ W,Calls Tryz.prog 161 #[.float .f64 c,.int .i64 0] W fun e w'=>e=.returned (.bool oi)/\W=w')(h1:FloatKind.f64.format.order u 0=some o1)(h2:FloatKind.f64.format.order v 0=some o2)(hc:oi=true\/(oi=false/\o1=.eq)\/(oi=false/\(o1=.lt\/o1=.gt)/\o2=.eq)):
  Rt 92 #[.float .f64 c,.float .f64 u,.float .f64 v] (Zf c c) w:=by
 have HA:=Hd fun W=>at_any c W;have HI:=Hd hi;clear hi
 rcases hc with rfl | ⟨rfl,rfl⟩ | ⟨rfl,rfl | rfl,rfl⟩
 all_goals
  have LL:=li1 w (Zv 0 0) 78
  go_enter Tryz.func92,Tryz.ntmps92
  go_wp2_with fail;refine cy (HI.out _) ?_;go_wp2_with fail;refine cx (HA.out _) fun wk hb=>?_;replace LL:=stL LL hb;clear hb h1 h2;replace LL:=Hd (LL.out.loose0 rfl);obtain⟨ha6_0,hf6_0,ha6_1,hf6_1⟩:=(LL.out.has 0 rfl).sf2;have LF:=Hd (LL.out.wr [.float .f64 c,.float .f64 c]);obtain⟨hk6_0,hk6_1⟩:=(LF.out.blk 0 rfl).c2
  simp [sets] at hk6_0 hk6_1
  clear LL;go_wp2;refine bodyPost_ret (v:=Zf c c) (by simp [results,Tryz.results92,go_sem,hk6_0,hk6_1]) rfl ?_
  exact⟨rfl,LF.out.b⟩
set_option maxRecDepth 8000 in
theorem without_fma(c u v r1 r2:Nat)(o1 o2:Ordering)(w:World)(hi:∀ W,Calls Tryz.prog 161 #[.float .f64 c,.int .i64 0] W fun e w'=>e=.returned (.bool false)/\W=w')(h1:FloatKind.f64.format.order u 0=some o1)(h2:FloatKind.f64.format.order v 0=some o2)(k1:o1=.lt\/o1=.gt)(k2:o2=.lt\/o2=.gt)(hf1:∀ W,Rt 162 #[.int .i64 (-1),.float .f64 (Op.negFloat .f64 u),.float .f64 v,.float .f64 c] (.float .f64 r1) W)(hf2:∀ W,Rt 162 #[.int .i64 1,.float .f64 (Op.negFloat .f64 u),.float .f64 v,.float .f64 c] (.float .f64 r2) W):
  Rt 92 #[.float .f64 c,.float .f64 u,.float .f64 v] (Zf r1 r2) w:=by
 have HI:=Hd hi;have HF1:=Hd hf1;have HF2:=Hd hf2;clear hi hf1 hf2
 rcases k1 with rfl | rfl<;>rcases k2 with rfl | rfl
 all_goals
  have LL:=li1 w (Zv 0 0) 78
  go_enter Tryz.func92,Tryz.ntmps92
  go_wp2_with fail;refine cy (HI.out _) ?_;go_wp2_with fail;refine cx (HF1.out _) fun wk hb=>?_;replace LL:=stL LL hb;clear hb h1 h2;go_wp2_with fail;refine cx (HF2.out _) fun wk hb=>?_;replace LL:=stL LL hb;clear hb;replace LL:=Hd (LL.out.loose0 rfl);obtain⟨ha6_0,hf6_0,ha6_1,hf6_1⟩:=(LL.out.has 0 rfl).sf2;have LF:=Hd (LL.out.wr [.float .f64 r1,.float .f64 r2]);obtain⟨hk6_0,hk6_1⟩:=(LF.out.blk 0 rfl).c2
  simp [sets] at hk6_0 hk6_1
  clear LL;go_wp2;refine bodyPost_ret (v:=Zf r1 r2) (by simp [results,Tryz.results92,go_sem,hk6_0,hk6_1]) rfl ?_
  exact⟨rfl,LF.out.b⟩
def wt(c u v:Int):Int × Int:=if c=M\/c=-(M:Int)\/u=0\/v=0 then (c,c) else (fm (-1) (-u) v c,fm 1 (-u) v c)
theorem wt_rng{c u v:Int}(h:-(M:Int)<=c/\c<=M):(-(M:Int)<=(wt c u v).1/\(wt c u v).1<=M)/\(-(M:Int)<=(wt c u v).2/\(wt c u v).2<=M):=by
 have hM:=M_val;unfold wt fm;have a:=rndI_down (fl (-u)*fl v+fl c);have b:=rndI_up (fl (-u)*fl v+fl c)
 split
 ·exact⟨h,h⟩
 ·dsimp only
  split
  ·split<;>omega
  ·omega
theorem without_any(c u v:Int)(w:World)(hc:-(M:Int)<=c/\c<=M)(hu:-(M:Int)<=u/\u<=M)(hv:-(M:Int)<=v/\v<=M):
  Rt 92 #[.float .f64 (pat c),.float .f64 (pat u),.float .f64 (pat v)] (Zf (pat (wt c u v).1) (pat (wt c u v).2)) w:=by
 have hM:=M_val;have I:=fun W=>isinff (pat c) W (pat_lt hc.1 hc.2) (by rw [rung_pat hc.1 hc.2];omega);rw [rung_pat hc.1 hc.2] at I;have o1:=ord0 hu;have o2:=ord0 hv;unfold wt
 by_cases h:c=M\/c=-(M:Int)\/u=0\/v=0
 ·rw [if_pos h];refine without_at (pat c) (pat u) (pat v) _ _ _ w I o1 o2 ?_
  by_cases h1:c.natAbs=M
  ·exact .inl (decide_eq_true h1)
  ·by_cases h2:u=0
   ·exact .inr (.inl ⟨decide_eq_false h1,Int.compare_eq_eq.2 h2⟩)
   ·exact .inr (.inr ⟨decide_eq_false h1,cmp_ne h2,Int.compare_eq_eq.2 (by omega)⟩)
 ·rw [if_neg h,decide_eq_false (show ¬ c.natAbs=M by omega)] at *;have n:=neg_pat hu.1 hu.2 (by omega);have F1:=fun W=>rfma_pat (-1) (-u) v c W (.inl rfl) (by omega) hv (by omega) (by omega) (by omega);have F2:=fun W=>rfma_pat 1 (-u) v c W (.inr rfl) (by omega) hv (by omega) (by omega) (by omega);rw [<- n] at F1 F2
  exact without_fma (pat c) (pat u) (pat v) _ _ _ _ w I o1 o2 (cmp_ne (by omega)) (cmp_ne (by omega)) F1 F2
end
def fad(i1 j1 i2 j2 c1 c2 i j:Int):Int × Int:=
 if j1<i1\/j2<i2\/c2<c1\/j<i then ((M:Int),-(M:Int))
 else ct i j (min (min (min (min M (wt c1 i1 i2).1) (wt c1 i1 j2).1) (wt c1 j1 i2).1) (wt c1 j1 j2).1) (min (min (min (min M (wt c1 i1 i2).2) (wt c1 i1 j2).2) (wt c1 j1 i2).2) (wt c1 j1 j2).2)
  (max (max (max (max (-(M:Int)) (wt c2 i1 i2).1) (wt c2 i1 j2).1) (wt c2 j1 i2).1) (wt c2 j1 j2).1) (max (max (max (max (-(M:Int)) (wt c2 i1 i2).2) (wt c2 i1 j2).2) (wt c2 j1 i2).2) (wt c2 j1 j2).2)
section
open Go.RowKit
def Pg(u w:Int)(t:Rat):Prop:=
 (u=0\/w=0->t<=0)/\(u≠0->w≠0->(u=M\/u=-(M:Int)\/w=M\/w=-(M:Int))->(0<u↔0<w))/\(u≠M->u≠-(M:Int)->w≠M->w≠-(M:Int)->t<=fl u*fl w)
theorem fl_nn{i:Int}(h:0<=i):0<=fl i:=by have:=fl_le_iff.2 h;rwa [fl_zero] at this
theorem fl_np{i:Int}(h:i<=0):fl i<=0:=by have:=fl_le_iff.2 h;rwa [fl_zero] at this
theorem mul_le_r{a b c:Rat}(h:a<=b)(hc:0<=c):a*c<=b*c:=by
 rw [Rat.mul_comm a,Rat.mul_comm b];exact Rat.mul_le_mul_of_nonneg_left h hc
theorem mul_le_n{a b c:Rat}(h:a<=b)(hc:c<=0):b*c<=a*c:=by
 have:=mul_le_r (a:=a) (b:=b) (c:=-c) h (by grind);grind
theorem corner{i1 j1 i2 j2:Int}{a b:Rat}(h1:Ne i1 j1)(h2:Ne i2 j2)(ha:In i1 j1 a)(hb:In i2 j2 b):∃ u w:Int,(u=i1\/u=j1)/\(w=i2\/w=j2)/\Pg u w (a*b):=by
 have hM:=M_val;unfold Ne at h1 h2
 by_cases b0:0<=b
 ·have j2n:0<=j2:=by
   by_cases c:j2=M
   ·omega
   ·have:=hb.hi (by omega)
    by_cases z:0<=j2
    ·exact z
    ·exfalso;have:=fl_lt_iff.2 (show j2<0 by omega);rw [fl_zero] at this;grind
  by_cases j1n:0<=j1
  ·refine⟨j1,j2,.inr rfl,.inr rfl,?_,fun _ _ _=>by omega,fun c1 _ c3 _=>?_⟩
   ·rintro (e | e)
    ·have:=ha.hi (by omega);rw [e,fl_zero] at this;have:=mul_le_r this b0
     rwa [Rat.zero_mul] at this
    ·have:=hb.hi (by omega);rw [e,fl_zero] at this;rw [show b=0 by grind,Rat.mul_zero];grind
   ·have e1:=mul_le_r (ha.hi (by omega)) b0;have e2:=Rat.mul_le_mul_of_nonneg_left (hb.hi (by omega)) (fl_nn j1n)
    grind
  ·have e0:=ha.hi (by omega);have en:=fl_np (show j1<=0 by omega);have e1:=mul_le_r e0 b0;have e2:=mul_le_r (show fl j1<=0 from en) b0;refine⟨j1,i2,.inr rfl,.inl rfl,fun _=>by rw [Rat.zero_mul] at e2;grind,fun _ _ _=>by omega,fun _ _ _ c4=>?_⟩;have e3:=mul_le_n (hb.lo (by omega)) en;rw [Rat.mul_comm b,Rat.mul_comm (fl i2)] at e3
   grind
 ·have i2n:i2<0:=by
   by_cases c:i2=-(M:Int)
   ·omega
   ·have:=hb.lo (by omega)
    by_cases z:i2<0
    ·exact z
    ·exfalso;have:=fl_nn (show 0<=i2 by omega);grind
  by_cases i1n:0<=i1
  ·have e0:=ha.lo (by omega);have ep:=fl_nn i1n;have e1:=mul_le_n e0 (show b<=0 by grind);have e2:=mul_le_n ep (show b<=0 by grind);refine⟨i1,j2,.inl rfl,.inr rfl,fun _=>by rw [Rat.zero_mul] at e2;grind,fun _ _ _=>by omega,fun _ _ c3 _=>?_⟩;have e3:=Rat.mul_le_mul_of_nonneg_left (hb.hi (by omega)) ep
   grind
  ·refine⟨i1,i2,.inl rfl,.inl rfl,fun h=>by omega,fun _ _ _=>by omega,fun _ c2 _ c4=>?_⟩;have en:=fl_np (show i1<=0 by omega);have e1:=mul_le_n (ha.lo (by omega)) (show b<=0 by grind);have e3:=mul_le_n (hb.lo (by omega)) en;rw [Rat.mul_comm b,Rat.mul_comm (fl i2)] at e3
   grind
theorem wt_lo{c u w:Int}{v t:Rat}(hc:-(M:Int)<=c/\c<M)(hu:-(M:Int)<=u/\u<=M)(hw:-(M:Int)<=w/\w<=M)(h:-(M:Int)<c->fl c<=v+t)(hp:Pg u w t):(wt c u w).1<=rndI (-1) v/\(wt c u w).2<=rndI 1 v:=by
 have hM:=M_val;have a:=rndI_down v;have b:=rndI_up v;have r:=rndI_le v;obtain⟨p1,p2,p3⟩:=hp;unfold wt fm
 by_cases c1:c=M\/c=-(M:Int)\/u=0\/w=0
 ·rw [if_pos c1]
  dsimp only
  by_cases c2:c=-(M:Int)
  ·omega
  ·have k:=h (by omega);have t0:=p1 (by omega);have:=(a.2.2 c (by omega) hc.2).2 (by grind)
   omega
 ·rw [if_neg c1]
  dsimp only
  by_cases c2:-u=M\/-u=-(M:Int)\/w=M\/w=-(M:Int)
  ·rw [if_pos c2,if_pos c2];have s:=p2 (by omega) (by omega) (by omega)
   have e:(decide (-u<0) ^^ decide (w<0))=true:=by
    by_cases z:0<u
    ·rw [decide_eq_true (show -u<0 by omega),decide_eq_false (by omega)];rfl
    ·rw [decide_eq_false (show ¬ -u<0 by omega),decide_eq_true (by omega)];rfl
   rw [if_pos e]
   omega
  ·rw [if_neg c2,if_neg c2,fl_neg];have k:=h (by omega);have q:=p3 (by omega) (by omega) (by omega) (by omega)
   have e:-fl u*fl w+fl c<=v:=by grind
   exact⟨rndI_mono (.inl rfl) e,rndI_mono (.inr rfl) e⟩
theorem wt_hi{c u w:Int}{v t:Rat}(hc:-(M:Int)<c/\c<=M)(hu:-(M:Int)<=u/\u<=M)(hw:-(M:Int)<=w/\w<=M)(h:c<M->v+t<=fl c)(hp:Pg (-u) w (-t)):rndI (-1) v<=(wt c u w).1/\rndI 1 v<=(wt c u w).2:=by
 have hM:=M_val;have a:=rndI_down v;have b:=rndI_up v;have r:=rndI_le v;obtain⟨p1,p2,p3⟩:=hp;unfold wt fm
 by_cases c1:c=M\/c=-(M:Int)\/u=0\/w=0
 ·rw [if_pos c1]
  dsimp only
  by_cases c2:c=M
  ·omega
  ·have k:=h (by omega);have t0:=p1 (by omega);have:=(b.2.2 c hc.1 (by omega)).2 (by grind)
   omega
 ·rw [if_neg c1]
  dsimp only
  by_cases c2:-u=M\/-u=-(M:Int)\/w=M\/w=-(M:Int)
  ·rw [if_pos c2,if_pos c2];have s:=p2 (by omega) (by omega) (by omega)
   have e:¬ (decide (-u<0) ^^ decide (w<0))=true:=by
    by_cases z:0 < -u
    ·rw [decide_eq_false (show ¬ -u<0 by omega),decide_eq_false (by omega)];decide
    ·rw [decide_eq_true (show -u<0 by omega),decide_eq_true (by omega)];decide
   rw [if_neg e]
   omega
  ·rw [if_neg c2,if_neg c2];have k:=h (by omega);have q:=p3 (by omega) (by omega) (by omega) (by omega)
   have e:v<=fl (-u)*fl w+fl c:=by grind
   exact⟨rndI_mono (.inl rfl) e,rndI_mono (.inr rfl) e⟩
end
section
open Go.RowKit
attribute [local go_sem] run_store_float run_eqf
end
section
open Go.RowKit
attribute [local go_sem] run_store_float
theorem not_gt{i j:Int}(hi:-(M:Int)<=i/\i<=M)(hj:-(M:Int)<=j/\j<=M)(h:¬ j<i):(FloatKind.f64.format.order (pat i) (pat j) == some Ordering.gt)=false:=by
 rw [order_pat hi.1 hi.2 hj.1 hj.2]
 rcases Int.lt_trichotomy i j with h2 | h2 | h2
 ·rw [Int.compare_eq_lt.2 h2];rfl
 ·rw [Int.compare_eq_eq.2 h2];rfl
 ·exact absurd h2 h
theorem not_lt'{i j:Int}(hi:-(M:Int)<=i/\i<=M)(hj:-(M:Int)<=j/\j<=M)(h:¬ i<j):(FloatKind.f64.format.order (pat i) (pat j) == some Ordering.lt)=false:=by
 rw [order_pat hi.1 hi.2 hj.1 hj.2]
 rcases Int.lt_trichotomy i j with h2 | h2 | h2
 ·exact absurd h2 h
 ·rw [Int.compare_eq_eq.2 h2];rfl
 ·rw [Int.compare_eq_gt.2 h2];rfl
theorem rcut_gt(i j pd pu qd qu:Nat)(w:World)(o1:FloatKind.f64.format.order i qd=some .gt):
  Rt 77 #[Zf i j,Zf pd pu,Zf qd qu,.bool false] (Zf 9218868437227405312 18442240474082181120) w:=by
 obtain⟨LB0,LG0_0,LG1_0,LG2_0,LR⟩:=bx4 w (Zv i j) 28 (Zv pd pu) 78 (Zv qd qu) 78 (Zv 0 0) 28;have LR0:=Hd (HasBlk.of (n:=2) LR.out rfl rfl);clear LR;have HE:=Hd emptyf
 go_enter Tryz.func77,Tryz.ntmps77
 go_wp2_with fail;refine cx (HE.out _) fun w1 hb1=>?_;have LB1:=stB LB0 hb1 LB0.out.size;have LR1:=stR LR0 hb1;have LG0_1:=stG LG0_0 hb1;have LG1_1:=stG LG1_0 hb1;have LG2_1:=stG LG2_0 hb1;clear LB0 LR0 LG0_0 LG1_0 LG2_0;clear hb1 HE;obtain⟨ha0,hf0,ha1,hf1⟩:=LR1.out.sf2;obtain⟨hk0,hk1⟩:=LR1.out.sc2 (.float .f64 9218868437227405312) (.float .f64 18442240474082181120);have F:=Hd (below_sets (w0:=w) (r:=(w.heap.size+3)) (by omega) [.float .f64 9218868437227405312,.float .f64 18442240474082181120] 0 _ LB1.out)
 simp [sets] at hk0 hk1
 go_wp2;refine bodyPost_ret (v:=Zf 9218868437227405312 18442240474082181120) (by simp [results,Tryz.results77,go_sem,hk0,hk1]) rfl ?_
 exact⟨rfl,F.out⟩
theorem rcut_lt(i j pd pu qd qu:Nat)(w:World)(o1:(FloatKind.f64.format.order i qd == some Ordering.gt)=false)(o2:FloatKind.f64.format.order j pu=some .lt):
  Rt 77 #[Zf i j,Zf pd pu,Zf qd qu,.bool false] (Zf 9218868437227405312 18442240474082181120) w:=by
 obtain⟨LB0,LG0_0,LG1_0,LG2_0,LR⟩:=bx4 w (Zv i j) 28 (Zv pd pu) 78 (Zv qd qu) 78 (Zv 0 0) 28;have LR0:=Hd (HasBlk.of (n:=2) LR.out rfl rfl);clear LR;have HE:=Hd emptyf
 go_enter Tryz.func77,Tryz.ntmps77
 go_wp2_with fail;refine cx (HE.out _) fun w1 hb1=>?_;have LB1:=stB LB0 hb1 LB0.out.size;have LR1:=stR LR0 hb1;have LG0_1:=stG LG0_0 hb1;have LG1_1:=stG LG1_0 hb1;have LG2_1:=stG LG2_0 hb1;clear LB0 LR0 LG0_0 LG1_0 LG2_0;clear hb1 HE;obtain⟨ha0,hf0,ha1,hf1⟩:=LR1.out.sf2;obtain⟨hk0,hk1⟩:=LR1.out.sc2 (.float .f64 9218868437227405312) (.float .f64 18442240474082181120);have F:=Hd (below_sets (w0:=w) (r:=(w.heap.size+3)) (by omega) [.float .f64 9218868437227405312,.float .f64 18442240474082181120] 0 _ LB1.out)
 simp [sets] at hk0 hk1
 go_wp2;refine bodyPost_ret (v:=Zf 9218868437227405312 18442240474082181120) (by simp [results,Tryz.results77,go_sem,hk0,hk1]) rfl ?_
 exact⟨rfl,F.out⟩
theorem rcut_in(i j pd pu qd qu a b:Nat)(w:World)(o1:(FloatKind.f64.format.order i qd == some Ordering.gt)=false)(o2:(FloatKind.f64.format.order j pu == some Ordering.lt)=false)(m1:∀ W ts t,(Builtin.max_ ts t (Zv i pd)).run Tryz.prog W=.ok (.float .f64 a) W)(m2:∀ W ts t,(Builtin.min_ ts t (Zv j qu)).run Tryz.prog W=.ok (.float .f64 b) W):
  Rt 77 #[Zf i j,Zf pd pu,Zf qd qu,.bool false] (Zf a b) w:=by
 obtain⟨LB0,LG0_0,LG1_0,LG2_0,LR⟩:=bx4 w (Zv i j) 28 (Zv pd pu) 78 (Zv qd qu) 78 (Zv 0 0) 28;have LR0:=Hd (HasBlk.of (n:=2) LR.out rfl rfl);clear LR
 go_enter Tryz.func77,Tryz.ntmps77
 go_wp2_with fail
 go_quiet (fail)
 have LB1:=Hd (below_drewN LB0.out nq);have LR1:=Hd (show HasBlk ((((((w.alloc (.cells (Zv i j) 28)).alloc (.cells (Zv pd pu) 78)).alloc (.cells (Zv qd qu) 78)).alloc (.cells (Zv 0 0) 28))).drewN nq) (w.heap.size+3) 28 2 from LR0.out);have LG0_1:=Hd (LG0_0.out.drewN nq);have LG1_1:=Hd (LG1_0.out.drewN nq);have LG2_1:=Hd (LG2_0.out.drewN nq);clear LB0 LR0 LG0_0 LG1_0 LG2_0
 obtain⟨W1,hW1⟩:∃ X,(((((w.alloc (.cells (Zv i j) 28)).alloc (.cells (Zv pd pu) 78)).alloc (.cells (Zv qd qu) 78)).alloc (.cells (Zv 0 0) 28))).drewN nq=X:=⟨_,rfl⟩
 rw [hW1] at LB1 LR1 LG0_1 LG1_1 LG2_1 ⊢;clear hW1;clear o1 o2;obtain⟨q0_0,q0_1⟩:=LG0_1.out.c2;obtain⟨q1_0,q1_1⟩:=LG1_1.out.c2;obtain⟨q2_0,q2_1⟩:=LG2_1.out.c2;obtain⟨ha0,hf0,ha1,hf1⟩:=LR1.out.sf2;obtain⟨hk0,hk1⟩:=LR1.out.sc2 (.float .f64 a) (.float .f64 b);have F:=Hd (below_sets (w0:=w) (r:=(w.heap.size+3)) (by omega) [.float .f64 a,.float .f64 b] 0 _ LB1.out)
 simp [sets] at hk0 hk1
 go_wp2;refine bodyPost_ret (v:=Zf a b) (by simp [results,Tryz.results77,go_sem,hk0,hk1]) rfl ?_
 exact⟨rfl,F.out⟩
theorem rcut_any(i j pd pu qd qu:Int)(w:World)(hi:-(M:Int)<=i/\i<=M)(hj:-(M:Int)<=j/\j<=M)(h1:-(M:Int)<=pd/\pd<=M)(h2:-(M:Int)<=pu/\pu<=M)(h3:-(M:Int)<=qd/\qd<=M)(h4:-(M:Int)<=qu/\qu<=M):
  Calls Tryz.prog 77 #[Zf (pat i) (pat j),Zf (pat pd) (pat pu),Zf (pat qd) (pat qu),.bool false] w
   fun e w'=>e=.returned (Zf (pat (ct i j pd pu qd qu).1) (pat (ct i j pd pu qd qu).2))/\Below w.heap.size w w':=by
 unfold ct
 by_cases c1:qd<i
 ·rw [if_pos (.inl c1),pat_max,pat_min]
  exact rcut_gt _ _ _ _ _ _ w (by rw [order_pat hi.1 hi.2 h3.1 h3.2,Int.compare_eq_gt.2 c1])
 ·by_cases c2:j<pu
  ·rw [if_pos (.inr c2),pat_max,pat_min]
   exact rcut_lt _ _ _ _ _ _ w (not_gt hi h3 c1) (by rw [order_pat hj.1 hj.2 h2.1 h2.2,Int.compare_eq_lt.2 c2])
  ·rw [if_neg (by omega)]
   exact rcut_in _ _ _ _ _ _ _ _ w (not_gt hi h3 c1) (not_lt' hj h2 c2) (fun W ts t=>run_maxf hi h1 W ts t) (fun W ts t=>run_minf hj h4 W ts t)
end
section
open Go.RowKit
attribute [local go_sem] run_store_float
theorem ad_bounds{d i j:Int}(hd:d=-1\/d=1)(hi:-(M:Int)<=i/\i<=M)(hj:-(M:Int)<=j/\j<=M):-(M:Int)<=ad d i j/\ad d i j<=M:=by
 unfold ad
 split
 ·exact hi
 ·split
  ·exact hj
  ·rcases hd with rfl | rfl
   ·have:=rndI_down (fl i+fl j);omega
   ·have:=rndI_up (fl i+fl j);omega
def rar(i1 j1 i2 j2 i3 j3:Int):Int × Int:=if j1<i1\/j2<i2\/j3<i3 then ((M:Int),-(M:Int)) else ct i3 j3 (ad (-1) i2 (-j1)) (ad 1 i2 (-j1)) (ad (-1) j2 (-i1)) (ad 1 j2 (-i1))
theorem revadd_none(b1 b2 c1 c2 x y:Nat)(i1 j1 i2 j2 i3 j3:Int)(w:World)(hb1:b1<18446744073709551616)(hb2:b2<18446744073709551616)(hc1:c1<18446744073709551616)(hc2:c2<18446744073709551616)(hx:x<18446744073709551616)(hy:y<18446744073709551616)(r1:rd b1 b2=(i1,j1))(r2:rd c1 c2=(i2,j2))(r3:rd x y=(i3,j3))(hno:j1<i1\/j2<i2\/j3<i3):
  Rt 22 #[Zf b1 b2,Zf c1 c2,Zf x y] (Zf (pat (((M:Int),-(M:Int))).1) (pat (((M:Int),-(M:Int))).2)) w:=by
 have v1:=rd_iv b1 b2;have v2:=rd_iv c1 c2;have v3:=rd_iv x y;rw [r1] at v1;rw [r2] at v2;rw [r3] at v3
 dsimp only at v1 v2 v3
 have hM:M=9218868437227405312:=rfl;have t1:=fun W=>readf b1 b2 W hb1 hb2;have t2:=fun W=>readf c1 c2 W hc1 hc2;have t3:=fun W=>readf x y W hx hy;rw [r1] at t1;rw [r2] at t2;rw [r3] at t3
 dsimp only at t1 t2 t3
 have m1:=em_idx v1;have m2:=em_idx v2;have m3:=em_idx v3
 have hnn:(decide (j1<i1) || decide (j2<i2) || decide (j3<i3))=true:=by simp;omega
 rw [pat_max,pat_min];have HE:=Hd emptyf
 obtain⟨P1,hP1⟩:∃ z,pat i1=z:=⟨_,rfl⟩
 obtain⟨Q1,hQ1⟩:∃ z,pat j1=z:=⟨_,rfl⟩
 obtain⟨P2,hP2⟩:∃ z,pat i2=z:=⟨_,rfl⟩
 obtain⟨Q2,hQ2⟩:∃ z,pat j2=z:=⟨_,rfl⟩
 obtain⟨P3,hP3⟩:∃ z,pat i3=z:=⟨_,rfl⟩
 obtain⟨Q3,hQ3⟩:∃ z,pat j3=z:=⟨_,rfl⟩
 rw [hP1,hQ1] at t1 m1;rw [hP2,hQ2] at t2 m2;rw [hP3,hQ3] at t3 m3;have HRD:=readL43 w (Zv 0 0) 28 t1 m1 t2 m2 t3 m3 hnn;clear t1 t2 t3 m1 m2 m3 hnn hno v1 v2 v3 hM hP1 hQ1 hP2 hQ2 hP3 hQ3 r1 r2 r3
 go_enter Tryz.func22,Tryz.ntmps22
 go_wp2_with fail;refine HRD.out.mono ?_;rintro e w1 ⟨rfl,hl⟩;have LB1:=Hd hl.b;have LR1:=Hd (HasBlk.of (n:=2) (hl.blk 3 rfl) rfl rfl);have LG0_1:=Hd (hl.blk 0 rfl);have LG1_1:=Hd (hl.blk 1 rfl);have LG2_1:=Hd (hl.blk 2 rfl);clear hl HRD;go_wp2_with fail;refine cx (HE.out _) fun w2 hbx=>?_;have LB2:=stB LB1 hbx LB1.out.size;have LR2:=stR LR1 hbx;have LG0_2:=stG LG0_1 hbx;have LG1_2:=stG LG1_1 hbx;have LG2_2:=stG LG2_1 hbx;clear LB1 LR1 LG0_1 LG1_1 LG2_1;clear hbx;obtain⟨ha0,hf0,ha1,hf1⟩:=LR2.out.sf2;obtain⟨hk0,hk1⟩:=LR2.out.sc2 (.float .f64 9218868437227405312) (.float .f64 18442240474082181120);have F:=Hd (below_sets (w0:=w) (r:=(w.heap.size+3)) (by omega) [.float .f64 9218868437227405312,.float .f64 18442240474082181120] 0 _ LB2.out)
 simp [sets] at hk0 hk1
 go_wp2;refine bodyPost_ret (v:=Zf 9218868437227405312 18442240474082181120) (by simp [results,Tryz.results22,go_sem,hk0,hk1]) rfl ?_
 exact⟨rfl,F.out⟩
theorem revadd_some(b1 b2 c1 c2 x y:Nat)(i1 j1 i2 j2 i3 j3:Int)(w:World)(hb1:b1<18446744073709551616)(hb2:b2<18446744073709551616)(hc1:c1<18446744073709551616)(hc2:c2<18446744073709551616)(hx:x<18446744073709551616)(hy:y<18446744073709551616)(r1:rd b1 b2=(i1,j1))(r2:rd c1 c2=(i2,j2))(r3:rd x y=(i3,j3))(hno:¬ (j1<i1\/j2<i2\/j3<i3)):
  Rt 22 #[Zf b1 b2,Zf c1 c2,Zf x y] (Zf (pat (ct i3 j3 (ad (-1) i2 (-j1)) (ad 1 i2 (-j1)) (ad (-1) j2 (-i1)) (ad 1 j2 (-i1))).1) (pat (ct i3 j3 (ad (-1) i2 (-j1)) (ad 1 i2 (-j1)) (ad (-1) j2 (-i1)) (ad 1 j2 (-i1))).2)) w:=by
 have v1:=rd_iv b1 b2;have v2:=rd_iv c1 c2;have v3:=rd_iv x y;rw [r1] at v1;rw [r2] at v2;rw [r3] at v3
 dsimp only at v1 v2 v3
 have hM:M=9218868437227405312:=rfl;have t1:=fun W=>readf b1 b2 W hb1 hb2;have t2:=fun W=>readf c1 c2 W hc1 hc2;have t3:=fun W=>readf x y W hx hy;rw [r1] at t1;rw [r2] at t2;rw [r3] at t3
 dsimp only at t1 t2 t3
 have m1:=em_idx v1;have m2:=em_idx v2;have m3:=em_idx v3
 have hnn:(decide (j1<i1) || decide (j2<i2) || decide (j3<i3))=false:=by simp;omega
 have n1:NoCl i2 (-j1):=by unfold NoCl;unfold Iv at v1 v2;omega
 have n2:NoCl j2 (-i1):=by unfold NoCl;unfold Iv at v1 v2;omega
 have g1:-(M:Int)<=-j1/\-j1<=M:=by have:=v1.hi;omega
 have g2:-(M:Int)<=-i1/\-i1<=M:=by have:=v1.lo;omega
 have HS1:=Hd fun W=>rsub_pat (-1) i2 j1 W (.inl rfl) v2.lo v1.hi n1;have HS2:=Hd fun W=>rsub_pat 1 i2 j1 W (.inr rfl) v2.lo v1.hi n1;have HS3:=Hd fun W=>rsub_pat (-1) j2 i1 W (.inl rfl) v2.hi v1.lo n2;have HS4:=Hd fun W=>rsub_pat 1 j2 i1 W (.inr rfl) v2.hi v1.lo n2;have HC:=Hd fun W=>rcut_any i3 j3 _ _ _ _ W v3.lo v3.hi (ad_bounds (.inl rfl) v2.lo g1) (ad_bounds (.inr rfl) v2.lo g1) (ad_bounds (.inl rfl) v2.hi g2) (ad_bounds (.inr rfl) v2.hi g2);clear n1 n2 g1 g2
 obtain⟨z1,hz1⟩:∃ z,pat (ct i3 j3 (ad (-1) i2 (-j1)) (ad 1 i2 (-j1)) (ad (-1) j2 (-i1)) (ad 1 j2 (-i1))).1=z:=⟨_,rfl⟩
 obtain⟨z2,hz2⟩:∃ z,pat (ct i3 j3 (ad (-1) i2 (-j1)) (ad 1 i2 (-j1)) (ad (-1) j2 (-i1)) (ad 1 j2 (-i1))).2=z:=⟨_,rfl⟩
 rw [hz1,hz2] at HC ⊢;clear hz1 hz2
 obtain⟨A1,hA1⟩:∃ z,pat (ad (-1) i2 (-j1))=z:=⟨_,rfl⟩
 obtain⟨A2,hA2⟩:∃ z,pat (ad 1 i2 (-j1))=z:=⟨_,rfl⟩
 obtain⟨A3,hA3⟩:∃ z,pat (ad (-1) j2 (-i1))=z:=⟨_,rfl⟩
 obtain⟨A4,hA4⟩:∃ z,pat (ad 1 j2 (-i1))=z:=⟨_,rfl⟩
 rw [hA1] at HS1 HC;rw [hA2] at HS2 HC;rw [hA3] at HS3 HC;rw [hA4] at HS4 HC;clear hA1 hA2 hA3 hA4
 obtain⟨P1,hP1⟩:∃ z,pat i1=z:=⟨_,rfl⟩
 obtain⟨Q1,hQ1⟩:∃ z,pat j1=z:=⟨_,rfl⟩
 obtain⟨P2,hP2⟩:∃ z,pat i2=z:=⟨_,rfl⟩
 obtain⟨Q2,hQ2⟩:∃ z,pat j2=z:=⟨_,rfl⟩
 obtain⟨P3,hP3⟩:∃ z,pat i3=z:=⟨_,rfl⟩
 obtain⟨Q3,hQ3⟩:∃ z,pat j3=z:=⟨_,rfl⟩
 rw [hP1,hQ1] at t1 m1;rw [hP2,hQ2] at t2 m2;rw [hP3,hQ3] at t3 m3;rw [hP2,hQ1] at HS1 HS2;rw [hQ2,hP1] at HS3 HS4;rw [hP3,hQ3] at HC;have HRD:=readL43 w (Zv 0 0) 28 t1 m1 t2 m2 t3 m3 hnn;clear t1 t2 t3 m1 m2 m3 hnn hno v1 v2 v3 hM hP1 hQ1 hP2 hQ2 hP3 hQ3 r1 r2 r3
 go_enter Tryz.func22,Tryz.ntmps22
 go_wp2_with fail;refine HRD.out.mono ?_;rintro e w1 ⟨rfl,hl⟩;have LB1:=Hd hl.b;have LR1:=Hd (HasBlk.of (n:=2) (hl.blk 3 rfl) rfl rfl);have LG0_1:=Hd (hl.blk 0 rfl);have LG1_1:=Hd (hl.blk 1 rfl);have LG2_1:=Hd (hl.blk 2 rfl);clear hl HRD;go_wp2_with fail;refine wp_region_held_drew (S:=fun W'=>Blk W' w.heap.size 28 (Zv P1 Q1)/\Blk W' (w.heap.size+1) 28 (Zv P2 Q2)/\Blk W' (w.heap.size+2) 28 (Zv P3 Q3)/\HasBlk W' (w.heap.size+3) 28 2/\Below w.heap.size w W') (by kernel_rfl) (by exact⟨LG0_1.out.drew,LG1_1.out.drew,LG2_1.out.drew,LR1.out.drew,LB1.out.drew⟩) (fun hHeld=>?_);refine tkb 0 (fun _ h=>h.2.2.1.c2) ?_;refine tks 1 ?_;refine tkb 2 (fun _ h=>h.2.1.c2) ?_;refine tks 3 ?_;refine tkb 4 (fun _ h=>h.1.c2) ?_;refine tks 6 ?_;refine tkb 7 (fun _ h=>h.2.1.c2) ?_;refine tks 8 ?_;refine tkb 9 (fun _ h=>h.1.c2) ?_;refine tks 12 ?_;refine tkb 13 (fun _ h=>h.2.1.c2) ?_;refine tks 14 ?_;refine tkb 15 (fun _ h=>h.1.c2) ?_;refine tks 17 ?_;refine tkb 18 (fun _ h=>h.2.1.c2) ?_;refine tks 19 ?_;refine tkb 20 (fun _ h=>h.1.c2) ?_;refine rdy 5 fun KK hKK=>?_;go_simp;refine cx (HS1.out _) fun w2 hbA=>?_;go_wp2_with fail;refine hKK.out _ _ (⟨hHeld.1.keep hbA,hHeld.2.1.keep hbA,hHeld.2.2.1.keep hbA,hHeld.2.2.2.1.keep hbA,hHeld.2.2.2.2.trans (hbA.mono hHeld.2.2.2.2.size)⟩) (fun _=>?_);clear hKK KK hHeld;rename_i hHeld;(try simp only [Act.put,lay]);refine rdy 10 fun KK hKK=>?_;go_simp;refine cx (HS2.out _) fun w3 hbB=>?_;go_wp2_with fail;refine hKK.out _ _ (⟨hHeld.1.keep hbB,hHeld.2.1.keep hbB,hHeld.2.2.1.keep hbB,hHeld.2.2.2.1.keep hbB,hHeld.2.2.2.2.trans (hbB.mono hHeld.2.2.2.2.size)⟩) (fun _=>?_)
 clear hKK KK hHeld;rename_i hHeld;(try simp only [Act.put,lay]);refine tks 11 ?_;refine rdy 16 fun KK hKK=>?_;go_simp;refine cx (HS3.out _) fun w4 hbC=>?_;go_wp2_with fail;refine hKK.out _ _ (⟨hHeld.1.keep hbC,hHeld.2.1.keep hbC,hHeld.2.2.1.keep hbC,hHeld.2.2.2.1.keep hbC,hHeld.2.2.2.2.trans (hbC.mono hHeld.2.2.2.2.size)⟩) (fun _=>?_);clear hKK KK hHeld;rename_i hHeld;(try simp only [Act.put,lay]);refine rdy 21 fun KK hKK=>?_;go_simp;refine cx (HS4.out _) fun w5 hbD=>?_;go_wp2_with fail;refine hKK.out _ _ (⟨hHeld.1.keep hbD,hHeld.2.1.keep hbD,hHeld.2.2.1.keep hbD,hHeld.2.2.2.1.keep hbD,hHeld.2.2.2.2.trans (hbD.mono hHeld.2.2.2.2.size)⟩) (fun _=>?_);clear hKK KK hHeld;rename_i hHeld;(try simp only [Act.put,lay]);refine tks 22 ?_;refine rdy 23 fun KK hKK=>?_;go_simp;refine cx (HC.out _) fun w6 hbE=>?_;go_wp2_with fail;refine hKK.out _ _ (⟨hHeld.1.keep hbE,hHeld.2.1.keep hbE,hHeld.2.2.1.keep hbE,hHeld.2.2.2.1.keep hbE,hHeld.2.2.2.2.trans (hbE.mono hHeld.2.2.2.2.size)⟩) (fun _=>?_);clear hKK KK hHeld;rename_i hHeld;(try simp only [Act.put,lay]);refine rdy 24 fun KK hKK=>?_;have ha0:=hHeld.2.2.2.1.someCell 0 (by decide);have hf0:=hHeld.2.2.2.1.frozen 0;have ha1:=hHeld.2.2.2.1.someCell 1 (by decide);have hf1:=hHeld.2.2.2.1.frozen 1;have HK:=Hd (hHeld.2.2.2.1.setCell [.float .f64 z1,.float .f64 z2] rfl);have F:=Hd (below_sets (w0:=w) (r:=(w.heap.size+3)) (by omega) [.float .f64 z1,.float .f64 z2] 0 _ hHeld.2.2.2.2);go_simp;refine hKK.out _ _ (⟨hHeld.1.other (by omega) 0 [.float .f64 z1,.float .f64 z2],hHeld.2.1.other (by omega) 0 [.float .f64 z1,.float .f64 z2],hHeld.2.2.1.other (by omega) 0 [.float .f64 z1,.float .f64 z2],hHeld.2.2.2.1.sets [.float .f64 z1,.float .f64 z2] rfl rfl,below_sets (by omega) [.float .f64 z1,.float .f64 z2] 0 _ hHeld.2.2.2.2⟩) (fun _=>?_)
 clear hKK KK hHeld;rename_i hHeld;(try simp only [Act.put,lay]);refine wpAnyH_done (by kernel_rfl) ?_ _;have hk0:=HK.out 0 (by decide);have hk1:=HK.out 1 (by decide)
 simp [sets] at hk0 hk1
 clear hHeld HK hbA hbB hbC hbD hbE;clear LB1 LR1 LG0_1 LG1_1 LG2_1;go_wp2;refine bodyPost_ret (v:=Zf z1 z2) (by simp [results,Tryz.results22,go_sem,hk0,hk1]) rfl ?_
 exact⟨rfl,F.out⟩
theorem revadd_any(b1 b2 c1 c2 x y:Nat)(w:World)(hb1:b1<18446744073709551616)(hb2:b2<18446744073709551616)(hc1:c1<18446744073709551616)(hc2:c2<18446744073709551616)(hx:x<18446744073709551616)(hy:y<18446744073709551616):
  Rt 22 #[Zf b1 b2,Zf c1 c2,Zf x y] (Zf (pat (rar (rd b1 b2).1 (rd b1 b2).2 (rd c1 c2).1 (rd c1 c2).2 (rd x y).1 (rd x y).2).1) (pat (rar (rd b1 b2).1 (rd b1 b2).2 (rd c1 c2).1 (rd c1 c2).2 (rd x y).1 (rd x y).2).2)) w:=by
 unfold rar
 by_cases hno:(rd b1 b2).2<(rd b1 b2).1\/(rd c1 c2).2<(rd c1 c2).1\/(rd x y).2<(rd x y).1
 ·rw [if_pos hno]
  exact revadd_none b1 b2 c1 c2 x y _ _ _ _ _ _ w hb1 hb2 hc1 hc2 hx hy rfl rfl rfl hno
 ·rw [if_neg hno]
  exact revadd_some b1 b2 c1 c2 x y _ _ _ _ _ _ w hb1 hb2 hc1 hc2 hx hy rfl rfl rfl hno
theorem revadd_idx(i1 j1 i2 j2:Int)(x y:Nat)(w:World)(hb:Iv i1 j1)(hc:Iv i2 j2)(hx:x<18446744073709551616)(hy:y<18446744073709551616):
  Rt 22 #[Zf (pat i1) (pat j1),Zf (pat i2) (pat j2),Zf x y] (Zf (pat (rar i1 j1 i2 j2 (rd x y).1 (rd x y).2).1) (pat (rar i1 j1 i2 j2 (rd x y).1 (rd x y).2).2)) w:=by
 have h:=revadd_any (pat i1) (pat j1) (pat i2) (pat j2) x y w (pat_lt hb.lo.1 hb.lo.2) (pat_lt hb.hi.1 hb.hi.2) (pat_lt hc.lo.1 hc.lo.2) (pat_lt hc.hi.1 hc.hi.2) hx hy;rw [rd_pat hb,rd_pat hc] at h
 exact h
theorem revsub1_any(b1 b2 c1 c2 x y:Nat)(w:World)(hb1:b1<18446744073709551616)(hb2:b2<18446744073709551616)(hc1:c1<18446744073709551616)(hc2:c2<18446744073709551616)(hx:x<18446744073709551616)(hy:y<18446744073709551616):
  Rt 23 #[Zf b1 b2,Zf c1 c2,Zf x y] (Zf (pat (rar (-(rd b1 b2).2) (-(rd b1 b2).1) (rd c1 c2).1 (rd c1 c2).2 (rd x y).1 (rd x y).2).1) (pat (rar (-(rd b1 b2).2) (-(rd b1 b2).1) (rd c1 c2).1 (rd c1 c2).2 (rd x y).1 (rd x y).2).2)) w:=by
 have HN1:=Hd fun W=>mirrorf b1 b2 W hb1 hb2;have h:=fun W=>revadd_any (pat (-(rd b1 b2).2)) (pat (-(rd b1 b2).1)) c1 c2 x y W (pat_lt (rd_iv b1 b2).negg.lo.1 (rd_iv b1 b2).negg.lo.2) (pat_lt (rd_iv b1 b2).negg.hi.1 (rd_iv b1 b2).negg.hi.2) hc1 hc2 hx hy;rw [rd_pat (rd_iv b1 b2).negg] at h;have HM:=Hd h;clear h
 obtain⟨z1,hz1⟩:∃ z,pat (rar (-(rd b1 b2).2) (-(rd b1 b2).1) (rd c1 c2).1 (rd c1 c2).2 (rd x y).1 (rd x y).2).1=z:=⟨_,rfl⟩
 obtain⟨z2,hz2⟩:∃ z,pat (rar (-(rd b1 b2).2) (-(rd b1 b2).1) (rd c1 c2).1 (rd c1 c2).2 (rd x y).1 (rd x y).2).2=z:=⟨_,rfl⟩
 obtain⟨p1,e1⟩:∃ z,pat (-(rd b1 b2).2)=z:=⟨_,rfl⟩
 obtain⟨p2,e2⟩:∃ z,pat (-(rd b1 b2).1)=z:=⟨_,rfl⟩
 rw [e1,e2] at HN1 HM
 simp only [hz1,hz2] at HM ⊢
 clear hz1 hz2 e1 e2;obtain⟨LB0,LG0_0,LG1_0,LG2_0,LR⟩:=bx4 w (Zv b1 b2) 28 (Zv c1 c2) 28 (Zv x y) 28 (Zv 0 0) 28;have LR0:=Hd (HasBlk.of (n:=2) LR.out rfl rfl);clear LR
 go_enter Tryz.func23,Tryz.ntmps23
 go_wp2_with fail;refine wp_region_held_drew (S:=fun W'=>Blk W' w.heap.size 28 (Zv b1 b2)/\Blk W' (w.heap.size+1) 28 (Zv c1 c2)/\Blk W' (w.heap.size+2) 28 (Zv x y)/\HasBlk W' (w.heap.size+3) 28 2/\Below w.heap.size w W') (by kernel_rfl) (by exact⟨LG0_0.out.drew,LG1_0.out.drew,LG2_0.out.drew,LR0.out.drew,LB0.out.drew⟩) (fun hHeld=>?_);refine tkb 0 (fun _ h=>h.1.c2) ?_;refine tkb 2 (fun _ h=>h.2.1.c2) ?_;refine tkb 3 (fun _ h=>h.2.2.1.c2) ?_;refine rdy 1 fun KK hKK=>?_;go_simp;refine cx (HN1.out _) fun w1 hbA=>?_;go_wp2_with fail;refine hKK.out _ _ (⟨hHeld.1.keep hbA,hHeld.2.1.keep hbA,hHeld.2.2.1.keep hbA,hHeld.2.2.2.1.keep hbA,hHeld.2.2.2.2.trans (hbA.mono hHeld.2.2.2.2.size)⟩) (fun _=>?_);clear hKK KK hHeld;rename_i hHeld;(try simp only [Act.put,lay]);refine rdy 4 fun KK hKK=>?_;go_simp;refine cx (HM.out _) fun w3 hbC=>?_;go_wp2_with fail;refine hKK.out _ _ (⟨hHeld.1.keep hbC,hHeld.2.1.keep hbC,hHeld.2.2.1.keep hbC,hHeld.2.2.2.1.keep hbC,hHeld.2.2.2.2.trans (hbC.mono hHeld.2.2.2.2.size)⟩) (fun _=>?_);clear hKK KK hHeld;rename_i hHeld;(try simp only [Act.put,lay]);refine rdy 5 fun KK hKK=>?_;have ha0:=hHeld.2.2.2.1.someCell 0 (by decide);have hf0:=hHeld.2.2.2.1.frozen 0;have ha1:=hHeld.2.2.2.1.someCell 1 (by decide);have hf1:=hHeld.2.2.2.1.frozen 1;have HK:=Hd (hHeld.2.2.2.1.setCell [.float .f64 z1,.float .f64 z2] rfl);have F:=Hd (below_sets (w0:=w) (r:=(w.heap.size+3)) (by omega) [.float .f64 z1,.float .f64 z2] 0 _ hHeld.2.2.2.2);go_simp;refine hKK.out _ _ (⟨hHeld.1.other (by omega) 0 [.float .f64 z1,.float .f64 z2],hHeld.2.1.other (by omega) 0 [.float .f64 z1,.float .f64 z2],hHeld.2.2.1.other (by omega) 0 [.float .f64 z1,.float .f64 z2],hHeld.2.2.2.1.sets [.float .f64 z1,.float .f64 z2] rfl rfl,below_sets (by omega) [.float .f64 z1,.float .f64 z2] 0 _ hHeld.2.2.2.2⟩) (fun _=>?_)
 clear hKK KK hHeld;rename_i hHeld;(try simp only [Act.put,lay]);refine wpAnyH_done (by kernel_rfl) ?_ _;have hk0:=HK.out 0 (by decide);have hk1:=HK.out 1 (by decide)
 simp [sets] at hk0 hk1
 clear hHeld HK hbA hbC;clear LB0 LR0 LG0_0 LG1_0 LG2_0;go_wp2;refine bodyPost_ret (v:=Zf z1 z2) (by simp [results,Tryz.results23,go_sem,hk0,hk1]) rfl ?_
 exact⟨rfl,F.out⟩
theorem revsub2_any(b1 b2 c1 c2 x y:Nat)(w:World)(hb1:b1<18446744073709551616)(hb2:b2<18446744073709551616)(hc1:c1<18446744073709551616)(hc2:c2<18446744073709551616)(hx:x<18446744073709551616)(hy:y<18446744073709551616):
  Rt 24 #[Zf b1 b2,Zf c1 c2,Zf x y] (Zf (pat (rar (-(rd b1 b2).2) (-(rd b1 b2).1) (-(rd c1 c2).2) (-(rd c1 c2).1) (rd x y).1 (rd x y).2).1) (pat (rar (-(rd b1 b2).2) (-(rd b1 b2).1) (-(rd c1 c2).2) (-(rd c1 c2).1) (rd x y).1 (rd x y).2).2)) w:=by
 have HN1:=Hd fun W=>mirrorf b1 b2 W hb1 hb2;have HN2:=Hd fun W=>mirrorf c1 c2 W hc1 hc2;have HM:=Hd fun W=>revadd_idx _ _ _ _ x y W (rd_iv b1 b2).negg (rd_iv c1 c2).negg hx hy
 obtain⟨p3,e3⟩:∃ z,pat (-(rd c1 c2).2)=z:=⟨_,rfl⟩
 obtain⟨p4,e4⟩:∃ z,pat (-(rd c1 c2).1)=z:=⟨_,rfl⟩
 rw [e3,e4] at HN2 HM;clear e3 e4
 obtain⟨z1,hz1⟩:∃ z,pat (rar (-(rd b1 b2).2) (-(rd b1 b2).1) (-(rd c1 c2).2) (-(rd c1 c2).1) (rd x y).1 (rd x y).2).1=z:=⟨_,rfl⟩
 obtain⟨z2,hz2⟩:∃ z,pat (rar (-(rd b1 b2).2) (-(rd b1 b2).1) (-(rd c1 c2).2) (-(rd c1 c2).1) (rd x y).1 (rd x y).2).2=z:=⟨_,rfl⟩
 obtain⟨p1,e1⟩:∃ z,pat (-(rd b1 b2).2)=z:=⟨_,rfl⟩
 obtain⟨p2,e2⟩:∃ z,pat (-(rd b1 b2).1)=z:=⟨_,rfl⟩
 rw [e1,e2] at HN1 HM
 simp only [hz1,hz2] at HM ⊢
 clear hz1 hz2 e1 e2;obtain⟨LB0,LG0_0,LG1_0,LG2_0,LR⟩:=bx4 w (Zv b1 b2) 28 (Zv c1 c2) 28 (Zv x y) 28 (Zv 0 0) 28;have LR0:=Hd (HasBlk.of (n:=2) LR.out rfl rfl);clear LR
 go_enter Tryz.func24,Tryz.ntmps24
 go_wp2_with fail;refine wp_region_held_drew (S:=fun W'=>Blk W' w.heap.size 28 (Zv b1 b2)/\Blk W' (w.heap.size+1) 28 (Zv c1 c2)/\Blk W' (w.heap.size+2) 28 (Zv x y)/\HasBlk W' (w.heap.size+3) 28 2/\Below w.heap.size w W') (by kernel_rfl) (by exact⟨LG0_0.out.drew,LG1_0.out.drew,LG2_0.out.drew,LR0.out.drew,LB0.out.drew⟩) (fun hHeld=>?_);refine tkb 0 (fun _ h=>h.1.c2) ?_;refine tkb 2 (fun _ h=>h.2.1.c2) ?_;refine tkb 4 (fun _ h=>h.2.2.1.c2) ?_;refine rdy 1 fun KK hKK=>?_;go_simp;refine cx (HN1.out _) fun w1 hbA=>?_;go_wp2_with fail;refine hKK.out _ _ (⟨hHeld.1.keep hbA,hHeld.2.1.keep hbA,hHeld.2.2.1.keep hbA,hHeld.2.2.2.1.keep hbA,hHeld.2.2.2.2.trans (hbA.mono hHeld.2.2.2.2.size)⟩) (fun _=>?_);clear hKK KK hHeld;rename_i hHeld;(try simp only [Act.put,lay]);refine rdy 3 fun KK hKK=>?_;go_simp;refine cx (HN2.out _) fun w2 hbB=>?_;go_wp2_with fail;refine hKK.out _ _ (⟨hHeld.1.keep hbB,hHeld.2.1.keep hbB,hHeld.2.2.1.keep hbB,hHeld.2.2.2.1.keep hbB,hHeld.2.2.2.2.trans (hbB.mono hHeld.2.2.2.2.size)⟩) (fun _=>?_);clear hKK KK hHeld;rename_i hHeld;(try simp only [Act.put,lay]);refine rdy 5 fun KK hKK=>?_;go_simp;refine cx (HM.out _) fun w3 hbC=>?_;go_wp2_with fail;refine hKK.out _ _ (⟨hHeld.1.keep hbC,hHeld.2.1.keep hbC,hHeld.2.2.1.keep hbC,hHeld.2.2.2.1.keep hbC,hHeld.2.2.2.2.trans (hbC.mono hHeld.2.2.2.2.size)⟩) (fun _=>?_);clear hKK KK hHeld;rename_i hHeld;(try simp only [Act.put,lay]);refine rdy 6 fun KK hKK=>?_;have ha0:=hHeld.2.2.2.1.someCell 0 (by decide);have hf0:=hHeld.2.2.2.1.frozen 0;have ha1:=hHeld.2.2.2.1.someCell 1 (by decide);have hf1:=hHeld.2.2.2.1.frozen 1;have HK:=Hd (hHeld.2.2.2.1.setCell [.float .f64 z1,.float .f64 z2] rfl);have F:=Hd (below_sets (w0:=w) (r:=(w.heap.size+3)) (by omega) [.float .f64 z1,.float .f64 z2] 0 _ hHeld.2.2.2.2)
 go_simp;refine hKK.out _ _ (⟨hHeld.1.other (by omega) 0 [.float .f64 z1,.float .f64 z2],hHeld.2.1.other (by omega) 0 [.float .f64 z1,.float .f64 z2],hHeld.2.2.1.other (by omega) 0 [.float .f64 z1,.float .f64 z2],hHeld.2.2.2.1.sets [.float .f64 z1,.float .f64 z2] rfl rfl,below_sets (by omega) [.float .f64 z1,.float .f64 z2] 0 _ hHeld.2.2.2.2⟩) (fun _=>?_);clear hKK KK hHeld;rename_i hHeld;(try simp only [Act.put,lay]);refine wpAnyH_done (by kernel_rfl) ?_ _;have hk0:=HK.out 0 (by decide);have hk1:=HK.out 1 (by decide)
 simp [sets] at hk0 hk1
 clear hHeld HK hbA hbB hbC;clear LB0 LR0 LG0_0 LG1_0 LG2_0;go_wp2;refine bodyPost_ret (v:=Zf z1 z2) (by simp [results,Tryz.results24,go_sem,hk0,hk1]) rfl ?_
 exact⟨rfl,F.out⟩
end
end Go.Proofs.YthlmlmfebpjgdaaGreatDoor
