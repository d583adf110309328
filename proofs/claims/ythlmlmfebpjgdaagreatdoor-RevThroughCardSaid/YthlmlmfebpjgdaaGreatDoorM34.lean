/-
Plain: a product and a sum, rounded once: the quick road's answer.
Walks: package round, FMA.
-/
import Derived.Test.YthlmlmfebpjgdaaGreatDoorM33
set_option linter.unusedSimpArgs false
set_option linter.unusedVariables false
set_option maxHeartbeats 12800000
namespace Go.Proofs.YthlmlmfebpjgdaaGreatDoor
open Go.RowKit Ieee
theorem R_stay{r e:Int}(hr:Rep r){l:Nat}(h1:2^(54+l)≤r.natAbs)(h2:r.natAbs<2^(55+l))(he:e.natAbs*2^55<r.natAbs):R (r+e)=r:=by
 have p0:2^(55+l)=2^55*2^l:=Nat.pow_add 2 55 l;have p1:2^(54+l)=2^54*2^l:=Nat.pow_add 2 54 l
 have p2:2^(52+(l+1))=2^53*2^l:=by rw [show 52+(l+1)=53+l from by omega,Nat.pow_add]
 have p3:2^(l+1)=2*2^l:=by rw [Nat.pow_succ,Nat.mul_comm]
 have hl:0<2^l:=Nat.two_pow_pos l;have near:=R_nearest (n:=r+e) hr
 have he2:e.natAbs<2^l:=by
  have:e.natAbs*2^55<2^l*2^55:=by rw [Nat.mul_comm (2^l)];omega
  exact Nat.lt_of_mul_lt_mul_right this
 have hd:(R (r+e) - r).natAbs<2^(l+1):=by omega
 have k1:=rep_dvd (k:=l+1) hr (by omega);have k2:=rep_dvd (k:=l+1) (R_rep (r+e)) (by omega);obtain⟨a,ha⟩:=k1;obtain⟨b,hb⟩:=k2
 have e1:R (r+e) - r=2^(l+1)*(b - a):=by rw [hb];conv=>lhs;rw [ha]
                                         rw [Int.mul_sub]
 rw [e1,Int.natAbs_mul,Int.natAbs_pow] at hd
 have h0:(b - a).natAbs=0:=by
  rcases Nat.eq_zero_or_pos (b - a).natAbs with h | h
  ·exact h
  ·exfalso
   have:2^(l+1)*1≤2^(l+1)*(b - a).natAbs:=Nat.mul_le_mul_left _ h;have e2:(2:Int).natAbs=2:=rfl;rw [e2] at hd
   omega
 have:b=a:=by omega
 rw [this,Int.sub_self,Int.mul_zero] at e1
 omega
theorem R_stays{r e:Int}(hr:Rep r)(h1:2^54≤r.natAbs)(he:e.natAbs*2^55<r.natAbs):R (r+e)=r:=by
 have n0:r.natAbs≠0:=by have:=Nat.two_pow_pos 54;omega
 have a:=Nat.log2_self_le n0;have b:=@Nat.lt_log2_self r.natAbs;have c:54≤r.natAbs.log2:=(Nat.le_log2 n0).2 h1
 obtain⟨l,hl⟩:∃ l,r.natAbs.log2=54+l:=⟨_,(Nat.add_sub_cancel' c).symm⟩
 rw [hl] at a b
 exact R_stay hr a (by rw [show 54+l+1=55+l from by omega] at b;exact b) he
theorem add_nought{x y:Nat}{m:Int}(hx:Fl x m)(hy:Fl y 0):(∃ r,FloatKind.f64.format.add x y=some r∧Fl r m)∧∃ r,FloatKind.f64.format.add y x=some r∧Fl r m:=by
 have hM:M=9218868437227405312:=rfl;have h1:=idx_natAbs x;have hf:rungOf x<M:=hx.fin;have e:near (val (idx x)) 0=idx x:=near_val_zero (by omega) (by omega)
 have key:∀ r,Is r (idx x)→Fl r m:=fun r h=>by
  have h2:=idx_natAbs r;rw [h.idx] at h2
  exact⟨h.lt,by unfold fin;omega,by rw [h.idx,hx.val]⟩
 constructor
 ·obtain⟨r,hr,hi⟩:=add_fin hx.fin hy.fin;rw [hy.val,Int.add_zero,e] at hi
  exact⟨r,hr,key r hi⟩
 ·obtain⟨r,hr,hi⟩:=add_fin hy.fin hx.fin;rw [hy.val,Int.zero_add,e] at hi
  exact⟨r,hr,key r hi⟩
theorem fma_good{d:Int}(hd:d=-1∨d=1){s f e:Nat}{N P Z n:Int}(hn:n=P+Z)(fs:Fl s (R n))(ff:Fl f (n - R n))(fe:Fl e (N - P))(hc:N - P=0∨(n - R n=0∧2^54≤(R n).natAbs∧(N - P).natAbs*2^55<(R n).natAbs)):
  ∃ g,FloatKind.f64.format.add e f=some g∧rungOf g≤M∧nud d (idx s) (idx g)=rndI d (((N+Z:Int):Rat)*2^(-1074:Int)):=by
 rcases hc with h | ⟨h,h2,h3⟩
 ·rw [h] at fe;obtain⟨g,hg,fg⟩:=(add_nought ff fe).2
  have e1:N+Z=n:=by omega
  refine⟨g,hg,Nat.le_of_lt fg.fin,?_⟩;rw [e1]
  exact nud_n hd fs fg
 ·rw [h] at ff;obtain⟨g,hg,fg⟩:=(add_nought fe ff).1
  have e1:R (N+Z)=R n:=by
   rw [show N+Z=R n+(N - P) from by omega]
   exact R_stays (R_rep n) h2 h3
  refine⟨g,hg,Nat.le_of_lt fg.fin,?_⟩;rw [← e1] at fs;rw [show N - P=N+Z - R (N+Z) from by rw [e1];omega] at fg
  exact nud_n hd fs fg
end Go.Proofs.YthlmlmfebpjgdaaGreatDoor
namespace Go.Proofs.YthlmlmfebpjgdaaGreatDoor
open Go.RowKit
attribute [local go_sem] run_store_float run_frombits run_bitsof run_negf
theorem odd_one(g x:Nat)(w:World)(hx:x<18446744073709551616)(rx:rungOf x≤M)(c0:w.cell? ⟨g,0,none⟩=some (.float .f64 x)):
  Calls Tryz.prog 183 #[.slice (some ⟨g,0,none⟩) 1 1] w fun e w'=>e=.returned (.bool (decide (rungOf x=M)))∧w=w':=by
 have N0:=Hd (isnanf x w rx);have I0:=Hd (isinff x w hx rx)
 obtain⟨b0,e0⟩:∃ p,decide (rungOf x=M)=p:=⟨_,rfl⟩
 rw [e0] at I0 ⊢;clear e0 rx hx
 go_enter Tryz.func183,Tryz.ntmps183
 go_wp2
 go_loop [4,7] (fun _ v=>∃ k:Nat,k≤1∧v=.int .i64 k∧(0<k→b0=false)) (fun _ v=>1 - (intOf v).toNat)
 case atStart=>exact⟨0,by omega,rfl,by omega⟩
 case round=>
  obtain⟨k,hk,rfl,hk0⟩:=hrel
  match k,hk with
  | 0,_=>
   clear hk0
   cases b0
   ·go_wp2_with fail;refine N0.out.mono ?_;rintro e w' ⟨rfl,rfl⟩;go_wp2_with fail;refine I0.out.mono ?_;rintro e w' ⟨rfl,rfl⟩;go_wp2
    go_round
    case rel=>exact⟨1,by omega,rfl,by simp⟩
    case measure=>simp [intOf]
   ·go_wp2_with fail;refine N0.out.mono ?_;rintro e w' ⟨rfl,rfl⟩;go_wp2_with fail;refine I0.out.mono ?_;rintro e w' ⟨rfl,rfl⟩;go_wp2
    go_ret
    exact⟨rfl,rfl⟩
  | 1,_=>
   have h0:=hk0 (by omega);subst h0;clear hk0;go_wp2
   go_ret
   exact⟨rfl,rfl⟩
theorem rfma_inf(d:Int)(x y z p r:Nat)(w:World)(hx:x<18446744073709551616)(hy:y<18446744073709551616)(hz:z<18446744073709551616)(rx:rungOf x≤M)(ry:rungOf y≤M)(ho:(decide (rungOf x=M) || decide (rungOf y=M))=true)(hp:floatBits .mul .f64 x y=some p)(hr:floatBits .add .f64 p z=some r):
  Calls Tryz.prog 162 #[.int .i64 d,.float .f64 x,.float .f64 y,.float .f64 z] w fun e w'=>e=.returned (.float .f64 r)∧Below w.heap.size w w':=by
 have HA:=fun W=>run_float_arith (P:=Tryz.prog) W .mul 26 .f64 x y p hp;have HB:=fun W=>run_float_arith (P:=Tryz.prog) W .add 26 .f64 p z r hr;have HO0:=fun (W:World) (hb:Below w.heap.size w W)=>odd_two W.heap.size x y (W.alloc (.cells #[.float .f64 x,.float .f64 y] 26)) hx hy (by omega) (by omega) (by simp [World.cell?_alloc_new]) (by simp [World.cell?_alloc_new]);rw [ho] at HO0;have HO:=Hd HO0;have LB:=Hd (below_alloc w (.cells #[.float .f64 x,.float .f64 y] 26));clear HO0 ho hp hr rx ry hx hy hz
 go_enter Tryz.func162,Tryz.ntmps162
 go_wp2_with fail
 go_step3
 go_wp2_with fail;refine (HO.out _ (Below.refl _ _)).mono ?_;rintro e w' ⟨rfl,rfl⟩;go_wp2
 try rw [Exit.noGoto_ret]
 go_ret
 exact⟨rfl,LB.out⟩
set_option maxRecDepth 8000 in
theorem rfma_quick(d:Int)(x y z p e s t a b c f g q r:Nat)(of oe o2:Ordering)(w:World)(hx:x<18446744073709551616)(hy:y<18446744073709551616)(hz:z<18446744073709551616)(rx:rungOf x<M)(ry:rungOf y<M)(rz:rungOf z<M)(hp:FloatKind.f64.format.mul x y=some p)(hp1:p<18446744073709551616)(hp2:rungOf p≤M)(mx:mid x=true)(my:mid y=true)(mp:mid p=true)
  (gz:(FloatKind.f64.format.order (rungOf z) 8660422083433463808 == some Ordering.gt)=false)(hmi:∀ W,Calls Tryz.prog 187 #[.float .f64 x,.float .f64 y,.float .f64 p] W fun e' w'=>e'=.returned (.float .f64 e)∧W=w')(q1:FloatKind.f64.format.add p z=some s)(q2:FloatKind.f64.format.sub s p=some t)(q3:FloatKind.f64.format.sub s t=some a)(q4:FloatKind.f64.format.sub p a=some b)(q5:FloatKind.f64.format.sub z t=some c)(q6:FloatKind.f64.format.add b c=some f)(he:e<18446744073709551616)(hs:s<18446744073709551616)(hfz:FloatKind.f64.format.order f 0=some of)(hez:FloatKind.f64.format.order e 0=some oe)
  (hsm:(FloatKind.f64.format.order (rungOf s) 553942754166571008 == some Ordering.lt)=false)(hq:FloatKind.f64.format.mul (rungOf s) 4359484439294640128=some q)(ho2:FloatKind.f64.format.order (rungOf e) q=some o2)(hc:((of=.lt∨of=.gt)∧oe=.eq)∨(of=.eq∧o2=.lt))
  (hg:FloatKind.f64.format.add e f=some g)(hn:∀ W,Calls Tryz.prog 186 #[.int .i64 d,.float .f64 s,.float .f64 g] W fun e w'=>e=.returned (.float .f64 r)∧W=w'):
  Calls Tryz.prog 162 #[.int .i64 d,.float .f64 x,.float .f64 y,.float .f64 z] w fun e w'=>e=.returned (.float .f64 r)∧Below w.heap.size w w':=by
 have hM:M=9218868437227405312:=rfl;have A1:=fun W=>run_float_arith (P:=Tryz.prog) W .mul 26 .f64 x y p hp;have A2:=fun W=>run_float_arith (P:=Tryz.prog) W .add 26 .f64 p z s q1;have A3:=fun W=>run_float_arith (P:=Tryz.prog) W .sub 26 .f64 s p t q2;have A4:=fun W=>run_float_arith (P:=Tryz.prog) W .sub 26 .f64 s t a q3;have A5:=fun W=>run_float_arith (P:=Tryz.prog) W .sub 26 .f64 p a b q4;have A6:=fun W=>run_float_arith (P:=Tryz.prog) W .sub 26 .f64 z t c q5;have A7:=fun W=>run_float_arith (P:=Tryz.prog) W .add 26 .f64 b c f q6;have A8:=fun W=>run_float_arith (P:=Tryz.prog) W .mul 26 .f64 (rungOf s) 4359484439294640128 q hq;have A9:=fun W=>run_float_arith (P:=Tryz.prog) W .add 26 .f64 e f g hg;have HX0:=fun W=>middle_any x W hx (by omega);have HY0:=fun W=>middle_any y W hy (by omega);have HQ0:=fun W=>middle_any p W hp1 hp2;rw [mx] at HX0;rw [my] at HY0;rw [mp] at HQ0;have HX:=Hd HX0;have HY:=Hd HY0;have HQ:=Hd HQ0;have HZ:=Hd fun W=>abs_any z W hz;have HE:=Hd fun W=>abs_any e W he;have HS:=Hd fun W=>abs_any s W hs;have HMI:=Hd hmi;have HN:=Hd hn
 have ho:(decide (rungOf x=M) || decide (rungOf y=M))=false:=by
  rw [decide_eq_false (by omega),decide_eq_false (by omega)];rfl
 have HO0:=fun (W:World) (hb:Below w.heap.size w W)=>odd_two W.heap.size x y (W.alloc (.cells #[.float .f64 x,.float .f64 y] 26)) hx hy (by omega) (by omega) (by simp [World.cell?_alloc_new]) (by simp [World.cell?_alloc_new]);rw [ho] at HO0;have HO:=Hd HO0
 have HP0:=odd_one (w.heap.size+1) z ((w.alloc (.cells #[.float .f64 x,.float .f64 y] 26)).alloc (.cells #[.float .f64 z] 26)) hz (by omega) (by
  have h:=World.cell?_alloc_new (w.alloc (.cells #[.float .f64 x,.float .f64 y] 26)) #[.float .f64 z] 26 0;rw [show (w.alloc (.cells #[.float .f64 x,.float .f64 y] 26)).heap.size=w.heap.size+1 from by simp] at h
  rw [h];rfl)
 rw [show decide (rungOf z=M)=false from decide_eq_false (by omega)] at HP0;have HOZ:=Hd HP0;have LB:=Hd (show Below w.heap.size w ((w.alloc (.cells #[.float .f64 x,.float .f64 y] 26)).alloc (.cells #[.float .f64 z] 26)) from (below_alloc w _).alloc (by simp) _)
 obtain⟨Z,eZ⟩:∃ v,rungOf z=v:=⟨_,rfl⟩
 obtain⟨E,eE⟩:∃ v,rungOf e=v:=⟨_,rfl⟩
 obtain⟨S,eS⟩:∃ v,rungOf s=v:=⟨_,rfl⟩
 rw [eZ] at HZ gz;rw [eE] at HE ho2;rw [eS] at HS hsm A8;clear HO0 HP0 ho rx ry rz hx hy hz hM hp hp1 hp2 mx my mp HX0 HY0 HQ0 hmi hn q1 q2 q3 q4 q5 q6 he hs hq hg eZ eE eS;have GZh:=Hd gz;have HFZh:=Hd hfz;have HEZh:=Hd hez;have HSMh:=Hd hsm;have A8h:=Hd A8;have HO2h:=Hd ho2;clear gz hfz hez hsm A8 ho2
 rcases hc with ⟨k1,rfl⟩ | ⟨rfl,rfl⟩
 ·rcases k1 with rfl | rfl
  all_goals
   go_enter Tryz.func162,Tryz.ntmps162
   go_wp2_with fail
   go_step3
   go_wp2_with fail;refine (HO.out _ (Below.refl _ _)).mono ?_;rintro e w' ⟨rfl,rfl⟩;go_wp2_with fail;refine (HOZ.out).mono ?_;rintro e w' ⟨rfl,rfl⟩;go_wp2_with fail;refine (HX.out _).mono ?_;rintro e w' ⟨rfl,rfl⟩;go_wp2_with fail;refine (HY.out _).mono ?_;rintro e w' ⟨rfl,rfl⟩;go_wp2_with fail;refine (HQ.out _).mono ?_;rintro e w' ⟨rfl,rfl⟩;go_wp2_with fail;refine (HZ.out _).mono ?_;rintro e w' ⟨rfl,rfl⟩
   have gz:(FloatKind.f64.format.order Z 8660422083433463808 == some Ordering.gt)=false:=by have h:=GZh.out;simpa using h
   go_wp2_with fail;clear gz;refine (HMI.out _).mono ?_;rintro e w' ⟨rfl,rfl⟩;have hfz:=HFZh.out;have hez:=HEZh.out;go_wp2_with fail;refine (HS.out _).mono ?_;rintro e w' ⟨rfl,rfl⟩
   have hsm:(FloatKind.f64.format.order S 553942754166571008 == some Ordering.lt)=false:=by have h:=HSMh.out;simpa using h
   go_wp2_with fail;refine (HN.out _).mono ?_;rintro e w' ⟨rfl,rfl⟩;go_wp2
   try rw [Exit.noGoto_ret]
   go_ret
   exact⟨rfl,LB.out⟩
 ·skip
  go_enter Tryz.func162,Tryz.ntmps162
  go_wp2_with fail
  go_step3
  go_wp2_with fail;refine (HO.out _ (Below.refl _ _)).mono ?_;rintro e w' ⟨rfl,rfl⟩;go_wp2_with fail;refine (HOZ.out).mono ?_;rintro e w' ⟨rfl,rfl⟩;go_wp2_with fail;refine (HX.out _).mono ?_;rintro e w' ⟨rfl,rfl⟩;go_wp2_with fail;refine (HY.out _).mono ?_;rintro e w' ⟨rfl,rfl⟩;go_wp2_with fail;refine (HQ.out _).mono ?_;rintro e w' ⟨rfl,rfl⟩;go_wp2_with fail;refine (HZ.out _).mono ?_;rintro e w' ⟨rfl,rfl⟩
  have gz:(FloatKind.f64.format.order Z 8660422083433463808 == some Ordering.gt)=false:=by have h:=GZh.out;simpa using h
  go_wp2_with fail;clear gz;refine (HMI.out _).mono ?_;rintro e w' ⟨rfl,rfl⟩;have hfz:=HFZh.out;go_wp2_with fail;refine (HS.out _).mono ?_;rintro e w' ⟨rfl,rfl⟩
  have hsm:(FloatKind.f64.format.order S 553942754166571008 == some Ordering.lt)=false:=by have h:=HSMh.out;simpa using h
  go_wp2_with fail;refine (HE.out _).mono ?_;rintro e w' ⟨rfl,rfl⟩;go_wp2_with fail;refine (HS.out _).mono ?_;rintro e w' ⟨rfl,rfl⟩;have A8:=A8h.out;have ho2:=HO2h.out;go_wp2_with fail;refine (HN.out _).mono ?_;rintro e w' ⟨rfl,rfl⟩;go_wp2
  try rw [Exit.noGoto_ret]
  go_ret
  exact⟨rfl,LB.out⟩
set_option maxRecDepth 8000 in
theorem rfma_exact1(d:Int)(x y z p:Nat)(w:World)(hd:d=-1∨d=1)(hx:x<18446744073709551616)(hy:y<18446744073709551616)(hz:z<18446744073709551616)(rx:rungOf x<M)(ry:rungOf y<M)(rz:rungOf z<M)(hp:FloatKind.f64.format.mul x y=some p)(hp1:p<18446744073709551616)(hp2:rungOf p≤M)(gz:Bool)
  (hgz:(FloatKind.f64.format.order (rungOf z) 8660422083433463808 == some Ordering.gt)=gz)(hm:¬ (mid x=true∧mid y=true∧mid p=true∧gz=false)):
  Calls Tryz.prog 162 #[.int .i64 d,.float .f64 x,.float .f64 y,.float .f64 z] w fun e w'=>e=.returned (.float .f64 (pat (rndI d (fl (idx x)*fl (idx y)+fl (idx z)))))∧Below w.heap.size w w':=by
 have hM:M=9218868437227405312:=rfl;have A1:=fun W=>run_float_arith (P:=Tryz.prog) W .mul 26 .f64 x y p hp;obtain⟨S1,e1,b1,l1,u1,v1,HP1⟩:=part_any x hx rx;obtain⟨S2,e2,b2,l2,u2,v2,HP2⟩:=part_any y hy ry;obtain⟨S3,e3,b3,l3,u3,v3,HP3⟩:=part_any z hz rz;have k1:blen S1≤53:=blen_le_iff.2 (show S1<2^53 from b1);have k2:blen S2≤53:=blen_le_iff.2 (show S2<2^53 from b2);have k3:blen S3≤53:=blen_le_iff.2 (show S3<2^53 from b3)
 have kb:blen (S1*S2)≤106:=blen_le_iff.2 (by
  refine Nat.lt_of_le_of_lt (Nat.mul_le_mul_left S1 (Nat.le_of_lt b2)) ?_;rw [show (2:Nat)^106=2^53*2^53 from by rw [← Nat.pow_add]]
  exact (Nat.mul_lt_mul_right (by omega)).2 b1)
 have hV:rv (sgn x != sgn y) (S1*S2) 1*2^(e1+e2)=fl (idx x)*fl (idx y):=by
  have hm:=rv_mul (sgn x) (sgn y) S1 1 S2 1;rw [Nat.mul_one] at hm;rw [v1,v2,zpow_add,← hm]
  grind
 have HM0:=fun (A1:Option Addr) (m1 c1:Nat) (A2:Option Addr) (m2 c2:Nat) (W:World) (h1:U32s W A1 m1 c1 (digs S1)) (h2:U32s W A2 m2 c2 (digs S2))=>rprod_any (sgn x) A1 m1 c1 S1 e1 (sgn y) A2 m2 c2 S2 e2 W h1 h2 b1 b2 (by omega) (by omega)
 obtain⟨np,hnp⟩:∃ v,(sgn x != sgn y)=v:=⟨_,rfl⟩
 obtain⟨SP,hSP⟩:∃ v,S1*S2=v:=⟨_,rfl⟩
 obtain⟨eP,heP⟩:∃ v,e1+e2=v:=⟨_,rfl⟩
 rw [hnp,hSP,heP] at hV HM0;rw [hSP] at kb;have hB:=dsF_bound np SP eP (sgn z) S3 e3 4000 (by omega) (by omega);have hW:=dsF_val np SP eP (sgn z) S3 e3;rw [hV,← v3] at hW;have HS0:=fun (A1:Option Addr) (m1 c1:Nat) (A2:Option Addr) (m2 c2:Nat) (W:World) (h1:U32s W A1 m1 c1 (digs SP)) (h2:U32s W A2 m2 c2 (digs S3))=>sum_any np A1 m1 c1 SP eP (sgn z) A2 m2 c2 S3 e3 W h1 h2 (by omega) (by omega) (by omega) (by omega)
 obtain⟨n,hn⟩:∃ v,(dsF np SP eP (sgn z) S3 e3).1=v:=⟨_,rfl⟩
 obtain⟨S,hS⟩:∃ v,(dsF np SP eP (sgn z) S3 e3).2.1=v:=⟨_,rfl⟩
 obtain⟨E,hE⟩:∃ v,(dsF np SP eP (sgn z) S3 e3).2.2=v:=⟨_,rfl⟩
 rw [hn,hS,hE] at HS0 hW;rw [hS,hE] at hB;have HT0:=fun (A:Option Addr) (m c:Nat) (W:World) (h:U32s W A m c (digs S))=>to_any d n A m c S E W h hd (by omega) (by omega) (by omega);rw [hW] at HT0;have HPR:=Hd HM0;have HSU:=Hd HS0;have HT:=Hd HT0;have HX1:=Hd HP1;have HX2:=Hd HP2;have HX3:=Hd HP3
 obtain⟨n1,hn1⟩:∃ v,sgn x=v:=⟨_,rfl⟩
 obtain⟨n2,hn2⟩:∃ v,sgn y=v:=⟨_,rfl⟩
 obtain⟨n3,hn3⟩:∃ v,sgn z=v:=⟨_,rfl⟩
 rw [hn1] at HX1 HPR;rw [hn2] at HX2 HPR;rw [hn3] at HX3 HSU;clear HP1 HP2 HP3 HM0 HS0 HT0 hS hE hn hW hV hB kb k1 k2 k3 b1 b2 b3 l1 l2 l3 u1 u2 u3 v1 v2 v3 hn1 hn2 hn3 hnp hSP heP
 have ho:(decide (rungOf x=M) || decide (rungOf y=M))=false:=by
  rw [decide_eq_false (by omega),decide_eq_false (by omega)];rfl
 have HO0:=fun (W:World) (hb:Below w.heap.size w W)=>odd_two W.heap.size x y (W.alloc (.cells #[.float .f64 x,.float .f64 y] 26)) hx hy (by omega) (by omega) (by simp [World.cell?_alloc_new]) (by simp [World.cell?_alloc_new]);rw [ho] at HO0;have HO:=Hd HO0
 have HP0:=odd_one (w.heap.size+1) z ((w.alloc (.cells #[.float .f64 x,.float .f64 y] 26)).alloc (.cells #[.float .f64 z] 26)) hz (by omega) (by
  have h:=World.cell?_alloc_new (w.alloc (.cells #[.float .f64 x,.float .f64 y] 26)) #[.float .f64 z] 26 0;rw [show (w.alloc (.cells #[.float .f64 x,.float .f64 y] 26)).heap.size=w.heap.size+1 from by simp] at h
  rw [h];rfl)
 rw [show decide (rungOf z=M)=false from decide_eq_false (by omega)] at HP0;have HOZ:=Hd HP0;have LB:=Hd (show Below w.heap.size w ((w.alloc (.cells #[.float .f64 x,.float .f64 y] 26)).alloc (.cells #[.float .f64 z] 26)) from (below_alloc w _).alloc (by simp) _);have HX0:=fun W=>middle_any x W hx (by omega);have HY0:=fun W=>middle_any y W hy (by omega);have HQ0:=fun W=>middle_any p W hp1 hp2
 obtain⟨mx,ex⟩:∃ v,mid x=v:=⟨_,rfl⟩
 obtain⟨my,ey⟩:∃ v,mid y=v:=⟨_,rfl⟩
 obtain⟨mp,ep⟩:∃ v,mid p=v:=⟨_,rfl⟩
 rw [ex] at HX0 hm;rw [ey] at HY0 hm;rw [ep] at HQ0 hm;have HX:=Hd HX0;have HY:=Hd HY0;have HQ:=Hd HQ0;have HZ:=Hd fun W=>abs_any z W hz
 have hc:mx=false∨(mx=true∧my=false)∨(mx=true∧my=true∧mp=false)∨(mx=true∧my=true∧mp=true∧gz=true):=by
  cases mx
  ·exact .inl rfl
  ·cases my
   ·exact .inr (.inl ⟨rfl,rfl⟩)
   ·cases mp
    ·exact .inr (.inr (.inl ⟨rfl,rfl,rfl⟩))
    ·cases gz
     ·exact absurd ⟨rfl,rfl,rfl,rfl⟩ hm
     ·exact .inr (.inr (.inr ⟨rfl,rfl,rfl,rfl⟩))
 obtain⟨r,hr⟩:∃ r,pat (rndI d (fl (idx x)*fl (idx y)+fl (idx z)))=r:=⟨_,rfl⟩
 rw [hr] at HT ⊢
 obtain⟨Z,eZ⟩:∃ v,rungOf z=v:=⟨_,rfl⟩
 rw [eZ] at HZ hgz;clear HO0 HP0 ho hr rx ry rz hx hy hz hd hM hm ex ey ep HX0 HY0 HQ0 hp1 hp2 hp eZ;have GZh:=Hd hgz;clear hgz
 rcases hc with rfl | ⟨rfl,rfl⟩ | ⟨rfl,rfl,rfl⟩ | ⟨rfl,rfl,rfl,rfl⟩
 ·skip
  go_enter Tryz.func162,Tryz.ntmps162
  go_wp2_with fail
  apply scope_once 0 _ _ rfl
  focus
   go_wp2_with fail;refine (HO.out _ (Below.refl _ _)).mono ?_;rintro e w' ⟨rfl,rfl⟩;go_wp2_with fail;refine (HOZ.out).mono ?_;rintro e w' ⟨rfl,rfl⟩;go_wp2_with fail;refine (HX.out _).mono ?_;rintro e w' ⟨rfl,rfl⟩;go_wp2_with fail
   try go_step3
   exact⟨rfl,rfl,rfl⟩
  clear HO HOZ HX HY HQ HZ GZh A1;generalize (w.alloc (.cells #[.float .f64 x,.float .f64 y] 26)).alloc (.cells #[.float .f64 z] 26)=wa at LB ⊢;go_wp2_with fail;refine (HX1.out _).mono ?_;rintro e w1 ⟨A1,m1,c1,rfl,hu1,hb1⟩;have LB1:=Hd (LB.out.trans (hb1.mono LB.out.size));have U1:=Hd hu1;clear hu1 hb1 LB;go_wp2_with fail;refine (HX2.out _).mono ?_;rintro e w2 ⟨A2,m2,c2,rfl,hu2,hb2⟩;have LB2:=stB LB1 hb2 LB1.out.size;have V1:=Hd (U1.out.below hb2);have V2:=Hd hu2;clear hu2 hb2 LB1 U1;go_wp2_with fail;refine (HPR.out _ _ _ _ _ _ _ V1.out V2.out).mono ?_;rintro e w3 ⟨A3,m3,c3,rfl,hu3,hb3⟩;have LB3:=stB LB2 hb3 LB2.out.size;have V3:=Hd hu3;clear hu3 hb3 LB2 V1 V2;go_wp2_with fail;refine (HX3.out _).mono ?_;rintro e w4 ⟨A4,m4,c4,rfl,hu4,hb4⟩;have LB4:=stB LB3 hb4 LB3.out.size;have V4:=Hd (V3.out.below hb4);have V5:=Hd hu4;clear hu4 hb4 LB3 V3;go_wp2_with fail;refine (HSU.out _ _ _ _ _ _ _ V4.out V5.out).mono ?_;rintro e w5 ⟨A5,m5,c5,rfl,hu5,hb5⟩;have LB5:=stB LB4 hb5 LB4.out.size;have V6:=Hd hu5;clear hu5 hb5 LB4 V4 V5;go_wp2_with fail;refine (HT.out _ _ _ _ V6.out).mono ?_;rintro e w6 ⟨rfl,hb6⟩;have LB6:=stB LB5 hb6 LB5.out.size;clear hb6 LB5 V6;go_wp2
  simp only [Exit.jump]
  go_ret
  exact⟨rfl,LB6.out⟩
 ·skip
  go_enter Tryz.func162,Tryz.ntmps162
  go_wp2_with fail
  apply scope_once 0 _ _ rfl
  focus
   go_wp2_with fail;refine (HO.out _ (Below.refl _ _)).mono ?_;rintro e w' ⟨rfl,rfl⟩;go_wp2_with fail;refine (HOZ.out).mono ?_;rintro e w' ⟨rfl,rfl⟩;go_wp2_with fail;refine (HX.out _).mono ?_;rintro e w' ⟨rfl,rfl⟩;go_wp2_with fail;refine (HY.out _).mono ?_;rintro e w' ⟨rfl,rfl⟩;go_wp2_with fail
   try go_step3
   exact⟨rfl,rfl,rfl⟩
  clear HO HOZ HX HY HQ HZ GZh A1;generalize (w.alloc (.cells #[.float .f64 x,.float .f64 y] 26)).alloc (.cells #[.float .f64 z] 26)=wa at LB ⊢;go_wp2_with fail;refine (HX1.out _).mono ?_;rintro e w1 ⟨A1,m1,c1,rfl,hu1,hb1⟩;have LB1:=Hd (LB.out.trans (hb1.mono LB.out.size));have U1:=Hd hu1;clear hu1 hb1 LB;go_wp2_with fail;refine (HX2.out _).mono ?_;rintro e w2 ⟨A2,m2,c2,rfl,hu2,hb2⟩;have LB2:=stB LB1 hb2 LB1.out.size;have V1:=Hd (U1.out.below hb2);have V2:=Hd hu2;clear hu2 hb2 LB1 U1;go_wp2_with fail;refine (HPR.out _ _ _ _ _ _ _ V1.out V2.out).mono ?_;rintro e w3 ⟨A3,m3,c3,rfl,hu3,hb3⟩;have LB3:=stB LB2 hb3 LB2.out.size;have V3:=Hd hu3;clear hu3 hb3 LB2 V1 V2;go_wp2_with fail;refine (HX3.out _).mono ?_;rintro e w4 ⟨A4,m4,c4,rfl,hu4,hb4⟩;have LB4:=stB LB3 hb4 LB3.out.size;have V4:=Hd (V3.out.below hb4);have V5:=Hd hu4;clear hu4 hb4 LB3 V3;go_wp2_with fail;refine (HSU.out _ _ _ _ _ _ _ V4.out V5.out).mono ?_;rintro e w5 ⟨A5,m5,c5,rfl,hu5,hb5⟩;have LB5:=stB LB4 hb5 LB4.out.size;have V6:=Hd hu5;clear hu5 hb5 LB4 V4 V5;go_wp2_with fail;refine (HT.out _ _ _ _ V6.out).mono ?_;rintro e w6 ⟨rfl,hb6⟩;have LB6:=stB LB5 hb6 LB5.out.size;clear hb6 LB5 V6;go_wp2
  simp only [Exit.jump]
  go_ret
  exact⟨rfl,LB6.out⟩
 ·skip
  go_enter Tryz.func162,Tryz.ntmps162
  go_wp2_with fail
  apply scope_once 0 _ _ rfl
  focus
   go_wp2_with fail;refine (HO.out _ (Below.refl _ _)).mono ?_;rintro e w' ⟨rfl,rfl⟩;go_wp2_with fail;refine (HOZ.out).mono ?_;rintro e w' ⟨rfl,rfl⟩;go_wp2_with fail;refine (HX.out _).mono ?_;rintro e w' ⟨rfl,rfl⟩;go_wp2_with fail;refine (HY.out _).mono ?_;rintro e w' ⟨rfl,rfl⟩;go_wp2_with fail;refine (HQ.out _).mono ?_;rintro e w' ⟨rfl,rfl⟩;go_wp2_with fail
   try go_step3
   exact⟨rfl,rfl,rfl⟩
  clear HO HOZ HX HY HQ HZ GZh A1;generalize (w.alloc (.cells #[.float .f64 x,.float .f64 y] 26)).alloc (.cells #[.float .f64 z] 26)=wa at LB ⊢;go_wp2_with fail;refine (HX1.out _).mono ?_;rintro e w1 ⟨A1,m1,c1,rfl,hu1,hb1⟩;have LB1:=Hd (LB.out.trans (hb1.mono LB.out.size));have U1:=Hd hu1;clear hu1 hb1 LB;go_wp2_with fail;refine (HX2.out _).mono ?_;rintro e w2 ⟨A2,m2,c2,rfl,hu2,hb2⟩;have LB2:=stB LB1 hb2 LB1.out.size;have V1:=Hd (U1.out.below hb2);have V2:=Hd hu2;clear hu2 hb2 LB1 U1;go_wp2_with fail;refine (HPR.out _ _ _ _ _ _ _ V1.out V2.out).mono ?_;rintro e w3 ⟨A3,m3,c3,rfl,hu3,hb3⟩;have LB3:=stB LB2 hb3 LB2.out.size;have V3:=Hd hu3;clear hu3 hb3 LB2 V1 V2;go_wp2_with fail;refine (HX3.out _).mono ?_;rintro e w4 ⟨A4,m4,c4,rfl,hu4,hb4⟩;have LB4:=stB LB3 hb4 LB3.out.size;have V4:=Hd (V3.out.below hb4);have V5:=Hd hu4;clear hu4 hb4 LB3 V3;go_wp2_with fail;refine (HSU.out _ _ _ _ _ _ _ V4.out V5.out).mono ?_;rintro e w5 ⟨A5,m5,c5,rfl,hu5,hb5⟩;have LB5:=stB LB4 hb5 LB4.out.size;have V6:=Hd hu5;clear hu5 hb5 LB4 V4 V5;go_wp2_with fail;refine (HT.out _ _ _ _ V6.out).mono ?_;rintro e w6 ⟨rfl,hb6⟩;have LB6:=stB LB5 hb6 LB5.out.size;clear hb6 LB5 V6;go_wp2
  simp only [Exit.jump]
  go_ret
  exact⟨rfl,LB6.out⟩
 ·skip
  go_enter Tryz.func162,Tryz.ntmps162
  go_wp2_with fail
  apply scope_once 0 _ _ rfl
  focus
   go_wp2_with fail;refine (HO.out _ (Below.refl _ _)).mono ?_;rintro e w' ⟨rfl,rfl⟩;go_wp2_with fail;refine (HOZ.out).mono ?_;rintro e w' ⟨rfl,rfl⟩;go_wp2_with fail;refine (HX.out _).mono ?_;rintro e w' ⟨rfl,rfl⟩;go_wp2_with fail;refine (HY.out _).mono ?_;rintro e w' ⟨rfl,rfl⟩;go_wp2_with fail;refine (HQ.out _).mono ?_;rintro e w' ⟨rfl,rfl⟩;go_wp2_with fail;refine (HZ.out _).mono ?_;rintro e w' ⟨rfl,rfl⟩
   have gz:(FloatKind.f64.format.order Z 8660422083433463808 == some Ordering.gt)=true:=by have h:=GZh.out;simpa using h
   go_wp2_with fail
   try go_step3
   exact⟨rfl,rfl,rfl⟩
  clear HO HOZ HX HY HQ HZ GZh A1;generalize (w.alloc (.cells #[.float .f64 x,.float .f64 y] 26)).alloc (.cells #[.float .f64 z] 26)=wa at LB ⊢;go_wp2_with fail;refine (HX1.out _).mono ?_;rintro e w1 ⟨A1,m1,c1,rfl,hu1,hb1⟩;have LB1:=Hd (LB.out.trans (hb1.mono LB.out.size));have U1:=Hd hu1;clear hu1 hb1 LB;go_wp2_with fail;refine (HX2.out _).mono ?_;rintro e w2 ⟨A2,m2,c2,rfl,hu2,hb2⟩;have LB2:=stB LB1 hb2 LB1.out.size;have V1:=Hd (U1.out.below hb2);have V2:=Hd hu2;clear hu2 hb2 LB1 U1;go_wp2_with fail;refine (HPR.out _ _ _ _ _ _ _ V1.out V2.out).mono ?_;rintro e w3 ⟨A3,m3,c3,rfl,hu3,hb3⟩;have LB3:=stB LB2 hb3 LB2.out.size;have V3:=Hd hu3;clear hu3 hb3 LB2 V1 V2;go_wp2_with fail;refine (HX3.out _).mono ?_;rintro e w4 ⟨A4,m4,c4,rfl,hu4,hb4⟩;have LB4:=stB LB3 hb4 LB3.out.size;have V4:=Hd (V3.out.below hb4);have V5:=Hd hu4;clear hu4 hb4 LB3 V3;go_wp2_with fail;refine (HSU.out _ _ _ _ _ _ _ V4.out V5.out).mono ?_;rintro e w5 ⟨A5,m5,c5,rfl,hu5,hb5⟩;have LB5:=stB LB4 hb5 LB4.out.size;have V6:=Hd hu5;clear hu5 hb5 LB4 V4 V5;go_wp2_with fail;refine (HT.out _ _ _ _ V6.out).mono ?_;rintro e w6 ⟨rfl,hb6⟩;have LB6:=stB LB5 hb6 LB5.out.size;clear hb6 LB5 V6;go_wp2
  simp only [Exit.jump]
  go_ret
  exact⟨rfl,LB6.out⟩
set_option maxRecDepth 8000 in
theorem rfma_exact2(d:Int)(x y z p e s t a b c f q:Nat)(sm:Bool)(of oe o2:Ordering)(w:World)(hd:d=-1∨d=1)(hx:x<18446744073709551616)(hy:y<18446744073709551616)(hz:z<18446744073709551616)(rx:rungOf x<M)(ry:rungOf y<M)(rz:rungOf z<M)(hp:FloatKind.f64.format.mul x y=some p)(hp1:p<18446744073709551616)(hp2:rungOf p≤M)(mx:mid x=true)(my:mid y=true)(mp:mid p=true)
  (gz:(FloatKind.f64.format.order (rungOf z) 8660422083433463808 == some Ordering.gt)=false)(hmi:∀ W,Calls Tryz.prog 187 #[.float .f64 x,.float .f64 y,.float .f64 p] W fun e' w'=>e'=.returned (.float .f64 e)∧W=w')(q1:FloatKind.f64.format.add p z=some s)(q2:FloatKind.f64.format.sub s p=some t)(q3:FloatKind.f64.format.sub s t=some a)(q4:FloatKind.f64.format.sub p a=some b)(q5:FloatKind.f64.format.sub z t=some c)(q6:FloatKind.f64.format.add b c=some f)(he:e<18446744073709551616)(hs:s<18446744073709551616)(hfz:FloatKind.f64.format.order f 0=some of)(hez:FloatKind.f64.format.order e 0=some oe)
  (hsm:(FloatKind.f64.format.order (rungOf s) 553942754166571008 == some Ordering.lt)=sm)(hc:((of=.lt∨of=.gt)∧(oe=.lt∨oe=.gt))∨((of=.lt∨of=.gt)∧oe=.eq∧sm=true)∨(of=.eq∧sm=true)∨(of=.eq∧sm=false∧FloatKind.f64.format.mul (rungOf s) 4359484439294640128=some q∧FloatKind.f64.format.order (rungOf e) q=some o2∧(o2=.eq∨o2=.gt))):
  Calls Tryz.prog 162 #[.int .i64 d,.float .f64 x,.float .f64 y,.float .f64 z] w fun e w'=>e=.returned (.float .f64 (pat (rndI d (fl (idx x)*fl (idx y)+fl (idx z)))))∧Below w.heap.size w w':=by
 have hM:M=9218868437227405312:=rfl;have A1:=fun W=>run_float_arith (P:=Tryz.prog) W .mul 26 .f64 x y p hp;have A2:=fun W=>run_float_arith (P:=Tryz.prog) W .add 26 .f64 p z s q1;have A3:=fun W=>run_float_arith (P:=Tryz.prog) W .sub 26 .f64 s p t q2;have A4:=fun W=>run_float_arith (P:=Tryz.prog) W .sub 26 .f64 s t a q3;have A5:=fun W=>run_float_arith (P:=Tryz.prog) W .sub 26 .f64 p a b q4;have A6:=fun W=>run_float_arith (P:=Tryz.prog) W .sub 26 .f64 z t c q5;have A7:=fun W=>run_float_arith (P:=Tryz.prog) W .add 26 .f64 b c f q6;obtain⟨S1,e1,b1,l1,u1,v1,HP1⟩:=part_any x hx rx;obtain⟨S2,e2,b2,l2,u2,v2,HP2⟩:=part_any y hy ry;obtain⟨S3,e3,b3,l3,u3,v3,HP3⟩:=part_any z hz rz;have k1:blen S1≤53:=blen_le_iff.2 (show S1<2^53 from b1);have k2:blen S2≤53:=blen_le_iff.2 (show S2<2^53 from b2);have k3:blen S3≤53:=blen_le_iff.2 (show S3<2^53 from b3)
 have kb:blen (S1*S2)≤106:=blen_le_iff.2 (by
  refine Nat.lt_of_le_of_lt (Nat.mul_le_mul_left S1 (Nat.le_of_lt b2)) ?_;rw [show (2:Nat)^106=2^53*2^53 from by rw [← Nat.pow_add]]
  exact (Nat.mul_lt_mul_right (by omega)).2 b1)
 have hV:rv (sgn x != sgn y) (S1*S2) 1*2^(e1+e2)=fl (idx x)*fl (idx y):=by
  have hm:=rv_mul (sgn x) (sgn y) S1 1 S2 1;rw [Nat.mul_one] at hm;rw [v1,v2,zpow_add,← hm]
  grind
 have HM0:=fun (A1:Option Addr) (m1 c1:Nat) (A2:Option Addr) (m2 c2:Nat) (W:World) (h1:U32s W A1 m1 c1 (digs S1)) (h2:U32s W A2 m2 c2 (digs S2))=>rprod_any (sgn x) A1 m1 c1 S1 e1 (sgn y) A2 m2 c2 S2 e2 W h1 h2 b1 b2 (by omega) (by omega)
 obtain⟨np,hnp⟩:∃ v,(sgn x != sgn y)=v:=⟨_,rfl⟩
 obtain⟨SP,hSP⟩:∃ v,S1*S2=v:=⟨_,rfl⟩
 obtain⟨eP,heP⟩:∃ v,e1+e2=v:=⟨_,rfl⟩
 rw [hnp,hSP,heP] at hV HM0;rw [hSP] at kb;have hB:=dsF_bound np SP eP (sgn z) S3 e3 4000 (by omega) (by omega);have hW:=dsF_val np SP eP (sgn z) S3 e3;rw [hV,← v3] at hW;have HS0:=fun (A1:Option Addr) (m1 c1:Nat) (A2:Option Addr) (m2 c2:Nat) (W:World) (h1:U32s W A1 m1 c1 (digs SP)) (h2:U32s W A2 m2 c2 (digs S3))=>sum_any np A1 m1 c1 SP eP (sgn z) A2 m2 c2 S3 e3 W h1 h2 (by omega) (by omega) (by omega) (by omega)
 obtain⟨n,hn⟩:∃ v,(dsF np SP eP (sgn z) S3 e3).1=v:=⟨_,rfl⟩
 obtain⟨S,hS⟩:∃ v,(dsF np SP eP (sgn z) S3 e3).2.1=v:=⟨_,rfl⟩
 obtain⟨E,hE⟩:∃ v,(dsF np SP eP (sgn z) S3 e3).2.2=v:=⟨_,rfl⟩
 rw [hn,hS,hE] at HS0 hW;rw [hS,hE] at hB;have HT0:=fun (A:Option Addr) (m c:Nat) (W:World) (h:U32s W A m c (digs S))=>to_any d n A m c S E W h hd (by omega) (by omega) (by omega);rw [hW] at HT0;have HPR:=Hd HM0;have HSU:=Hd HS0;have HT:=Hd HT0;have HX1:=Hd HP1;have HX2:=Hd HP2;have HX3:=Hd HP3
 obtain⟨n1,hn1⟩:∃ v,sgn x=v:=⟨_,rfl⟩
 obtain⟨n2,hn2⟩:∃ v,sgn y=v:=⟨_,rfl⟩
 obtain⟨n3,hn3⟩:∃ v,sgn z=v:=⟨_,rfl⟩
 rw [hn1] at HX1 HPR;rw [hn2] at HX2 HPR;rw [hn3] at HX3 HSU;clear HP1 HP2 HP3 HM0 HS0 HT0 hS hE hn hW hV hB kb k1 k2 k3 b1 b2 b3 l1 l2 l3 u1 u2 u3 v1 v2 v3 hn1 hn2 hn3 hnp hSP heP
 have ho:(decide (rungOf x=M) || decide (rungOf y=M))=false:=by
  rw [decide_eq_false (by omega),decide_eq_false (by omega)];rfl
 have HO0:=fun (W:World) (hb:Below w.heap.size w W)=>odd_two W.heap.size x y (W.alloc (.cells #[.float .f64 x,.float .f64 y] 26)) hx hy (by omega) (by omega) (by simp [World.cell?_alloc_new]) (by simp [World.cell?_alloc_new]);rw [ho] at HO0;have HO:=Hd HO0
 have HP0:=odd_one (w.heap.size+1) z ((w.alloc (.cells #[.float .f64 x,.float .f64 y] 26)).alloc (.cells #[.float .f64 z] 26)) hz (by omega) (by
  have h:=World.cell?_alloc_new (w.alloc (.cells #[.float .f64 x,.float .f64 y] 26)) #[.float .f64 z] 26 0;rw [show (w.alloc (.cells #[.float .f64 x,.float .f64 y] 26)).heap.size=w.heap.size+1 from by simp] at h
  rw [h];rfl)
 rw [show decide (rungOf z=M)=false from decide_eq_false (by omega)] at HP0;have HOZ:=Hd HP0;have LB:=Hd (show Below w.heap.size w ((w.alloc (.cells #[.float .f64 x,.float .f64 y] 26)).alloc (.cells #[.float .f64 z] 26)) from (below_alloc w _).alloc (by simp) _);have HX0:=fun W=>middle_any x W hx (by omega);have HY0:=fun W=>middle_any y W hy (by omega);have HQ0:=fun W=>middle_any p W hp1 hp2;rw [mx] at HX0;rw [my] at HY0;rw [mp] at HQ0;have HX:=Hd HX0;have HY:=Hd HY0;have HQ:=Hd HQ0;have HZ:=Hd fun W=>abs_any z W hz;have HE:=Hd fun W=>abs_any e W he;have HS:=Hd fun W=>abs_any s W hs;have HMI:=Hd hmi
 obtain⟨r,hr⟩:∃ r,pat (rndI d (fl (idx x)*fl (idx y)+fl (idx z)))=r:=⟨_,rfl⟩
 rw [hr] at HT ⊢
 obtain⟨Z,eZ⟩:∃ v,rungOf z=v:=⟨_,rfl⟩
 obtain⟨E',eE⟩:∃ v,rungOf e=v:=⟨_,rfl⟩
 obtain⟨S',eS⟩:∃ v,rungOf s=v:=⟨_,rfl⟩
 rw [eZ] at HZ gz;rw [eE] at HE hc;rw [eS] at HS hsm hc;clear HO0 HP0 ho hr rx ry rz hx hy hz hd hM hp hp1 hp2 mx my mp HX0 HY0 HQ0 hmi q1 q2 q3 q4 q5 q6 he hs eZ eE eS;have GZh:=Hd gz;have HFZh:=Hd hfz;have HEZh:=Hd hez;have HSMh:=Hd hsm;clear gz hfz hez hsm
 rcases hc with ⟨k1,k2⟩ | ⟨k1,rfl,rfl⟩ | ⟨rfl,rfl⟩ | ⟨rfl,rfl,hq,ho2,k1⟩
 ·rcases k1 with rfl | rfl<;>rcases k2 with rfl | rfl
  all_goals
   go_enter Tryz.func162,Tryz.ntmps162
   go_wp2_with fail
   apply scope_once 0 _ _ rfl
   focus
    go_wp2_with fail;refine (HO.out _ (Below.refl _ _)).mono ?_;rintro e w' ⟨rfl,rfl⟩;go_wp2_with fail;refine (HOZ.out).mono ?_;rintro e w' ⟨rfl,rfl⟩;go_wp2_with fail;refine (HX.out _).mono ?_;rintro e w' ⟨rfl,rfl⟩;go_wp2_with fail;refine (HY.out _).mono ?_;rintro e w' ⟨rfl,rfl⟩;go_wp2_with fail;refine (HQ.out _).mono ?_;rintro e w' ⟨rfl,rfl⟩;go_wp2_with fail;refine (HZ.out _).mono ?_;rintro e w' ⟨rfl,rfl⟩
    have gz:(FloatKind.f64.format.order Z 8660422083433463808 == some Ordering.gt)=false:=by have h:=GZh.out;simpa using h
    go_wp2_with fail;clear gz;refine (HMI.out _).mono ?_;rintro e w' ⟨rfl,rfl⟩;have hfz:=HFZh.out;have hez:=HEZh.out;go_wp2_with fail
    try go_step3
    exact⟨rfl,rfl,rfl⟩
   clear HO HOZ HX HY HQ HZ HE HS HMI A1 A2 A3 A4 A5 A6 A7 GZh HFZh HEZh HSMh;generalize (w.alloc (.cells #[.float .f64 x,.float .f64 y] 26)).alloc (.cells #[.float .f64 z] 26)=wa at LB ⊢;go_wp2_with fail;refine (HX1.out _).mono ?_;rintro e w1 ⟨A1,m1,c1,rfl,hu1,hb1⟩;have LB1:=Hd (LB.out.trans (hb1.mono LB.out.size));have U1:=Hd hu1;clear hu1 hb1 LB;go_wp2_with fail;refine (HX2.out _).mono ?_;rintro e w2 ⟨A2,m2,c2,rfl,hu2,hb2⟩;have LB2:=stB LB1 hb2 LB1.out.size;have V1:=Hd (U1.out.below hb2);have V2:=Hd hu2;clear hu2 hb2 LB1 U1;go_wp2_with fail;refine (HPR.out _ _ _ _ _ _ _ V1.out V2.out).mono ?_;rintro e w3 ⟨A3,m3,c3,rfl,hu3,hb3⟩;have LB3:=stB LB2 hb3 LB2.out.size;have V3:=Hd hu3;clear hu3 hb3 LB2 V1 V2;go_wp2_with fail;refine (HX3.out _).mono ?_;rintro e w4 ⟨A4,m4,c4,rfl,hu4,hb4⟩;have LB4:=stB LB3 hb4 LB3.out.size;have V4:=Hd (V3.out.below hb4);have V5:=Hd hu4;clear hu4 hb4 LB3 V3;go_wp2_with fail;refine (HSU.out _ _ _ _ _ _ _ V4.out V5.out).mono ?_;rintro e w5 ⟨A5,m5,c5,rfl,hu5,hb5⟩;have LB5:=stB LB4 hb5 LB4.out.size;have V6:=Hd hu5;clear hu5 hb5 LB4 V4 V5;go_wp2_with fail;refine (HT.out _ _ _ _ V6.out).mono ?_;rintro e w6 ⟨rfl,hb6⟩;have LB6:=stB LB5 hb6 LB5.out.size;clear hb6 LB5 V6;go_wp2
   simp only [Exit.jump]
   go_ret
   exact⟨rfl,LB6.out⟩
 ·rcases k1 with rfl | rfl
  all_goals
   go_enter Tryz.func162,Tryz.ntmps162
   go_wp2_with fail
   apply scope_once 0 _ _ rfl
   focus
    go_wp2_with fail;refine (HO.out _ (Below.refl _ _)).mono ?_;rintro e w' ⟨rfl,rfl⟩;go_wp2_with fail;refine (HOZ.out).mono ?_;rintro e w' ⟨rfl,rfl⟩;go_wp2_with fail;refine (HX.out _).mono ?_;rintro e w' ⟨rfl,rfl⟩;go_wp2_with fail;refine (HY.out _).mono ?_;rintro e w' ⟨rfl,rfl⟩;go_wp2_with fail;refine (HQ.out _).mono ?_;rintro e w' ⟨rfl,rfl⟩;go_wp2_with fail;refine (HZ.out _).mono ?_;rintro e w' ⟨rfl,rfl⟩
    have gz:(FloatKind.f64.format.order Z 8660422083433463808 == some Ordering.gt)=false:=by have h:=GZh.out;simpa using h
    go_wp2_with fail;clear gz;refine (HMI.out _).mono ?_;rintro e w' ⟨rfl,rfl⟩;have hfz:=HFZh.out;have hez:=HEZh.out;go_wp2_with fail;refine (HS.out _).mono ?_;rintro e w' ⟨rfl,rfl⟩
    have hsm:(FloatKind.f64.format.order S' 553942754166571008 == some Ordering.lt)=true:=by have h:=HSMh.out;simpa using h
    go_wp2_with fail
    try go_step3
    exact⟨rfl,rfl,rfl⟩
   clear HO HOZ HX HY HQ HZ HE HS HMI A1 A2 A3 A4 A5 A6 A7 GZh HFZh HEZh HSMh;generalize (w.alloc (.cells #[.float .f64 x,.float .f64 y] 26)).alloc (.cells #[.float .f64 z] 26)=wa at LB ⊢;go_wp2_with fail;refine (HX1.out _).mono ?_;rintro e w1 ⟨A1,m1,c1,rfl,hu1,hb1⟩;have LB1:=Hd (LB.out.trans (hb1.mono LB.out.size));have U1:=Hd hu1;clear hu1 hb1 LB;go_wp2_with fail;refine (HX2.out _).mono ?_;rintro e w2 ⟨A2,m2,c2,rfl,hu2,hb2⟩;have LB2:=stB LB1 hb2 LB1.out.size;have V1:=Hd (U1.out.below hb2);have V2:=Hd hu2;clear hu2 hb2 LB1 U1;go_wp2_with fail;refine (HPR.out _ _ _ _ _ _ _ V1.out V2.out).mono ?_;rintro e w3 ⟨A3,m3,c3,rfl,hu3,hb3⟩;have LB3:=stB LB2 hb3 LB2.out.size;have V3:=Hd hu3;clear hu3 hb3 LB2 V1 V2;go_wp2_with fail;refine (HX3.out _).mono ?_;rintro e w4 ⟨A4,m4,c4,rfl,hu4,hb4⟩;have LB4:=stB LB3 hb4 LB3.out.size;have V4:=Hd (V3.out.below hb4);have V5:=Hd hu4;clear hu4 hb4 LB3 V3;go_wp2_with fail;refine (HSU.out _ _ _ _ _ _ _ V4.out V5.out).mono ?_;rintro e w5 ⟨A5,m5,c5,rfl,hu5,hb5⟩;have LB5:=stB LB4 hb5 LB4.out.size;have V6:=Hd hu5;clear hu5 hb5 LB4 V4 V5;go_wp2_with fail;refine (HT.out _ _ _ _ V6.out).mono ?_;rintro e w6 ⟨rfl,hb6⟩;have LB6:=stB LB5 hb6 LB5.out.size;clear hb6 LB5 V6;go_wp2
   simp only [Exit.jump]
   go_ret
   exact⟨rfl,LB6.out⟩
 ·skip
  go_enter Tryz.func162,Tryz.ntmps162
  go_wp2_with fail
  apply scope_once 0 _ _ rfl
  focus
   go_wp2_with fail;refine (HO.out _ (Below.refl _ _)).mono ?_;rintro e w' ⟨rfl,rfl⟩;go_wp2_with fail;refine (HOZ.out).mono ?_;rintro e w' ⟨rfl,rfl⟩;go_wp2_with fail;refine (HX.out _).mono ?_;rintro e w' ⟨rfl,rfl⟩;go_wp2_with fail;refine (HY.out _).mono ?_;rintro e w' ⟨rfl,rfl⟩;go_wp2_with fail;refine (HQ.out _).mono ?_;rintro e w' ⟨rfl,rfl⟩;go_wp2_with fail;refine (HZ.out _).mono ?_;rintro e w' ⟨rfl,rfl⟩
   have gz:(FloatKind.f64.format.order Z 8660422083433463808 == some Ordering.gt)=false:=by have h:=GZh.out;simpa using h
   go_wp2_with fail;clear gz;refine (HMI.out _).mono ?_;rintro e w' ⟨rfl,rfl⟩;have hfz:=HFZh.out;go_wp2_with fail;refine (HS.out _).mono ?_;rintro e w' ⟨rfl,rfl⟩
   have hsm:(FloatKind.f64.format.order S' 553942754166571008 == some Ordering.lt)=true:=by have h:=HSMh.out;simpa using h
   go_wp2_with fail
   try go_step3
   exact⟨rfl,rfl,rfl⟩
  clear HO HOZ HX HY HQ HZ HE HS HMI A1 A2 A3 A4 A5 A6 A7 GZh HFZh HEZh HSMh;generalize (w.alloc (.cells #[.float .f64 x,.float .f64 y] 26)).alloc (.cells #[.float .f64 z] 26)=wa at LB ⊢;go_wp2_with fail;refine (HX1.out _).mono ?_;rintro e w1 ⟨A1,m1,c1,rfl,hu1,hb1⟩;have LB1:=Hd (LB.out.trans (hb1.mono LB.out.size));have U1:=Hd hu1;clear hu1 hb1 LB;go_wp2_with fail;refine (HX2.out _).mono ?_;rintro e w2 ⟨A2,m2,c2,rfl,hu2,hb2⟩;have LB2:=stB LB1 hb2 LB1.out.size;have V1:=Hd (U1.out.below hb2);have V2:=Hd hu2;clear hu2 hb2 LB1 U1;go_wp2_with fail;refine (HPR.out _ _ _ _ _ _ _ V1.out V2.out).mono ?_;rintro e w3 ⟨A3,m3,c3,rfl,hu3,hb3⟩;have LB3:=stB LB2 hb3 LB2.out.size;have V3:=Hd hu3;clear hu3 hb3 LB2 V1 V2;go_wp2_with fail;refine (HX3.out _).mono ?_;rintro e w4 ⟨A4,m4,c4,rfl,hu4,hb4⟩;have LB4:=stB LB3 hb4 LB3.out.size;have V4:=Hd (V3.out.below hb4);have V5:=Hd hu4;clear hu4 hb4 LB3 V3;go_wp2_with fail;refine (HSU.out _ _ _ _ _ _ _ V4.out V5.out).mono ?_;rintro e w5 ⟨A5,m5,c5,rfl,hu5,hb5⟩;have LB5:=stB LB4 hb5 LB4.out.size;have V6:=Hd hu5;clear hu5 hb5 LB4 V4 V5;go_wp2_with fail;refine (HT.out _ _ _ _ V6.out).mono ?_;rintro e w6 ⟨rfl,hb6⟩;have LB6:=stB LB5 hb6 LB5.out.size;clear hb6 LB5 V6;go_wp2
  simp only [Exit.jump]
  go_ret
  exact⟨rfl,LB6.out⟩
 ·rcases k1 with rfl | rfl
  all_goals
   have A8:=fun W=>run_float_arith (P:=Tryz.prog) W .mul 26 .f64 S' 4359484439294640128 q hq;have A8h:=Hd A8;have HO2h:=Hd ho2;clear hq A8 ho2
   go_enter Tryz.func162,Tryz.ntmps162
   go_wp2_with fail
   apply scope_once 0 _ _ rfl
   focus
    go_wp2_with fail;refine (HO.out _ (Below.refl _ _)).mono ?_;rintro e w' ⟨rfl,rfl⟩;go_wp2_with fail;refine (HOZ.out).mono ?_;rintro e w' ⟨rfl,rfl⟩;go_wp2_with fail;refine (HX.out _).mono ?_;rintro e w' ⟨rfl,rfl⟩;go_wp2_with fail;refine (HY.out _).mono ?_;rintro e w' ⟨rfl,rfl⟩;go_wp2_with fail;refine (HQ.out _).mono ?_;rintro e w' ⟨rfl,rfl⟩;go_wp2_with fail;refine (HZ.out _).mono ?_;rintro e w' ⟨rfl,rfl⟩
    have gz:(FloatKind.f64.format.order Z 8660422083433463808 == some Ordering.gt)=false:=by have h:=GZh.out;simpa using h
    go_wp2_with fail;clear gz;refine (HMI.out _).mono ?_;rintro e w' ⟨rfl,rfl⟩;have hfz:=HFZh.out;go_wp2_with fail;refine (HS.out _).mono ?_;rintro e w' ⟨rfl,rfl⟩
    have hsm:(FloatKind.f64.format.order S' 553942754166571008 == some Ordering.lt)=false:=by have h:=HSMh.out;simpa using h
    go_wp2_with fail;refine (HE.out _).mono ?_;rintro e w' ⟨rfl,rfl⟩;go_wp2_with fail;refine (HS.out _).mono ?_;rintro e w' ⟨rfl,rfl⟩;have A8:=A8h.out;have ho2:=HO2h.out;go_wp2_with fail
    try go_step3
    exact⟨rfl,rfl,rfl⟩
   clear HO HOZ HX HY HQ HZ HE HS HMI A1 A2 A3 A4 A5 A6 A7 GZh HFZh HEZh HSMh A8h HO2h;generalize (w.alloc (.cells #[.float .f64 x,.float .f64 y] 26)).alloc (.cells #[.float .f64 z] 26)=wa at LB ⊢;go_wp2_with fail;refine (HX1.out _).mono ?_;rintro e w1 ⟨A1,m1,c1,rfl,hu1,hb1⟩;have LB1:=Hd (LB.out.trans (hb1.mono LB.out.size));have U1:=Hd hu1;clear hu1 hb1 LB;go_wp2_with fail;refine (HX2.out _).mono ?_;rintro e w2 ⟨A2,m2,c2,rfl,hu2,hb2⟩;have LB2:=stB LB1 hb2 LB1.out.size;have V1:=Hd (U1.out.below hb2);have V2:=Hd hu2;clear hu2 hb2 LB1 U1;go_wp2_with fail;refine (HPR.out _ _ _ _ _ _ _ V1.out V2.out).mono ?_;rintro e w3 ⟨A3,m3,c3,rfl,hu3,hb3⟩;have LB3:=stB LB2 hb3 LB2.out.size;have V3:=Hd hu3;clear hu3 hb3 LB2 V1 V2;go_wp2_with fail;refine (HX3.out _).mono ?_;rintro e w4 ⟨A4,m4,c4,rfl,hu4,hb4⟩;have LB4:=stB LB3 hb4 LB3.out.size;have V4:=Hd (V3.out.below hb4);have V5:=Hd hu4;clear hu4 hb4 LB3 V3;go_wp2_with fail;refine (HSU.out _ _ _ _ _ _ _ V4.out V5.out).mono ?_;rintro e w5 ⟨A5,m5,c5,rfl,hu5,hb5⟩;have LB5:=stB LB4 hb5 LB4.out.size;have V6:=Hd hu5;clear hu5 hb5 LB4 V4 V5;go_wp2_with fail;refine (HT.out _ _ _ _ V6.out).mono ?_;rintro e w6 ⟨rfl,hb6⟩;have LB6:=stB LB5 hb6 LB5.out.size;clear hb6 LB5 V6;go_wp2
   simp only [Exit.jump]
   go_ret
   exact⟨rfl,LB6.out⟩
end Go.Proofs.YthlmlmfebpjgdaaGreatDoor
