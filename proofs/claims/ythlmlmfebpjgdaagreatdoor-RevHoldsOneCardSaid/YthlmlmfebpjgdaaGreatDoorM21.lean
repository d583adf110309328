/-
Lemmas for the statement: HoneL.
-/
import Derived.Test.YthlmlmfebpjgdaaGreatDoorM11
import Derived.Test.YthlmlmfebpjgdaaGreatDoorM12
import Derived.Test.YthlmlmfebpjgdaaGreatDoorM19
import Derived.Test.YthlmlmfebpjgdaaGreatDoorM18
import Derived.Test.YthlmlmfebpjgdaaGreatDoorM14
import Derived.Test.YthlmlmfebpjgdaaGreatDoorM20
set_option linter.unusedSimpArgs false
set_option linter.unusedVariables false
set_option maxHeartbeats 12800000
namespace Go.Proofs.YthlmlmfebpjgdaaGreatDoor
open Go.RowKit
theorem hd_in{i j:Int}{v:Rat}:hd i j v=true↔In i j v:=hd_true
theorem U32b.ratw{w:World}{K:Nat}{g:Bool}{A:Option Addr}{n c:Nat}{B:Option Addr}{m d:Nat}{xs ys:List Nat}(h:U32b w A n c xs)(h':U32b w B m d ys)(hr:(decide (0<num ys) && decide (n<100) && decide (m<100))=true)(hK:100<=K):
  RatW w K g (.slice A n c) (.slice B m d) (rv g (num xs) (num ys)):=by
 simp only [Bool.and_eq_true,decide_eq_true_eq] at hr
 obtain⟨⟨h0,h1⟩,h2⟩:=hr;have e1:=num_lt h.w32;have e2:=num_lt h'.w32;rw [h.len] at e1;rw [h'.len] at e2
 exact⟨num xs,num ys,A,n,c,B,m,d,rfl,rfl,⟨xs,h.s (by omega),rfl⟩,⟨ys,h'.s (by omega),rfl⟩,h0,⟨by omega,by omega⟩,Nat.lt_of_lt_of_le e1 (Nat.pow_le_pow_right (by omega) (by omega)),Nat.lt_of_lt_of_le e2 (Nat.pow_le_pow_right (by omega) (by omega)),rfl⟩
theorem and15{z:Int}(h1:-9<z)(h2:z<9):∃ m:Nat,bits .and .i64 z 15=(m:Int)/\m<=16/\(0<=z->m=z.natAbs):=by
 have hz:z=-8\/z=-7\/z=-6\/z=-5\/z=-4\/z=-3\/z=-2\/z=-1\/z=0\/z=1\/z=2\/z=3\/z=4\/z=5\/z=6\/z=7\/z=8:=by omega
 rcases hz with rfl | rfl | rfl | rfl | rfl | rfl | rfl | rfl | rfl | rfl | rfl | rfl | rfl | rfl | rfl | rfl | rfl
 ·exact⟨8,by decide,by omega,by omega⟩
 ·exact⟨9,by decide,by omega,by omega⟩
 ·exact⟨10,by decide,by omega,by omega⟩
 ·exact⟨11,by decide,by omega,by omega⟩
 ·exact⟨12,by decide,by omega,by omega⟩
 ·exact⟨13,by decide,by omega,by omega⟩
 ·exact⟨14,by decide,by omega,by omega⟩
 ·exact⟨15,by decide,by omega,by omega⟩
 ·exact⟨0,by decide,by omega,by omega⟩
 ·exact⟨1,by decide,by omega,by omega⟩
 ·exact⟨2,by decide,by omega,by omega⟩
 ·exact⟨3,by decide,by omega,by omega⟩
 ·exact⟨4,by decide,by omega,by omega⟩
 ·exact⟨5,by decide,by omega,by omega⟩
 ·exact⟨6,by decide,by omega,by omega⟩
 ·exact⟨7,by decide,by omega,by omega⟩
 ·exact⟨8,by decide,by omega,by omega⟩
theorem rpow_zero'{v:Rat}:∀ {n:Nat},v ^ n=0->v=0
 | 0,h=>absurd h (by rw [Rat.pow_zero];decide)
 | n+1,h=>by
  rw [Rat.pow_succ] at h
  rcases Rat.mul_eq_zero.1 h with h | h
  ·exact rpow_zero' h
  ·exact h
theorem K1_in:In K1 K1 1:=by
 have e:fl K1=1:=fl_one
 have h0:-(M:Int)<K1:=by decide
 have h1:K1<M:=by decide
 unfold In;rw [<- e,rndI_fl (.inl rfl) h0 h1,rndI_fl (.inr rfl) h0 h1]
 exact⟨Int.le_refl _,Int.le_refl _⟩
set_option maxRecDepth 100000 in
theorem one_full(z:Int)(c1 c2 x1 x2:Nat)(g:Bool)(A:Option Addr)(n c:Nat)(B:Option Addr)(m d:Nat)(ps qs:List Nat)(w:World)(hz1:-9223372036854775808<=z)(hz2:z<9223372036854775808)
  (l1:c1<18446744073709551616)(l2:c2<18446744073709551616)(l3:x1<18446744073709551616)(l4:x2<18446744073709551616)(u1:U32b w A n c ps)(v1:U32b w B m d qs)(hT:Tab w):
  Rt 8 #[.int .i64 z,.agg #[.int .u64 (c1:Int),.int .u64 (c2:Int)],.agg #[.int .u64 (x1:Int),.int .u64 (x2:Int)],Zg g A n c B m d] (.bool true) w:=by
 have i1:=fun W (hW:Below w.heap.size w W)=>is_any g A n c B m d qs _ W u1.small (v1.below hW) rfl
 cases r1:(decide (0<num qs) && decide (n<100) && decide (m<100))
 ·rw [r1] at i1
  exact one_skip0 z c1 c2 x1 x2 g A n c B m d w awake_any i1
 rw [r1] at i1;have w1:=U32b.ratw (K:=100) (g:=g) u1 v1 r1 (Nat.le_refl _)
 obtain⟨v,hy1⟩:∃ y,rv g (num ps) (num qs)=y:=⟨_,rfl⟩
 rw [hy1] at w1;have o1:=fun W (hW:Below w.heap.size w W)=>holds_any x1 x2 100 g A n c B m d v W l3 l4 (w1.below hW) (by omega) (by omega);have vc:=rd_iv c1 c2;have vx:=rd_iv x1 x2;have f1:=fun W=>negrev_any c1 c2 x1 x2 W l1 l2 l3 l4;have f2:=fun W=>absrev_any c1 c2 x1 x2 W l1 l2 l3 l4;have f3:=fun W=>sqrrev_any c1 c2 x1 x2 W l1 l2 l3 l4;have f4:=fun W=>reciprev_any c1 c2 x1 x2 W l1 l2 l3 l4;have f5:=fun W=>isqr_any x1 x2 W l3 l4;have f6:=fun (p q:Nat) (hp:L64 p) (hq:L64 q) W=>sqrtrev_any c1 c2 p q W l1 l2 hp hq;have f7:=fun W t=>pownz_any z c1 c2 x1 x2 W l1 l2 l3 l4 t;have f8:=fun W=>signrev_any c1 c2 x1 x2 W l1 l2 l3 l4;have f9:=fun W=>floorrev_any c1 c2 x1 x2 W l1 l2 l3 l4;have f10:=fun W=>ceilrev_any c1 c2 x1 x2 W l1 l2 l3 l4;have f11:=fun W=>truncrev_any c1 c2 x1 x2 W l1 l2 l3 l4;have f12:=fun W=>evenrev_any c1 c2 x1 x2 W l1 l2 l3 l4;have f13:=fun W=>awayrev_any c1 c2 x1 x2 W l1 l2 l3 l4;have hc:=fun (K:Nat) (hK:34<=K) (hK2:K<=1073741824) y g A n c B m d W (h:RatW W K g (.slice A n c) (.slice B m d) y)=>holds_any c1 c2 K g A n c B m d y W l1 l2 h hK hK2
 obtain⟨⟨ci,cj⟩,rc'⟩:∃ z,rd c1 c2=z:=⟨_,rfl⟩
 obtain⟨⟨xi,xj⟩,rx⟩:∃ z,rd x1 x2=z:=⟨_,rfl⟩
 rw [rc'] at vc f1 f2 f3 f4 f6 f7 f8 f9 f10 f11 f12 f13 hc;rw [rx] at vx o1 f1 f2 f3 f4 f5 f7 f8 f9 f10 f11 f12 f13
 dsimp only at vc vx o1 f1 f2 f3 f4 f5 f6 f7 hc
 cases ha:hd xi xj v
 ·rw [ha] at o1
  exact one_skip1 z c1 c2 x1 x2 g A n c B m d w awake_any i1 o1
 rw [ha] at o1;have ix:=hd_in.1 ha
 have rr:-(M:Int)<=ci/\cj<=M/\-(M:Int)<=xi/\xj<=M:=⟨vc.lo.1,vc.hi.2,vx.lo.1,vx.hi.2⟩
 have xr:-(M:Int)<=xi/\xj<=M:=⟨vx.lo.1,vx.hi.2⟩
 have kp:∀ p:Int × Int,Rg p->In p.1 p.2 v->Kpt w (Zg g A n c B m d) (pat p.1) (pat p.2):=by
  intro p r h W hW;have iv:=in_iv r h;have k:=kept_any p.1 p.2 100 g A n c B m d v W iv.lo iv.hi iv (w1.below hW) (by omega) (by omega);rw [hd_in.2 h] at k
  exact k
 have ivq:=isq_iv vx;have isq:=isq_in ⟨vx.lo.1,vx.hi.2⟩ ix;have f6:=f6 _ _ (pat_lt ivq.lo.1 ivq.lo.2) (pat_lt ivq.hi.1 ivq.hi.2);rw [rd_pat ivq] at f6
 dsimp only at f6
 have s3:rsg v=-1\/rsg v=0\/rsg v=1:=by
  unfold rsg
  split
  ·exact .inr (.inl rfl)
  ·split
   ·exact .inl rfl
   ·exact .inr (.inr rfl)
 have sneg:rsg v<0↔v<0:=by
  unfold rsg
  split
  ·rename_i h;constructor
   ·intro h2;omega
   ·intro h2;grind
  ·split
   ·rename_i h;exact⟨fun _=>h,fun _=>by omega⟩
   ·rename_i h;exact⟨fun h2=>by omega,fun h2=>absurd h2 h⟩
 have sz:rsg v≠0->v≠0:=fun h e=>h (rsg_zero_iff.2 e);have hf:=w1.floor_abs
 obtain⟨mz,m15⟩:∃ mz:Nat,-9<z->z<9->bits .and .i64 z 15=(mz:Int)/\mz<=16/\(0<=z->mz=z.natAbs):=by
  by_cases h:-9<z/\z<9
  ·obtain⟨m,hm⟩:=and15 h.1 h.2
   exact⟨m,fun _ _=>hm⟩
  ·exact⟨0,fun a b=>absurd ⟨a,b⟩ h⟩
 have NS:∀ {W W':World} {K:Nat} {y:Rat} {e:Ending},NewRat W K y e W'->NewRatS W K y e W':=fun h=>h.s;have ab:x1<18446744073709551616:=l3
 have cf:v.ceil.natAbs<2 ^ (32*(100+1)):=by
  have k:v.ceil<=v.floor+1:=(ceil_le_iff _ _).2 (by have:=Rat.lt_floor_add_one v;rw [Rat.intCast_add];have:((1:Int):Rat)=1:=rfl;grind)
  have k2:v.floor<=v.ceil:=by
   have a:=Rat.floor_le v;have b:=(ceil_le_iff v v.ceil).1 (Int.le_refl _)
   exact Rat.intCast_le_intCast.1 (Rat.le_trans a b)
  obtain⟨p,q,A',n',c',B',m',d',e1,e2,-,-,hq,-,kp',kq',e⟩:=w1;have hb:=Go.Proofs.YthlmlmfebpjgdaaGreatDoor.floor_abs 100 (!g) p q hq kp'
  have e3:(-v).floor=(rv (!g) p q).floor:=by
   rw [e];congr 1;unfold rv;cases g<;>simp<;>grind
  rw [<- e3] at hb;rw [Rat.ceil_eq_neg_floor_neg v,Int.natAbs_neg]
  exact hb
 have iI:=fun W (hW:Below w.heap.size w W)=>(integer_w 100 g A n c B m d v W (w1.below hW) (by omega)).mono fun _ _ h=>h.s (K:=100+1) (by omega) hf;have iA:=fun W (hW:Below w.heap.size w W)=>(above_w 100 g A n c B m d v W (w1.below hW) (by omega)).mono fun _ _ h=>h.s (K:=100+1) (by omega) cf
 refine one_main z c1 c2 x1 x2 g A n c B m d 100 101 200 1601 3202 203 (rsg v) v (v.floor:Rat) (v.ceil:Rat) (-v) (rab v) (rK 3 v:Rat) (v*v) (1 / v) (v ^ mz) (v ^ z.natAbs) (1 / v ^ z.natAbs) (rsg v:Rat) (rK 4 v:Rat) (rK 5 v:Rat)
  (hd ci cj (-v)) (hd ci cj (rab v)) (hd ci cj (v*v)) (hd ci cj (1 / v)) (hd ci cj (if 0<=z then v ^ mz else 1 / v ^ z.natAbs)) (hd ci cj (rsg v:Rat)) (hd ci cj (v.floor:Rat)) (hd ci cj (v.ceil:Rat)) (hd ci cj (rK 3 v:Rat)) (hd ci cj (rK 4 v:Rat)) (hd ci cj (rK 5 v:Rat))
  _ _ _ _ _ _ _ _ _ _ _ _ _ _ _ _ _ _ _ _ _ _ _ _ _ _ w hT hz1 hz2 awake_any i1 o1 (fun W hW=>rsign_w 100 g _ _ v W (w1.below hW) (by omega)) iI iA (fun W hW=>rneg_w 100 g _ _ v W (w1.below hW) (by omega)) (fun W hW=>w1.below hW)
  (fun g A n c B m d W h=>hc 100 (by omega) (by omega) _ g A n c B m d W h) f1 (fun hk=>kp _ (rg_it xr) (it_in ⟨vc.ng.lo.1,vc.ng.hi.2,vx.lo.1,vx.hi.2⟩ (by have:=(hd_in.1 hk).neg;rwa [Rat.neg_neg] at this) ix))
  (fun g A n c B m d W h=>hc 100 (by omega) (by omega) _ g A n c B m d W h) f2 (fun hk=>kp _ (rg_abr xr) (abr_in rr (hd_in.1 hk) ix))
  (fun W hW=>(rmul_w 100 g _ _ v g _ _ v W (w1.below hW) (w1.below hW) (by omega) (by omega)).mono fun _ _ h=>NS h)
  (fun g A n c B m d W h=>hc 200 (by omega) (by omega) _ g A n c B m d W h.w) f3 (fun hk=>kp _ (rg_pwr xr) (pwr_in (by omega) (by omega) rr (by have:=hd_in.1 hk;rwa [show v*v=v ^ 2 by rw [Rat.pow_succ,Rat.pow_succ,Rat.pow_zero];grind] at this) ix))
  (fun W=>(int_nat 1 W (by omega)).mono fun _ _ h=>NS h)
  (fun hs g1 A1 n1 c1 B1 m1 d1 W hW h=>(rquo_w 100 g1 _ _ 1 g _ _ v W (h.w.mono (by omega)) (w1.below hW) (by omega) (by omega) (sz hs)).mono fun _ _ h=>NS h)
  (fun g A n c B m d W h=>hc 200 (by omega) (by omega) _ g A n c B m d W h.w) f4 (fun hs hk=>kp _ (rg_dr2 xr) ?_)
  f5 f6 (fun hk g1 A1 n1 c1 B1 m1 d1 W h=>?_)
  (fun h1 h2 W hW=>?_) (fun h1 h2 W hW=>?_) (fun h1 hs g1 A1 n1 c1 B1 m1 d1 g2 A2 n2 c2 B2 m2 d2 W h h'=>(rquo_w 1601 g1 _ _ 1 g2 _ _ _ W (h.w.mono (by omega)) h'.w (by omega) (by omega) ?_).mono fun _ _ h=>NS h)
  (fun hz g A n c B m d W h=>?_) (fun hz g A n c B m d W h=>?_) (fun h1 h2=>f7) (fun hh hk=>kp _ (rg_pwz xr) ?_)
  (fun W=>int_small (rsg v) W s3) (fun g A n c B m d W h=>hc 34 (by omega) (by omega) _ g A n c B m d W (h.w.mono (by omega))) f8 (fun hk=>kp _ (rg_sgq xr) (sgq_in rr (hd_in.1 hk) ix))
  (fun g A n c B m d W h=>hc 101 (by omega) (by omega) _ g A n c B m d W h.w) f9 (fun hk=>kp _ (rg_stq xr) (stq_in (by omega) rr (hd_in.1 hk) ix))
  (fun g A n c B m d W h=>hc 101 (by omega) (by omega) _ g A n c B m d W h.w) f10 (fun hk=>kp _ (rg_stq xr) (stq_in (by omega) rr (hd_in.1 hk) ix))
  (fun g A n c B m d W h=>hc 101 (by omega) (by omega) _ g A n c B m d W h.w) f11 (fun hk=>kp _ (rg_stq xr) (stq_in (by omega) rr (hd_in.1 hk) ix))
  (fun W hW=>rounds_w 100 g A n c B m d v false W (w1.below hW) (by omega)) (fun g A n c B m d W h=>hc 203 (by omega) (by omega) _ g A n c B m d W h.w) f12 (fun hk=>kp _ (rg_stq xr) (stq_in (by omega) rr (hd_in.1 hk) ix))
  (fun W hW=>rounds_w 100 g A n c B m d v true W (w1.below hW) (by omega)) (fun g A n c B m d W h=>hc 203 (by omega) (by omega) _ g A n c B m d W h.w) f13 (fun hk=>kp _ (rg_stq xr) (stq_in (by omega) rr (hd_in.1 hk) ix))
  s3 (fun h=>?_) (fun h=>?_)
 ·exact dr2_in ⟨K1_iv.lo.1,K1_iv.hi.2,vc.lo.1,vc.hi.2,vx.lo.1,vx.hi.2⟩ K1_in (sz hs) (hd_in.1 hk) ix
 ·have iv:=in_iv (rg_sqt ⟨ivq.lo.1,ivq.hi.2⟩) (sqt_in ⟨vc.lo.1,vc.hi.2,ivq.lo.1,ivq.hi.2⟩ (hd_in.1 hk) isq);have k:=kept_any _ _ 200 g1 A1 n1 c1 B1 m1 d1 (v*v) W iv.lo iv.hi iv h.w (by omega) (by omega);rw [hd_in.2 (sqt_in ⟨vc.lo.1,vc.hi.2,ivq.lo.1,ivq.hi.2⟩ (hd_in.1 hk) isq)] at k
  exact k
 ·obtain⟨e,l,-⟩:=m15 h1 h2;rw [e]
  exact rpow_w 100 mz g A n c B m d v W (w1.below hW) (by omega) l
 ·have e:-z=(z.natAbs:Int):=by omega
  rw [e]
  exact rpow_w 100 z.natAbs g A n c B m d v W (w1.below hW) (by omega) (by omega)
 ·exact fun e=>sz hs (rpow_zero' e)
 ·rw [if_pos hz]
  exact hc 1601 (by omega) (by omega) _ g A n c B m d W h.w
 ·rw [if_neg (by omega)]
  exact hc 3202 (by omega) (by omega) _ g A n c B m d W h.w
 ·exact pwz_in (p:=if 0<=z then v ^ mz else 1 / v ^ z.natAbs) ⟨by omega,by omega⟩ rr (fun h=>sz (hh.2.2 h)) ⟨fun h=>by rw [if_pos h,(m15 hh.1 hh.2.1).2.2 h],fun h=>if_neg (by omega)⟩ (hd_in.1 hk) ix
 ·have h:=sneg.1 h
  show -v=(if v<0 then -v else v)/\(v.ceil:Rat)=((if v<0 then v.ceil else v.floor:Int):Rat)
  rw [if_pos h,if_pos h]
  exact⟨rfl,rfl⟩
 ·have h:¬ v<0:=fun h2=>h (sneg.2 h2)
  show v=(if v<0 then -v else v)/\(v.floor:Rat)=((if v<0 then v.ceil else v.floor:Int):Rat)
  rw [if_neg h,if_neg h]
  exact⟨rfl,rfl⟩
end Go.Proofs.YthlmlmfebpjgdaaGreatDoor
