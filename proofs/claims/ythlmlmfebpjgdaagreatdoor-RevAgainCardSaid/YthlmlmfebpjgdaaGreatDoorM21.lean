/-
Lemmas for the statement: Fad2T AwT AgnI TabL.
-/
import Derived.Test.YthlmlmfebpjgdaaGreatDoorM20
import Derived.Test.YthlmlmfebpjgdaaGreatDoorM13
import Derived.Test.YthlmlmfebpjgdaaGreatDoorM16
import Derived.Test.YthlmlmfebpjgdaaGreatDoorM02
import Derived.Deep.DeepCutAuto
import Derived.Test.YthlmlmfebpjgdaaGreatDoorRows
import Derived.WalkKit
import Derived.ProofKit
import Derived.JoinedOf
import Derived.RowKit
set_option linter.unusedSimpArgs false
set_option linter.unusedVariables false
set_option maxHeartbeats 12800000
namespace Go.Proofs.YthlmlmfebpjgdaaGreatDoor
section
open Go.RowKit
def ul(a b:Int)(i:Nat):Int:=if i=0 then a else b
def mnk(f:Nat->Nat->Int):Nat->Int
 | 0=>M
 | k+1=>min (mnk f k) (f (k / 2) (k % 2))
def mxk(f:Nat->Nat->Int):Nat->Int
 | 0=>-(M:Int)
 | k+1=>max (mxk f k) (f (k / 2) (k % 2))
theorem mnk_rng{f:Nat->Nat->Int}(h:∀ i j,-(M:Int)<=f i j/\f i j<=M)(k:Nat):-(M:Int)<=mnk f k/\mnk f k<=M:=by
 have hM:=M_val
 induction k with
 | zero=>show -(M:Int)<=(M:Int)/\(M:Int)<=M;omega
 | succ k ih=>have:=h (k / 2) (k % 2);show -(M:Int)<=min _ _/\min _ _<=(M:Int);omega
theorem mxk_rng{f:Nat->Nat->Int}(h:∀ i j,-(M:Int)<=f i j/\f i j<=M)(k:Nat):-(M:Int)<=mxk f k/\mxk f k<=M:=by
 have hM:=M_val
 induction k with
 | zero=>show -(M:Int)<=-(M:Int)/\-(M:Int)<=M;omega
 | succ k ih=>have:=h (k / 2) (k % 2);show -(M:Int)<=max _ _/\max _ _<=(M:Int);omega
theorem mnk_step(f:Nat->Nat->Int)(i j:Nat)(hj:j<2):min (mnk f (2*i+j)) (f i j)=mnk f (2*i+j+1):=by
 show _=min (mnk f (2*i+j)) (f ((2*i+j) / 2) ((2*i+j) % 2))
 rw [show (2*i+j) / 2=i by omega,show (2*i+j) % 2=j by omega]
theorem mxk_step(f:Nat->Nat->Int)(i j:Nat)(hj:j<2):max (mxk f (2*i+j)) (f i j)=mxk f (2*i+j+1):=by
 show _=max (mxk f (2*i+j)) (f ((2*i+j) / 2) ((2*i+j) % 2))
 rw [show (2*i+j) / 2=i by omega,show (2*i+j) % 2=j by omega]
theorem ul_rng{i j:Int}(h:Iv i j)(k:Nat):-(M:Int)<=ul i j k/\ul i j k<=M:=by
 unfold ul
 split
 ·exact h.lo
 ·exact h.hi
theorem ctO_fd(i j a b c d:Int):ctO false i j a b c d=ct i j a b c d:=by
 unfold ctO ct
 by_cases h:c<i\/j<b
 ·rw [if_pos h,if_pos h]
 ·rw [if_neg h,if_neg h,if_neg (by rintro⟨h,-⟩;cases h)]
theorem fad_k(i1 j1 i2 j2 c1 c2 i j:Int):fad i1 j1 i2 j2 c1 c2 i j=if j1<i1\/j2<i2\/c2<c1\/j<i then ((M:Int),-(M:Int)) else
  ct i j (mnk (fun k l=>(wt c1 (ul i1 j1 k) (ul i2 j2 l)).1) 4) (mnk (fun k l=>(wt c1 (ul i1 j1 k) (ul i2 j2 l)).2) 4) (mxk (fun k l=>(wt c2 (ul i1 j1 k) (ul i2 j2 l)).1) 4) (mxk (fun k l=>(wt c2 (ul i1 j1 k) (ul i2 j2 l)).2) 4):=rfl
theorem fmaadd_any(a1 a2 b1 b2 c1 c2 x y:Nat)(w:World)(ha1:a1<18446744073709551616)(ha2:a2<18446744073709551616)(hb1:b1<18446744073709551616)(hb2:b2<18446744073709551616)(hc1:c1<18446744073709551616)(hc2:c2<18446744073709551616)(hx:x<18446744073709551616)(hy:y<18446744073709551616):
  Rt 32 #[Zf a1 a2,Zf b1 b2,Zf c1 c2,Zf x y] (Zf (pat (fad (rd a1 a2).1 (rd a1 a2).2 (rd b1 b2).1 (rd b1 b2).2 (rd c1 c2).1 (rd c1 c2).2 (rd x y).1 (rd x y).2).1) (pat (fad (rd a1 a2).1 (rd a1 a2).2 (rd b1 b2).1 (rd b1 b2).2 (rd c1 c2).1 (rd c1 c2).2 (rd x y).1 (rd x y).2).2)) w:=by
 have hM:=M_val;have v1:=rd_iv a1 a2;have v2:=rd_iv b1 b2;have v3:=rd_iv c1 c2;have v4:=rd_iv x y;have t1:=fun W=>readf a1 a2 W ha1 ha2;have t2:=fun W=>readf b1 b2 W hb1 hb2;have t3:=fun W=>readf c1 c2 W hc1 hc2;have t4:=fun W=>readf x y W hx hy
 obtain⟨⟨i1,j1⟩,r1⟩:∃ z,rd a1 a2=z:=⟨_,rfl⟩
 obtain⟨⟨i2,j2⟩,r2⟩:∃ z,rd b1 b2=z:=⟨_,rfl⟩
 obtain⟨⟨i3,j3⟩,r3⟩:∃ z,rd c1 c2=z:=⟨_,rfl⟩
 obtain⟨⟨i4,j4⟩,r4⟩:∃ z,rd x y=z:=⟨_,rfl⟩
 rw [r1] at v1 t1;rw [r2] at v2 t2;rw [r3] at v3 t3;rw [r4] at v4 t4;rw [r1,r2,r3,r4]
 dsimp only at *
 have m1:=em_idx v1;have m2:=em_idx v2;have m3:=em_idx v3;have m4:=em_idx v4;rw [fad_k]
 by_cases hno:j1<i1\/j2<i2\/j3<i3\/j4<i4
 ·rw [if_pos hno,pat_max,pat_min]
  exact fmaadd_none _ _ _ _ _ _ _ _ _ _ _ _ _ _ _ _ _ _ _ _ w t1 m1 t2 m2 t3 m3 t4 m4 (by simp;omega)
 ·rw [if_neg hno];have g1:=fun i j=>wt_rng (c:=i3) (u:=ul i1 j1 i) (v:=ul i2 j2 j) v3.lo;have g2:=fun i j=>wt_rng (c:=j3) (u:=ul i1 j1 i) (v:=ul i2 j2 j) v3.hi;have q1:=mnk_rng (f:=fun k l=>(wt i3 (ul i1 j1 k) (ul i2 j2 l)).1) (fun i j=>(g1 i j).1);have q2:=mnk_rng (f:=fun k l=>(wt i3 (ul i1 j1 k) (ul i2 j2 l)).2) (fun i j=>(g1 i j).2);have q3:=mxk_rng (f:=fun k l=>(wt j3 (ul i1 j1 k) (ul i2 j2 l)).1) (fun i j=>(g2 i j).1);have q4:=mxk_rng (f:=fun k l=>(wt j3 (ul i1 j1 k) (ul i2 j2 l)).2) (fun i j=>(g2 i j).2)
  refine fmaadd_some a1 a2 b1 b2 c1 c2 x y _ _ _ _ _ _ _ _ _ _ (fun i=>pat (ul i1 j1 i)) (fun i=>pat (ul i2 j2 i)) (fun k=>pat (mnk (fun k l=>(wt i3 (ul i1 j1 k) (ul i2 j2 l)).1) k)) (fun k=>pat (mnk (fun k l=>(wt i3 (ul i1 j1 k) (ul i2 j2 l)).2) k)) (fun k=>pat (mxk (fun k l=>(wt j3 (ul i1 j1 k) (ul i2 j2 l)).1) k)) (fun k=>pat (mxk (fun k l=>(wt j3 (ul i1 j1 k) (ul i2 j2 l)).2) k))
   (fun i j=>pat (wt i3 (ul i1 j1 i) (ul i2 j2 j)).1) (fun i j=>pat (wt i3 (ul i1 j1 i) (ul i2 j2 j)).2) (fun i j=>pat (wt j3 (ul i1 j1 i) (ul i2 j2 j)).1) (fun i j=>pat (wt j3 (ul i1 j1 i) (ul i2 j2 j)).2) _ _ _ _ w t1 m1 t2 m2 t3 m3 t4 m4 (by simp;omega) ⟨rfl,rfl⟩ ⟨rfl,rfl⟩ ⟨pat_max,pat_max⟩ ⟨pat_min,pat_min⟩
   (fun i j _ _ W=>without_any i3 _ _ W v3.lo (ul_rng v1 i) (ul_rng v2 j)) (fun i j _ _ W=>without_any j3 _ _ W v3.hi (ul_rng v1 i) (ul_rng v2 j)) (fun i j _ hj W ts t=>?_) (fun i j _ hj W ts t=>?_) (fun i j _ hj W ts t=>?_) (fun i j _ hj W ts t=>?_) (fun W=>?_)
  ·rw [<- mnk_step _ i j hj]
   exact run_minf (q1 _) (g1 i j).1 W ts t
  ·rw [<- mnk_step _ i j hj]
   exact run_minf (q2 _) (g1 i j).2 W ts t
  ·rw [<- mxk_step _ i j hj]
   exact run_maxf (q3 _) (g2 i j).1 W ts t
  ·rw [<- mxk_step _ i j hj]
   exact run_maxf (q4 _) (g2 i j).2 W ts t
  ·rw [<- ctO_fd]
   exact rcut2_any false i4 j4 _ _ _ _ W v4.lo v4.hi (q1 4) (q2 4) (q3 4) (q4 4)
end
section
open Go.RowKit
attribute [local go_sem] run_store_float run_negf run_eqf
theorem ret2{a b r1 r2:Nat}{e:Ending}{P:Prop}(h:e=.returned (Zf a b)/\P)(h1:a=r1)(h2:b=r2):e=.returned (Zf r1 r2)/\P:=by
 subst h1 h2;exact h
theorem rti_exact{d i j:Int}{n:Nat}(hd:d=-1\/d=1)(hj:0<j)(hj2:j<M)(hi:0<i)(hi2:i<M)(hn:0<n)(h:fl j ^ n=fl i):rti d i n=j:=by
 have hM:=M_val
 have p:0<fl j:=by have:=fl_lt_iff.2 hj;rwa [fl_zero] at this
 have ok:RtOk i n (fl j):=by
  refine⟨p,fun k hk=>?_⟩
  have pk:0<=fl k:=by have:=fl_le_iff.2 hk;rwa [fl_zero] at this
  rw [<- h]
  constructor
  ·constructor
   ·exact fun c=>rpow_le pk c n
   ·intro c
    by_cases q:fl k<=fl j
    ·exact q
    ·have:=rpow_lt (Rat.le_of_lt p) (show fl j<fl k by grind) n hn;grind
  ·constructor
   ·exact fun c=>rpow_le (Rat.le_of_lt p) c n
   ·intro c
    by_cases q:fl j<=fl k
    ·exact q
    ·have:=rpow_lt pk (show fl k<fl j by grind) n hn;grind
 unfold rti;rw [if_neg (by omega),rt1_of hd ok (by omega) (by omega)]
 exact rndI_fl hd (by omega) hj2
theorem sqr_known(W:World):Rt 14 #[Zf 4616189618054758400 4621256167635550208,Zf 0 4612811918334230528] (Zf 4611686018427387904 4612811918334230528) W:=by
 have h:=sqrrev_any 4616189618054758400 4621256167635550208 0 4612811918334230528 W (by decide) (by decide) (by decide) (by decide)
 have r1:rd 4616189618054758400 4621256167635550208=(4616189618054758400,4621256167635550208):=by decide +kernel
 have r2:rd 0 4612811918334230528=(0,4612811918334230528):=by decide +kernel
 have q1:=fun d (hd:d=-1\/d=1)=>rti_exact (d:=d) (i:=4616189618054758400) (j:=4611686018427387904) (n:=2) hd (by decide) (by decide +kernel) (by decide) (by decide +kernel) (by decide) (by decide +kernel);have q2:=fun d (hd:d=-1\/d=1)=>rti_exact (d:=d) (i:=4621256167635550208) (j:=4613937818241073152) (n:=2) hd (by decide) (by decide +kernel) (by decide) (by decide +kernel) (by decide) (by decide +kernel)
 have e:pwr 2 4616189618054758400 4621256167635550208 0 4612811918334230528=(4611686018427387904,4612811918334230528):=by
  unfold pwr;rw [if_neg (by decide),if_pos (by decide),show max (4616189618054758400:Int) 0=4616189618054758400 from by decide,q1 _ (.inl rfl),q1 _ (.inr rfl),q2 _ (.inl rfl),q2 _ (.inr rfl)]
  decide +kernel
 rw [r1,r2,e] at h
 have p1:pat 4611686018427387904=4611686018427387904:=by decide +kernel
 have p2:pat 4612811918334230528=4612811918334230528:=by decide +kernel
 rw [p1,p2] at h
 exact h
theorem add_known(W:World):Rt 22 #[Zf 4607182418800017408 4611686018427387904,Zf 4617315517961601024 4617315517961601024,Zf 13844628204490326016 4621256167635550208] (Zf 4613937818241073152 4616189618054758400) W:=
 (revadd_any 4607182418800017408 4611686018427387904 4617315517961601024 4617315517961601024 13844628204490326016 4621256167635550208 W (by decide) (by decide) (by decide) (by decide) (by decide) (by decide)).mono fun e w' h=>ret2 h (by decide +kernel) (by decide +kernel)
set_option maxRecDepth 8000 in
theorem of_law(a b:Nat)(w:World):Calls Tryz.prog 20 (Zv a b) w fun e w'=>e=.returned (Zf a b)/\Below w.heap.size w w':=by
 have LL:=li1 w (Zv 0 0) 28
 go_enter Tryz.func20,Tryz.ntmps20
 replace LL:=Hd (LL.out.loose0 rfl);obtain⟨ha4_0,hf4_0,ha4_1,hf4_1⟩:=(LL.out.has 0 rfl).sf2;have LF:=Hd (LL.out.wr [.float .f64 a,.float .f64 b]);obtain⟨hk4_0,hk4_1⟩:=(LF.out.blk 0 rfl).c2
 simp [sets] at hk4_0 hk4_1
 clear LL;go_wp2;refine bodyPost_ret (v:=Zf a b) (by simp [results,Tryz.results20,go_sem,hk4_0,hk4_1]) rfl ?_
 exact⟨rfl,below_alloc w _⟩
set_option maxRecDepth 8000 in
theorem awake_any(w:World):Rt 21 #[] (.bool true) w:=by
 have HO:=Hd of_law;have HS:=Hd sqr_known;have HD:=Hd add_known
 have o4613937818241073152:FloatKind.f64.format.order 4613937818241073152 4613937818241073152=some .eq:=by kernel_rfl
 have o4616189618054758400:FloatKind.f64.format.order 4616189618054758400 4616189618054758400=some .eq:=by kernel_rfl
 have o4611686018427387904:FloatKind.f64.format.order 4611686018427387904 4611686018427387904=some .eq:=by kernel_rfl
 have o4612811918334230528:FloatKind.f64.format.order 4612811918334230528 4612811918334230528=some .eq:=by kernel_rfl
 have LL:=Hd (show Lies w w [] [] from⟨Below.refl _ _,by simp,by simp⟩)
 go_enter Tryz.func21,Tryz.ntmps21
 go_wp2_with fail;refine cx (HO.out _ _ _) fun wk hb=>?_;replace LL:=stL LL hb;clear hb;go_wp2_with fail;refine cx (HO.out _ _ _) fun wk hb=>?_;replace LL:=stL LL hb;clear hb;go_wp2_with fail;refine cx (HO.out _ _ _) fun wk hb=>?_;replace LL:=stL LL hb;clear hb;go_wp2_with fail;refine cx (HD.out _) fun wk hb=>?_;replace LL:=stL LL hb;clear hb;go_wp2_with fail;refine cx (HO.out _ _ _) fun wk hb=>?_;replace LL:=stL LL hb;clear hb;go_wp2_with fail;refine cx (HO.out _ _ _) fun wk hb=>?_;replace LL:=stL LL hb;clear hb;go_wp2_with fail;refine cx (HO.out _ _ _) fun wk hb=>?_;replace LL:=stL LL hb;clear hb;go_wp2_with fail;refine cx (HS.out _) fun wk hb=>?_;replace LL:=stL LL hb;clear hb;go_wp2_with fail;refine cx (HO.out _ _ _) fun wk hb=>?_;replace LL:=stL LL hb;clear hb;go_wp2
 go_ret
 exact⟨rfl,LL.out.b⟩
end
section
open Go.RowKit
theorem order_same{i:Int}(h0:-(M:Int)<=i)(h1:i<=M):FloatKind.f64.format.order (pat i) (pat i)=some .eq:=by
 rw [order_pat h0 h1 h0 h1,Int.compare_eq_eq.2 rfl]
theorem again_full(b1 b2 c1 c2 x1 x2:Nat)(w:World)(hb1:b1<18446744073709551616)(hb2:b2<18446744073709551616)(hc1:c1<18446744073709551616)(hc2:c2<18446744073709551616)(hx:x1<18446744073709551616)(hy:x2<18446744073709551616)(hT:Tab w):
  Rt 11 #[.agg #[.int .u64 (b1:Int),.int .u64 (b2:Int),.int .u64 (c1:Int),.int .u64 (c2:Int),.int .u64 (x1:Int),.int .u64 (x2:Int)]] (.bool true) w:=by
 have A:=Cl.fmr (rd_iv b1 b2) (rd_iv c1 c2) (rd_iv b1 b2);have B:=Cl.fad (rd_iv b1 b2) (rd_iv c1 c2) (rd_iv b1 b2);have va:=A.iv _ _ (rd_iv x1 x2);have sa:=A.sub _ _ (rd_iv x1 x2);have da:=A.idem _ _ (rd_iv x1 x2);have vb:=B.iv _ _ (rd_iv x1 x2);have sb:=B.sub _ _ (rd_iv x1 x2);have db:=B.idem _ _ (rd_iv x1 x2);have F1:=fun W=>fmarev_any b1 b2 c1 c2 b1 b2 x1 x2 W hb1 hb2 hc1 hc2 hb1 hb2 hx hy;have G1:=fun W=>fmaadd_any b1 b2 c1 c2 b1 b2 x1 x2 W hb1 hb2 hc1 hc2 hb1 hb2 hx hy
 obtain⟨⟨i,j⟩,e⟩:∃ z,fmr (rd b1 b2).1 (rd b1 b2).2 (rd c1 c2).1 (rd c1 c2).2 (rd b1 b2).1 (rd b1 b2).2 (rd x1 x2).1 (rd x1 x2).2=z:=⟨_,rfl⟩
 obtain⟨⟨k,l⟩,f⟩:∃ z,fad (rd b1 b2).1 (rd b1 b2).2 (rd c1 c2).1 (rd c1 c2).2 (rd b1 b2).1 (rd b1 b2).2 (rd x1 x2).1 (rd x1 x2).2=z:=⟨_,rfl⟩
 rw [e] at va sa da F1;rw [f] at vb sb db G1
 try dsimp only at va sa da vb sb db
 have p1:=pat_lt va.lo.1 va.lo.2;have p2:=pat_lt va.hi.1 va.hi.2;have p3:=pat_lt vb.lo.1 vb.lo.2;have p4:=pat_lt vb.hi.1 vb.hi.2;have F2:=fun W=>fmarev_any b1 b2 c1 c2 b1 b2 (pat i) (pat j) W hb1 hb2 hc1 hc2 hb1 hb2 p1 p2;have G2:=fun W=>fmaadd_any b1 b2 c1 c2 b1 b2 (pat k) (pat l) W hb1 hb2 hc1 hc2 hb1 hb2 p3 p4;rw [rd_pat va] at F2;rw [rd_pat vb] at G2
 try dsimp only at F2 G2
 rw [da] at F2;rw [db] at G2
 exact again_law b1 b2 c1 c2 x1 x2 _ _ _ _ w hT awake_any (fun n hn=>again_k n hn b1 b2 c1 c2 x1 x2 hb1 hb2 hc1 hc2 hx hy) F1 F2 G1 G2
  (fun W=>subset_in (pat i) (pat j) x1 x2 W p1 p2 hx hy (by rw [rd_pat va];exact sa.1) (by rw [rd_pat va];exact sa.2))
  (fun W=>subset_in (pat k) (pat l) x1 x2 W p3 p4 hx hy (by rw [rd_pat vb];exact sb.1) (by rw [rd_pat vb];exact sb.2))
  (order_same va.lo.1 va.lo.2) (order_same va.hi.1 va.hi.2) (order_same vb.lo.1 vb.lo.2) (order_same vb.hi.1 vb.hi.2)
end
section
open Go.ChangeShapes Go.WideShapes Go.RowKit
theorem int_of_trod{H:Type}{enc:TypeId × Value->H}{P:Program}{w:World}{base:Nat}{sp:Nat->Bool}{held:Bool}{fuel:Nat}{t:TypeId}{k:IntKind}{c:Value}{y:DataW H × List MemPlace}
  (ht:P.underlying t=some (.int k))(h:DataW.trod enc P w base sp held fuel t [c]=some y):∃ n,c=.int k n/\y=(.lit (.int k n),[]):=by
 cases fuel with
 | zero=>simp [DataW.trod] at h
 | succ fuel=>
  cases c<;>simp [DataW.trod,ht] at h
  rename_i k' n;obtain⟨⟨rfl,_⟩,rfl⟩:=h
  exact⟨n,rfl,rfl⟩
theorem gdb: Tryz.prog.globalNamed "math/bits.deBruijn32tab" = some 1 := by kernel_rfl
theorem gdbType:(Tryz.prog.globals[1]?).map (·.type)=some 226:=by kernel_rfl
theorem cellsTab:Tryz.prog.cellsOf 226=32:=by kernel_rfl
theorem cellsU8:Tryz.prog.cellsOf 5=1:=by kernel_rfl
def tabCells:Array Value:=#[.int .u8 0,.int .u8 1,.int .u8 28,.int .u8 2,.int .u8 29,.int .u8 14,.int .u8 24,.int .u8 3,.int .u8 30,.int .u8 22,.int .u8 20,.int .u8 15,.int .u8 25,.int .u8 17,.int .u8 4,.int .u8 8,.int .u8 31,.int .u8 27,.int .u8 13,.int .u8 23,.int .u8 21,.int .u8 19,.int .u8 16,.int .u8 7,.int .u8 26,.int .u8 12,.int .u8 18,.int .u8 6,.int .u8 11,.int .u8 5,.int .u8 10,.int .u8 9]
theorem split32{l:List Value}(h:l.length=32):∃ c0 c1 c2 c3 c4 c5 c6 c7 c8 c9 c10 c11 c12 c13 c14 c15 c16 c17 c18 c19 c20 c21 c22 c23 c24 c25 c26 c27 c28 c29 c30 c31,l=[c0,c1,c2,c3,c4,c5,c6,c7,c8,c9,c10,c11,c12,c13,c14,c15,c16,c17,c18,c19,c20,c21,c22,c23,c24,c25,c26,c27,c28,c29,c30,c31]:=by
 match l,h with
 | [c0,c1,c2,c3,c4,c5,c6,c7,c8,c9,c10,c11,c12,c13,c14,c15,c16,c17,c18,c19,c20,c21,c22,c23,c24,c25,c26,c27,c28,c29,c30,c31],_=>exact⟨c0,c1,c2,c3,c4,c5,c6,c7,c8,c9,c10,c11,c12,c13,c14,c15,c16,c17,c18,c19,c20,c21,c22,c23,c24,c25,c26,c27,c28,c29,c30,c31,rfl⟩
set_option maxRecDepth 100000 in
theorem tab_trod{enc:TypeId × Value->Unit}{W:World}{fuel:Nat}{l:List Value}{p:List MemPlace}{b:Nat}{sp:Nat->Bool}{hd:Bool}(h:DataW.trod enc Tryz.prog W b sp hd fuel 226 l=some (Rows.laid_math_bits_deBruijn32tab,p)):l=tabCells.toList:=by
 cases fuel with
 | zero=>simp [DataW.trod] at h
 | succ fuel=>
 simp only [DataW.trod,Tryz.underlying226,cellsTab,cellsU8] at h
 split at h
 case isFalse=>cases h
 rename_i hl;obtain⟨c0,c1,c2,c3,c4,c5,c6,c7,c8,c9,c10,c11,c12,c13,c14,c15,c16,c17,c18,c19,c20,c21,c22,c23,c24,c25,c26,c27,c28,c29,c30,c31,rfl⟩:=split32 (by simpa using hl);have e:List.range 32=[0,1,2,3,4,5,6,7,8,9,10,11,12,13,14,15,16,17,18,19,20,21,22,23,24,25,26,27,28,29,30,31]:=rfl;rw [e] at h
 simp only [Option.map_eq_some_iff,List.mapM_cons,List.mapM_nil,Option.bind_eq_bind,Option.bind_eq_some_iff,Option.pure_def,Option.some.injEq] at h
 obtain⟨xs,⟨y0,h0,_,⟨y1,h1,_,⟨y2,h2,_,⟨y3,h3,_,⟨y4,h4,_,⟨y5,h5,_,⟨y6,h6,_,⟨y7,h7,_,⟨y8,h8,_,⟨y9,h9,_,⟨y10,h10,_,⟨y11,h11,_,⟨y12,h12,_,⟨y13,h13,_,⟨y14,h14,_,⟨y15,h15,_,⟨y16,h16,_,⟨y17,h17,_,⟨y18,h18,_,⟨y19,h19,_,⟨y20,h20,_,⟨y21,h21,_,⟨y22,h22,_,⟨y23,h23,_,⟨y24,h24,_,⟨y25,h25,_,⟨y26,h26,_,⟨y27,h27,_,⟨y28,h28,_,⟨y29,h29,_,⟨y30,h30,_,⟨y31,h31,_,rfl,rfl⟩,rfl⟩,rfl⟩,rfl⟩,rfl⟩,rfl⟩,rfl⟩,rfl⟩,rfl⟩,rfl⟩,rfl⟩,rfl⟩,rfl⟩,rfl⟩,rfl⟩,rfl⟩,rfl⟩,rfl⟩,rfl⟩,rfl⟩,rfl⟩,rfl⟩,rfl⟩,rfl⟩,rfl⟩,rfl⟩,rfl⟩,rfl⟩,rfl⟩,rfl⟩,rfl⟩,rfl⟩,hx⟩:=h;obtain⟨n0,rfl,rfl⟩:=int_of_trod Tryz.underlying5 h0;obtain⟨n1,rfl,rfl⟩:=int_of_trod Tryz.underlying5 h1;obtain⟨n2,rfl,rfl⟩:=int_of_trod Tryz.underlying5 h2;obtain⟨n3,rfl,rfl⟩:=int_of_trod Tryz.underlying5 h3;obtain⟨n4,rfl,rfl⟩:=int_of_trod Tryz.underlying5 h4;obtain⟨n5,rfl,rfl⟩:=int_of_trod Tryz.underlying5 h5;obtain⟨n6,rfl,rfl⟩:=int_of_trod Tryz.underlying5 h6;obtain⟨n7,rfl,rfl⟩:=int_of_trod Tryz.underlying5 h7;obtain⟨n8,rfl,rfl⟩:=int_of_trod Tryz.underlying5 h8;obtain⟨n9,rfl,rfl⟩:=int_of_trod Tryz.underlying5 h9;obtain⟨n10,rfl,rfl⟩:=int_of_trod Tryz.underlying5 h10;obtain⟨n11,rfl,rfl⟩:=int_of_trod Tryz.underlying5 h11;obtain⟨n12,rfl,rfl⟩:=int_of_trod Tryz.underlying5 h12;obtain⟨n13,rfl,rfl⟩:=int_of_trod Tryz.underlying5 h13;obtain⟨n14,rfl,rfl⟩:=int_of_trod Tryz.underlying5 h14;obtain⟨n15,rfl,rfl⟩:=int_of_trod Tryz.underlying5 h15;obtain⟨n16,rfl,rfl⟩:=int_of_trod Tryz.underlying5 h16;obtain⟨n17,rfl,rfl⟩:=int_of_trod Tryz.underlying5 h17;obtain⟨n18,rfl,rfl⟩:=int_of_trod Tryz.underlying5 h18
 obtain⟨n19,rfl,rfl⟩:=int_of_trod Tryz.underlying5 h19;obtain⟨n20,rfl,rfl⟩:=int_of_trod Tryz.underlying5 h20;obtain⟨n21,rfl,rfl⟩:=int_of_trod Tryz.underlying5 h21;obtain⟨n22,rfl,rfl⟩:=int_of_trod Tryz.underlying5 h22;obtain⟨n23,rfl,rfl⟩:=int_of_trod Tryz.underlying5 h23;obtain⟨n24,rfl,rfl⟩:=int_of_trod Tryz.underlying5 h24;obtain⟨n25,rfl,rfl⟩:=int_of_trod Tryz.underlying5 h25;obtain⟨n26,rfl,rfl⟩:=int_of_trod Tryz.underlying5 h26;obtain⟨n27,rfl,rfl⟩:=int_of_trod Tryz.underlying5 h27;obtain⟨n28,rfl,rfl⟩:=int_of_trod Tryz.underlying5 h28;obtain⟨n29,rfl,rfl⟩:=int_of_trod Tryz.underlying5 h29;obtain⟨n30,rfl,rfl⟩:=int_of_trod Tryz.underlying5 h30;obtain⟨n31,rfl,rfl⟩:=int_of_trod Tryz.underlying5 h31
 simp [Rows.laid_math_bits_deBruijn32tab] at hx
 obtain⟨⟨rfl,rfl,rfl,rfl,rfl,rfl,rfl,rfl,rfl,rfl,rfl,rfl,rfl,rfl,rfl,rfl,rfl,rfl,rfl,rfl,rfl,rfl,rfl,rfl,rfl,rfl,rfl,rfl,rfl,rfl,rfl,rfl⟩,_⟩:=hx
 rfl
theorem tab_of_laid{W : World}(h : laidMet Tryz.prog [("math/bits.deBruijn32tab", Rows.laid_math_bits_deBruijn32tab)] W): Tab W := by
 obtain⟨ps,⟨g,t,cs,fuel,p,q,hg,ht,hvar,hd,_,_⟩,_⟩:=h
 obtain rfl:=Option.some.inj (gdb.symm.trans hg)
 obtain rfl:=Option.some.inj (gdbType.symm.trans ht)
 have e:cs=tabCells:=by
  have:=tab_trod hd
  exact Array.ext' this
 subst e;intro j hj;rw [World.var?_cell hg hvar j]
 match j,hj with
 | 0,_=>rfl
 | 1,_=>rfl
 | 2,_=>rfl
 | 3,_=>rfl
 | 4,_=>rfl
 | 5,_=>rfl
 | 6,_=>rfl
 | 7,_=>rfl
 | 8,_=>rfl
 | 9,_=>rfl
 | 10,_=>rfl
 | 11,_=>rfl
 | 12,_=>rfl
 | 13,_=>rfl
 | 14,_=>rfl
 | 15,_=>rfl
 | 16,_=>rfl
 | 17,_=>rfl
 | 18,_=>rfl
 | 19,_=>rfl
 | 20,_=>rfl
 | 21,_=>rfl
 | 22,_=>rfl
 | 23,_=>rfl
 | 24,_=>rfl
 | 25,_=>rfl
 | 26,_=>rfl
 | 27,_=>rfl
 | 28,_=>rfl
 | 29,_=>rfl
 | 30,_=>rfl
 | 31,_=>rfl
 | k+32,hk=>omega
end
end Go.Proofs.YthlmlmfebpjgdaaGreatDoor
