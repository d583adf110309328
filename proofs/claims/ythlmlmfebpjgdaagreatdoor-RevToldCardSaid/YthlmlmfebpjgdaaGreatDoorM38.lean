/-
Lemmas for the statement: TdP.
-/
import Derived.Test.YthlmlmfebpjgdaaGreatDoorPRoot2T
import Derived.Test.YthlmlmfebpjgdaaGreatDoorM29
import Derived.Test.YthlmlmfebpjgdaaGreatDoorM34
import Derived.Test.YthlmlmfebpjgdaaGreatDoorPAbT
import Derived.Test.YthlmlmfebpjgdaaGreatDoorM36
import Derived.Test.YthlmlmfebpjgdaaGreatDoorPCanT
set_option linter.unusedSimpArgs false
set_option linter.unusedVariables false
set_option maxHeartbeats 12800000
namespace Go.Proofs.YthlmlmfebpjgdaaGreatDoor
section
open Go.RowKit
theorem ret4{a b c d r1 r2 r3 r4:Nat}{e:Ending}{P:Prop}(h:e=.returned (.tuple #[.agg #[.float .f64 a,.float .f64 b],.agg #[.float .f64 c,.float .f64 d]])/\P)(h1:a=r1)(h2:b=r2)(h3:c=r3)(h4:d=r4):e=.returned (.tuple #[.agg #[.float .f64 r1,.float .f64 r2],.agg #[.float .f64 r3,.float .f64 r4]])/\P:=by
 subst h1 h2 h3 h4;exact h
theorem rti_near{i k:Int}{n:Nat}(hn:1<=n)(hn2:n<=1024)(hi:0<i)(hi2:i<M)(hk:0<=k)(hk2:k+1<M)(a:fl k ^ n<=fl i)(b:¬ fl (k+1) ^ n<=fl i)(c:fl i<=fl (k+1) ^ n)(d:¬ fl i<=fl k ^ n):rti (-1) i n=k/\rti 1 i n=k+1:=by
 have hM:=M_val;have ok:=rt_ok (i:=i) (n:=n) (by omega) (by omega) hn hn2;have q:=RtQ.of ok
 have e:∀ d:Int,d=-1\/d=1->rti d i n=rndI d (rootq i n):=fun d hd=>by
  unfold rti;rw [if_neg (by omega),rt1_of hd ok (by omega) (by omega)]
 rw [e _ (.inl rfl),e _ (.inr rfl)];have k1:=(q.2 k hk).1.2 a;have k2:¬ fl (k+1)<=rootq i n:=fun z=>b ((q.2 (k+1) (by omega)).1.1 z);have k3:=(q.2 (k+1) (by omega)).2.2 c;have k4:¬ rootq i n<=fl k:=fun z=>d ((q.2 k hk).2.1 z)
 exact⟨rndI_down_at (by omega) (by omega) k1 (by grind),rndI_up_at (by omega) hk2 k3 (by rw [show k+1 - 1=k from by omega];grind)⟩
theorem rtq_exact{x:Rat}{k:Int}{n:Nat}(hk:0<k)(hn:0<n)(h:fl k ^ n=x):RtQ x n (fl k):=by
 have p:0<fl k:=by have:=fl_lt_iff.2 hk;rwa [fl_zero] at this
 refine⟨p,fun j hj=>?_⟩
 have pj:0<=fl j:=by have:=fl_le_iff.2 hj;rwa [fl_zero] at this
 rw [<- h]
 constructor
 ·constructor
  ·exact fun c=>rpow_le pj c n
  ·intro c
   by_cases q:fl j<=fl k
   ·exact q
   ·have:=rpow_lt (Rat.le_of_lt p) (show fl k<fl j by grind) n hn;grind
 ·constructor
  ·exact fun c=>rpow_le (Rat.le_of_lt p) c n
  ·intro c
   by_cases q:fl k<=fl j
   ·exact q
   ·have:=rpow_lt pj (show fl j<fl k by grind) n hn;grind
theorem ivd_exact{d j k:Int}{n:Nat}(hd:d=-1\/d=1)(hn:1<=n)(hj:0<j)(hj2:j<M)(hk:0<k)(hk2:k<M)(h:fl k ^ n=1 / fl j):ivd d j n=k:=by
 have hM:=M_val;unfold ivd;rw [if_neg (by omega),rnd_same ((rtx_ok hj hn).le (rtq_exact hk (by omega) h)) hd]
 exact rndI_fl hd (by omega) hk2
theorem td0(W:World):Rt 28 #[.agg #[.float .f64 0,.float .f64 4611686018427387904],.agg #[.float .f64 18442240474082181120,.float .f64 9218868437227405312]] (.agg #[.float .f64 4602678819172646912,.float .f64 9218868437227405312]) W:=
 (reciprev_any 0 4611686018427387904 18442240474082181120 9218868437227405312 W (by decide) (by decide) (by decide) (by decide)).mono fun e w' h=>ret2 h (by decide +kernel) (by decide +kernel)
theorem td1(W:World):Rt 28 #[.agg #[.float .f64 13830554455654793216,.float .f64 4611686018427387904],.agg #[.float .f64 13826050856027422720,.float .f64 4607182418800017408]] (.agg #[.float .f64 4602678819172646912,.float .f64 4607182418800017408]) W:=
 (reciprev_any 13830554455654793216 4611686018427387904 13826050856027422720 4607182418800017408 W (by decide) (by decide) (by decide) (by decide)).mono fun e w' h=>ret2 h (by decide +kernel) (by decide +kernel)
theorem td2(W:World):Rt 14 #[.agg #[.float .f64 4616189618054758400,.float .f64 4621256167635550208],.agg #[.float .f64 18442240474082181120,.float .f64 9218868437227405312]] (.agg #[.float .f64 13837309855095848960,.float .f64 4613937818241073152]) W:=by
 have h:=sqrrev_any 4616189618054758400 4621256167635550208 18442240474082181120 9218868437227405312 W (by decide) (by decide) (by decide) (by decide)
 have r1:rd 4616189618054758400 4621256167635550208=(4616189618054758400,4621256167635550208):=by decide +kernel
 have r2:rd 18442240474082181120 9218868437227405312=(-9218868437227405312,9218868437227405312):=by decide +kernel
 have e:pwr 2 4616189618054758400 4621256167635550208 (-9218868437227405312) 9218868437227405312=(-4613937818241073152,4613937818241073152):=by
  unfold pwr;rw [if_neg (by decide),if_pos (by decide),show max (4616189618054758400:Int) 0=4616189618054758400 from by decide,rti_exact (d:=-1) (i:=4616189618054758400) (j:=4611686018427387904) (n:=2) (.inl rfl) (by decide) (by decide +kernel) (by decide) (by decide +kernel) (by decide) (by decide +kernel),rti_exact (d:=1) (i:=4616189618054758400) (j:=4611686018427387904) (n:=2) (.inr rfl) (by decide) (by decide +kernel) (by decide) (by decide +kernel) (by decide) (by decide +kernel),rti_exact (d:=-1) (i:=4621256167635550208) (j:=4613937818241073152) (n:=2) (.inl rfl) (by decide) (by decide +kernel) (by decide) (by decide +kernel) (by decide) (by decide +kernel),rti_exact (d:=1) (i:=4621256167635550208) (j:=4613937818241073152) (n:=2) (.inr rfl) (by decide) (by decide +kernel) (by decide) (by decide +kernel) (by decide) (by decide +kernel)]
  decide +kernel
 rw [r1,r2,e] at h
 exact h.mono fun e w' h=>ret2 h (by decide +kernel) (by decide +kernel)
theorem td3(W:World):Rt 14 #[.agg #[.float .f64 13839561654909534208,.float .f64 13830554455654793216],.agg #[.float .f64 18442240474082181120,.float .f64 9218868437227405312]] (.agg #[.float .f64 9218868437227405312,.float .f64 18442240474082181120]) W:=by
 have h:=sqrrev_any 13839561654909534208 13830554455654793216 18442240474082181120 9218868437227405312 W (by decide) (by decide) (by decide) (by decide)
 have r1:rd 13839561654909534208 13830554455654793216=(-4616189618054758400,-4607182418800017408):=by decide +kernel
 have r2:rd 18442240474082181120 9218868437227405312=(-9218868437227405312,9218868437227405312):=by decide +kernel
 have e:pwr 2 (-4616189618054758400) (-4607182418800017408) (-9218868437227405312) 9218868437227405312=(9218868437227405312,-9218868437227405312):=by
  unfold pwr;rw [if_pos (.inr (.inr ⟨by decide,by decide⟩))]
  decide +kernel
 rw [r1,r2,e] at h
 exact h.mono fun e w' h=>ret2 h (by decide +kernel) (by decide +kernel)
theorem td4(W:World):Rt 14 #[.agg #[.float .f64 4611686018427387904,.float .f64 4611686018427387904],.agg #[.float .f64 4607182418800017408,.float .f64 4611686018427387904]] (.agg #[.float .f64 4609047870845172684,.float .f64 4609047870845172685]) W:=by
 have h:=sqrrev_any 4611686018427387904 4611686018427387904 4607182418800017408 4611686018427387904 W (by decide) (by decide) (by decide) (by decide)
 have r1:rd 4611686018427387904 4611686018427387904=(4611686018427387904,4611686018427387904):=by decide +kernel
 have r2:rd 4607182418800017408 4611686018427387904=(4607182418800017408,4611686018427387904):=by decide +kernel
 have e:pwr 2 4611686018427387904 4611686018427387904 4607182418800017408 4611686018427387904=(4609047870845172684,4609047870845172685):=by
  have q:=rti_near (i:=4611686018427387904) (k:=4609047870845172684) (n:=2) (by decide) (by decide) (by decide) (by decide +kernel) (by decide) (by decide +kernel) (by decide +kernel) (by decide +kernel) (by decide +kernel) (by decide +kernel);unfold pwr;rw [if_neg (by decide),if_pos (by decide),show max (4611686018427387904:Int) 0=4611686018427387904 from by decide,q.1,q.2]
  decide +kernel
 rw [r1,r2,e] at h
 exact h.mono fun e w' h=>ret2 h (by decide +kernel) (by decide +kernel)
theorem td5(W:World):Rt 17 #[.agg #[.float .f64 13835058055282163712,.float .f64 4613937818241073152],.agg #[.float .f64 18442240474082181120,.float .f64 9218868437227405312]] (.agg #[.float .f64 0,.float .f64 4621256167635550208]) W:=
 (sqrtrev_any 13835058055282163712 4613937818241073152 18442240474082181120 9218868437227405312 W (by decide) (by decide) (by decide) (by decide)).mono fun e w' h=>ret2 h (by decide +kernel) (by decide +kernel)
theorem td6(W:World):Rt 17 #[.agg #[.float .f64 13835058055282163712,.float .f64 13830554455654793216],.agg #[.float .f64 18442240474082181120,.float .f64 9218868437227405312]] (.agg #[.float .f64 9218868437227405312,.float .f64 18442240474082181120]) W:=
 (sqrtrev_any 13835058055282163712 13830554455654793216 18442240474082181120 9218868437227405312 W (by decide) (by decide) (by decide) (by decide)).mono fun e w' h=>ret2 h (by decide +kernel) (by decide +kernel)
theorem td7(W:World):Rt 50 #[.agg #[.float .f64 4607182418800017408,.float .f64 4611686018427387904],.agg #[.float .f64 13832806255468478464,.float .f64 4609434218613702656]] (.agg #[.float .f64 13832806255468478464,.float .f64 4609434218613702656]) W:=
 (absrev_any 4607182418800017408 4611686018427387904 13832806255468478464 4609434218613702656 W (by decide) (by decide) (by decide) (by decide)).mono fun e w' h=>ret2 h (by decide +kernel) (by decide +kernel)
theorem td8(W:World):Rt 50 #[.agg #[.float .f64 4607182418800017408,.float .f64 4611686018427387904],.agg #[.float .f64 0,.float .f64 4617315517961601024]] (.agg #[.float .f64 4607182418800017408,.float .f64 4611686018427387904]) W:=
 (absrev_any 4607182418800017408 4611686018427387904 0 4617315517961601024 W (by decide) (by decide) (by decide) (by decide)).mono fun e w' h=>ret2 h (by decide +kernel) (by decide +kernel)
theorem td9(W:World)(hT:Tab W):Rt 39 #[.int .i64 3,.agg #[.float .f64 13844065254536904704,.float .f64 4628293042053316608],.agg #[.float .f64 18442240474082181120,.float .f64 9218868437227405312]] (.agg #[.float .f64 13835058055282163712,.float .f64 4613937818241073152]) W:=by
 have h:=pownz_any 3 13844065254536904704 4628293042053316608 18442240474082181120 9218868437227405312 W (by decide) (by decide) (by decide) (by decide) hT
 have r1:rd 13844065254536904704 4628293042053316608=(-4620693217682128896,4628293042053316608):=by decide +kernel
 have r2:rd 18442240474082181120 9218868437227405312=(-9218868437227405312,9218868437227405312):=by decide +kernel
 have e:pwz 3 (-4620693217682128896) 4628293042053316608 (-9218868437227405312) 9218868437227405312=(-4611686018427387904,4613937818241073152):=by
  have n8:∀ d:Int,rti d (-4620693217682128896) 3=-rti (-d) 4620693217682128896 3:=fun d=>by
   unfold rti;rw [if_pos (by decide),if_neg (by decide)]
   rfl
  unfold pwz;rw [if_neg (by decide),if_neg (by decide),if_neg (by decide),if_neg (by decide),show (3:Int).natAbs=3 from rfl];unfold pwr;rw [if_neg (by decide),if_neg (by decide),n8,n8,show (-(-1):Int)=1 from rfl,rti_exact (d:=-1) (i:=4620693217682128896) (j:=4611686018427387904) (n:=3) (.inl rfl) (by decide) (by decide +kernel) (by decide) (by decide +kernel) (by decide) (by decide +kernel),rti_exact (d:=1) (i:=4620693217682128896) (j:=4611686018427387904) (n:=3) (.inr rfl) (by decide) (by decide +kernel) (by decide) (by decide +kernel) (by decide) (by decide +kernel),rti_exact (d:=-1) (i:=4628293042053316608) (j:=4613937818241073152) (n:=3) (.inl rfl) (by decide) (by decide +kernel) (by decide) (by decide +kernel) (by decide) (by decide +kernel),rti_exact (d:=1) (i:=4628293042053316608) (j:=4613937818241073152) (n:=3) (.inr rfl) (by decide) (by decide +kernel) (by decide) (by decide +kernel) (by decide) (by decide +kernel)]
  decide +kernel
 rw [r1,r2,e] at h
 exact h.mono fun e w' h=>ret2 h (by decide +kernel) (by decide +kernel)
theorem td10(W:World)(hT:Tab W):Rt 39 #[.int .i64 (-2),.agg #[.float .f64 4598175219545276416,.float .f64 4607182418800017408],.agg #[.float .f64 18442240474082181120,.float .f64 9218868437227405312]] (.agg #[.float .f64 13835058055282163712,.float .f64 4611686018427387904]) W:=by
 have h:=pownz_any (-2) 4598175219545276416 4607182418800017408 18442240474082181120 9218868437227405312 W (by decide) (by decide) (by decide) (by decide) hT
 have r1:rd 4598175219545276416 4607182418800017408=(4598175219545276416,4607182418800017408):=by decide +kernel
 have r2:rd 18442240474082181120 9218868437227405312=(-9218868437227405312,9218868437227405312):=by decide +kernel
 have e:pwz (-2) 4598175219545276416 4607182418800017408 (-9218868437227405312) 9218868437227405312=(-4611686018427387904,4611686018427387904):=by
  have q1:=fun d (hd:d=-1\/d=1)=>ivd_exact (d:=d) (j:=4607182418800017408) (k:=4607182418800017408) (n:=2) hd (by decide) (by decide) (by decide +kernel) (by decide) (by decide +kernel) (by decide +kernel);have q2:=fun d (hd:d=-1\/d=1)=>ivd_exact (d:=d) (j:=4598175219545276416) (k:=4611686018427387904) (n:=2) hd (by decide) (by decide) (by decide +kernel) (by decide) (by decide +kernel) (by decide +kernel)
  have a:apt 2 4598175219545276416 4607182418800017408 (-9218868437227405312) 9218868437227405312=(4607182418800017408,4611686018427387904):=by
   unfold apt;rw [if_neg (by decide),if_pos (by decide),if_pos (by decide),q1 _ (.inl rfl),q1 _ (.inr rfl),q2 _ (.inl rfl),q2 _ (.inr rfl)]
   decide +kernel
  unfold pwz;rw [if_neg (by decide),if_neg (by decide),if_neg (by decide),if_pos (by decide),if_neg (by decide),show (-2:Int).natAbs=2 from rfl];unfold blw;rw [if_pos (by decide),show (-(-9218868437227405312):Int)=9218868437227405312 from rfl,show (-9218868437227405312:Int)=-9218868437227405312 from rfl,a]
  decide +kernel
 rw [r1,r2,e] at h
 exact h.mono fun e w' h=>ret2 h (by decide +kernel) (by decide +kernel)
theorem td11(W:World)(hT:Tab W):Rt 39 #[.int .i64 0,.agg #[.float .f64 4607182418800017408,.float .f64 4607182418800017408],.agg #[.float .f64 4613937818241073152,.float .f64 4616189618054758400]] (.agg #[.float .f64 4613937818241073152,.float .f64 4616189618054758400]) W:=by
 have h:=pownz_any 0 4607182418800017408 4607182418800017408 4613937818241073152 4616189618054758400 W (by decide) (by decide) (by decide) (by decide) hT
 have r1:rd 4607182418800017408 4607182418800017408=(4607182418800017408,4607182418800017408):=by decide +kernel
 have r2:rd 4613937818241073152 4616189618054758400=(4613937818241073152,4616189618054758400):=by decide +kernel
 have e:pwz 0 4607182418800017408 4607182418800017408 4613937818241073152 4616189618054758400=(4613937818241073152,4616189618054758400):=by
  unfold pwz;rw [if_neg (by decide),if_neg (by decide),if_pos (by decide),if_pos (by decide)]
 rw [r1,r2,e] at h
 exact h.mono fun e w' h=>ret2 h (by decide +kernel) (by decide +kernel)
theorem td12(W:World)(hT:Tab W):Rt 39 #[.int .i64 0,.agg #[.float .f64 4611686018427387904,.float .f64 4613937818241073152],.agg #[.float .f64 4613937818241073152,.float .f64 4616189618054758400]] (.agg #[.float .f64 9218868437227405312,.float .f64 18442240474082181120]) W:=by
 have h:=pownz_any 0 4611686018427387904 4613937818241073152 4613937818241073152 4616189618054758400 W (by decide) (by decide) (by decide) (by decide) hT
 have r1:rd 4611686018427387904 4613937818241073152=(4611686018427387904,4613937818241073152):=by decide +kernel
 have r2:rd 4613937818241073152 4616189618054758400=(4613937818241073152,4616189618054758400):=by decide +kernel
 have e:pwz 0 4611686018427387904 4613937818241073152 4613937818241073152 4616189618054758400=(9218868437227405312,-9218868437227405312):=by
  unfold pwz;rw [if_neg (by decide),if_neg (by decide),if_pos (by decide),if_neg (by decide)]
  decide +kernel
 rw [r1,r2,e] at h
 exact h.mono fun e w' h=>ret2 h (by decide +kernel) (by decide +kernel)
theorem td13(W:World)(hT:Tab W):Rt 39 #[.int .i64 1025,.agg #[.float .f64 4611686018427387904,.float .f64 4613937818241073152],.agg #[.float .f64 4613937818241073152,.float .f64 4616189618054758400]] (.agg #[.float .f64 4613937818241073152,.float .f64 4616189618054758400]) W:=by
 have h:=pownz_any 1025 4611686018427387904 4613937818241073152 4613937818241073152 4616189618054758400 W (by decide) (by decide) (by decide) (by decide) hT
 have r1:rd 4611686018427387904 4613937818241073152=(4611686018427387904,4613937818241073152):=by decide +kernel
 have r2:rd 4613937818241073152 4616189618054758400=(4613937818241073152,4616189618054758400):=by decide +kernel
 have e:pwz 1025 4611686018427387904 4613937818241073152 4613937818241073152 4616189618054758400=(4613937818241073152,4616189618054758400):=by
  unfold pwz;rw [if_pos (by decide)]
 rw [r1,r2,e] at h
 exact h.mono fun e w' h=>ret2 h (by decide +kernel) (by decide +kernel)
theorem td14(W:World):Rt 54 #[.agg #[.float .f64 4607182418800017408,.float .f64 4607182418800017408],.agg #[.float .f64 13840687554816376832,.float .f64 0]] (.agg #[.float .f64 9218868437227405312,.float .f64 18442240474082181120]) W:=
 (signrev_any 4607182418800017408 4607182418800017408 13840687554816376832 0 W (by decide) (by decide) (by decide) (by decide)).mono fun e w' h=>ret2 h (by decide +kernel) (by decide +kernel)
theorem td15(W:World):Rt 54 #[.agg #[.float .f64 4607182418800017408,.float .f64 4607182418800017408],.agg #[.float .f64 0,.float .f64 4617315517961601024]] (.agg #[.float .f64 0,.float .f64 4617315517961601024]) W:=
 (signrev_any 4607182418800017408 4607182418800017408 0 4617315517961601024 W (by decide) (by decide) (by decide) (by decide)).mono fun e w' h=>ret2 h (by decide +kernel) (by decide +kernel)
theorem td16(W:World):Rt 54 #[.agg #[.float .f64 0,.float .f64 4602678819172646912],.agg #[.float .f64 18442240474082181120,.float .f64 9218868437227405312]] (.agg #[.float .f64 0,.float .f64 0]) W:=
 (signrev_any 0 4602678819172646912 18442240474082181120 9218868437227405312 W (by decide) (by decide) (by decide) (by decide)).mono fun e w' h=>ret2 h (by decide +kernel) (by decide +kernel)
theorem td17(W:World):Rt 54 #[.agg #[.float .f64 4598175219545276416,.float .f64 4602678819172646912],.agg #[.float .f64 18442240474082181120,.float .f64 9218868437227405312]] (.agg #[.float .f64 9218868437227405312,.float .f64 18442240474082181120]) W:=
 (signrev_any 4598175219545276416 4602678819172646912 18442240474082181120 9218868437227405312 W (by decide) (by decide) (by decide) (by decide)).mono fun e w' h=>ret2 h (by decide +kernel) (by decide +kernel)
theorem td18(W:World):Rt 55 #[.agg #[.float .f64 4607182418800017408,.float .f64 4612811918334230528],.agg #[.float .f64 18442240474082181120,.float .f64 9218868437227405312]] (.agg #[.float .f64 4607182418800017408,.float .f64 4613937818241073152]) W:=
 (floorrev_any 4607182418800017408 4612811918334230528 18442240474082181120 9218868437227405312 W (by decide) (by decide) (by decide) (by decide)).mono fun e w' h=>ret2 h (by decide +kernel) (by decide +kernel)
theorem td19(W:World):Rt 55 #[.agg #[.float .f64 4607182418800017408,.float .f64 4607182418800017408],.agg #[.float .f64 4611686018427387904,.float .f64 4613937818241073152]] (.agg #[.float .f64 9218868437227405312,.float .f64 18442240474082181120]) W:=
 (floorrev_any 4607182418800017408 4607182418800017408 4611686018427387904 4613937818241073152 W (by decide) (by decide) (by decide) (by decide)).mono fun e w' h=>ret2 h (by decide +kernel) (by decide +kernel)
theorem td20(W:World):Rt 55 #[.agg #[.float .f64 4608308318706860032,.float .f64 4610560118520545280],.agg #[.float .f64 18442240474082181120,.float .f64 9218868437227405312]] (.agg #[.float .f64 9218868437227405312,.float .f64 18442240474082181120]) W:=
 (floorrev_any 4608308318706860032 4610560118520545280 18442240474082181120 9218868437227405312 W (by decide) (by decide) (by decide) (by decide)).mono fun e w' h=>ret2 h (by decide +kernel) (by decide +kernel)
theorem td21(W:World):Rt 55 #[.agg #[.float .f64 4845873199050653696,.float .f64 4845873199050653696],.agg #[.float .f64 18442240474082181120,.float .f64 9218868437227405312]] (.agg #[.float .f64 4845873199050653696,.float .f64 4845873199050653697]) W:=
 (floorrev_any 4845873199050653696 4845873199050653696 18442240474082181120 9218868437227405312 W (by decide) (by decide) (by decide) (by decide)).mono fun e w' h=>ret2 h (by decide +kernel) (by decide +kernel)
theorem td22(W:World):Rt 56 #[.agg #[.float .f64 4607182418800017408,.float .f64 4612811918334230528],.agg #[.float .f64 18442240474082181120,.float .f64 9218868437227405312]] (.agg #[.float .f64 0,.float .f64 4611686018427387904]) W:=
 (ceilrev_any 4607182418800017408 4612811918334230528 18442240474082181120 9218868437227405312 W (by decide) (by decide) (by decide) (by decide)).mono fun e w' h=>ret2 h (by decide +kernel) (by decide +kernel)
theorem td23(W:World):Rt 57 #[.agg #[.float .f64 0,.float .f64 0],.agg #[.float .f64 18442240474082181120,.float .f64 9218868437227405312]] (.agg #[.float .f64 13830554455654793216,.float .f64 4607182418800017408]) W:=
 (truncrev_any 0 0 18442240474082181120 9218868437227405312 W (by decide) (by decide) (by decide) (by decide)).mono fun e w' h=>ret2 h (by decide +kernel) (by decide +kernel)
theorem td24(W:World):Rt 57 #[.agg #[.float .f64 0,.float .f64 0],.agg #[.float .f64 4607182418800017408,.float .f64 4611686018427387904]] (.agg #[.float .f64 9218868437227405312,.float .f64 18442240474082181120]) W:=
 (truncrev_any 0 0 4607182418800017408 4611686018427387904 W (by decide) (by decide) (by decide) (by decide)).mono fun e w' h=>ret2 h (by decide +kernel) (by decide +kernel)
theorem td25(W:World):Rt 59 #[.agg #[.float .f64 4607182418800017408,.float .f64 4607182418800017408],.agg #[.float .f64 4609434218613702656,.float .f64 4611686018427387904]] (.agg #[.float .f64 9218868437227405312,.float .f64 18442240474082181120]) W:=
 (evenrev_any 4607182418800017408 4607182418800017408 4609434218613702656 4611686018427387904 W (by decide) (by decide) (by decide) (by decide)).mono fun e w' h=>ret2 h (by decide +kernel) (by decide +kernel)
theorem td26(W:World):Rt 59 #[.agg #[.float .f64 4611686018427387904,.float .f64 4611686018427387904],.agg #[.float .f64 4607182418800017408,.float .f64 4609434218613702656]] (.agg #[.float .f64 4609434218613702656,.float .f64 4609434218613702656]) W:=
 (evenrev_any 4611686018427387904 4611686018427387904 4607182418800017408 4609434218613702656 W (by decide) (by decide) (by decide) (by decide)).mono fun e w' h=>ret2 h (by decide +kernel) (by decide +kernel)
theorem td27(W:World):Rt 60 #[.agg #[.float .f64 4607182418800017408,.float .f64 4607182418800017408],.agg #[.float .f64 4609434218613702656,.float .f64 4611686018427387904]] (.agg #[.float .f64 9218868437227405312,.float .f64 18442240474082181120]) W:=
 (awayrev_any 4607182418800017408 4607182418800017408 4609434218613702656 4611686018427387904 W (by decide) (by decide) (by decide) (by decide)).mono fun e w' h=>ret2 h (by decide +kernel) (by decide +kernel)
theorem td28(W:World):Rt 60 #[.agg #[.float .f64 4607182418800017408,.float .f64 4607182418800017408],.agg #[.float .f64 0,.float .f64 4602678819172646912]] (.agg #[.float .f64 4602678819172646912,.float .f64 4602678819172646912]) W:=
 (awayrev_any 4607182418800017408 4607182418800017408 0 4602678819172646912 W (by decide) (by decide) (by decide) (by decide)).mono fun e w' h=>ret2 h (by decide +kernel) (by decide +kernel)
theorem td29(W:World):Rt 38 #[.agg #[.float .f64 13830554455654793216,.float .f64 4611686018427387904],.agg #[.float .f64 4607182418800017408,.float .f64 4607182418800017408]] (.tuple #[.agg #[.float .f64 18442240474082181120,.float .f64 13830554455654793216],.agg #[.float .f64 4602678819172646912,.float .f64 9218868437227405312]]) W:=
 (mulpair_any 13830554455654793216 4611686018427387904 4607182418800017408 4607182418800017408 W (by decide) (by decide) (by decide) (by decide)).mono fun e w' h=>ret4 h (by decide +kernel) (by decide +kernel) (by decide +kernel) (by decide +kernel)
theorem td30(W:World):Rt 38 #[.agg #[.float .f64 0,.float .f64 0],.agg #[.float .f64 4607182418800017408,.float .f64 4607182418800017408]] (.tuple #[.agg #[.float .f64 9218868437227405312,.float .f64 18442240474082181120],.agg #[.float .f64 9218868437227405312,.float .f64 18442240474082181120]]) W:=
 (mulpair_any 0 0 4607182418800017408 4607182418800017408 W (by decide) (by decide) (by decide) (by decide)).mono fun e w' h=>ret4 h (by decide +kernel) (by decide +kernel) (by decide +kernel) (by decide +kernel)
theorem td31(W:World):Rt 38 #[.agg #[.float .f64 18442240474082181120,.float .f64 9218868437227405312],.agg #[.float .f64 4607182418800017408,.float .f64 4611686018427387904]] (.tuple #[.agg #[.float .f64 18442240474082181120,.float .f64 0],.agg #[.float .f64 0,.float .f64 9218868437227405312]]) W:=
 (mulpair_any 18442240474082181120 9218868437227405312 4607182418800017408 4611686018427387904 W (by decide) (by decide) (by decide) (by decide)).mono fun e w' h=>ret4 h (by decide +kernel) (by decide +kernel) (by decide +kernel) (by decide +kernel)
theorem td32(W:World):Rt 68 #[.agg #[.float .f64 4607182418800017408,.float .f64 4617315517961601024],.agg #[.float .f64 0,.float .f64 4611686018427387904]] (.agg #[.float .f64 4607182418800017408,.float .f64 4613937818241073152]) W:=
 (cancel_any 4607182418800017408 4617315517961601024 0 4611686018427387904 W (by decide) (by decide) (by decide) (by decide)).mono fun e w' h=>ret2 h (by decide +kernel) (by decide +kernel)
theorem td33(W:World):Rt 68 #[.agg #[.float .f64 0,.float .f64 4611686018427387904],.agg #[.float .f64 4607182418800017408,.float .f64 4617315517961601024]] (.agg #[.float .f64 18442240474082181120,.float .f64 9218868437227405312]) W:=
 (cancel_any 0 4611686018427387904 4607182418800017408 4617315517961601024 W (by decide) (by decide) (by decide) (by decide)).mono fun e w' h=>ret2 h (by decide +kernel) (by decide +kernel)
theorem td34(W:World):Rt 68 #[.agg #[.float .f64 9218868437227405312,.float .f64 18442240474082181120],.agg #[.float .f64 4607182418800017408,.float .f64 4611686018427387904]] (.agg #[.float .f64 9218868437227405312,.float .f64 18442240474082181120]) W:=
 (cancel_any 9218868437227405312 18442240474082181120 4607182418800017408 4611686018427387904 W (by decide) (by decide) (by decide) (by decide)).mono fun e w' h=>ret2 h (by decide +kernel) (by decide +kernel)
theorem td35(W:World):Rt 68 #[.agg #[.float .f64 9218868437227405312,.float .f64 18442240474082181120],.agg #[.float .f64 18442240474082181120,.float .f64 9218868437227405312]] (.agg #[.float .f64 18442240474082181120,.float .f64 9218868437227405312]) W:=
 (cancel_any 9218868437227405312 18442240474082181120 18442240474082181120 9218868437227405312 W (by decide) (by decide) (by decide) (by decide)).mono fun e w' h=>ret2 h (by decide +kernel) (by decide +kernel)
theorem td36(W:World):Rt 68 #[.agg #[.float .f64 4607182418800017408,.float .f64 4611686018427387904],.agg #[.float .f64 9218868437227405312,.float .f64 18442240474082181120]] (.agg #[.float .f64 18442240474082181120,.float .f64 9218868437227405312]) W:=
 (cancel_any 4607182418800017408 4611686018427387904 9218868437227405312 18442240474082181120 W (by decide) (by decide) (by decide) (by decide)).mono fun e w' h=>ret2 h (by decide +kernel) (by decide +kernel)
theorem td37(W:World):Rt 69 #[.agg #[.float .f64 4607182418800017408,.float .f64 4617315517961601024],.agg #[.float .f64 0,.float .f64 4611686018427387904]] (.agg #[.float .f64 4613937818241073152,.float .f64 4617315517961601024]) W:=
 (cancelp_any 4607182418800017408 4617315517961601024 0 4611686018427387904 W (by decide) (by decide) (by decide) (by decide)).mono fun e w' h=>ret2 h (by decide +kernel) (by decide +kernel)
end
end Go.Proofs.YthlmlmfebpjgdaaGreatDoor
