/-
Lemmas for the statement: ClR StepI StepJ StepF ClosT StepsT StepT FloorP FlooT.
-/
import Derived.Test.YthlmlmfebpjgdaaGreatDoorM13
import Derived.Test.YthlmlmfebpjgdaaGreatDoorM14
import Derived.Test.YthlmlmfebpjgdaaGreatDoorM16
import Derived.Test.YthlmlmfebpjgdaaGreatDoorM15
import Derived.Test.YthlmlmfebpjgdaaGreatDoorM03
import Derived.Test.YthlmlmfebpjgdaaGreatDoorM10
import Derived.Deep.DeepCutAuto
import Derived.Test.YthlmlmfebpjgdaaGreatDoorM07
import Derived.Test.YthlmlmfebpjgdaaGreatDoorM02
import Derived.Laws.Externs
set_option linter.unusedSimpArgs false
set_option linter.unusedVariables false
set_option maxHeartbeats 12800000
namespace Go.Proofs.YthlmlmfebpjgdaaGreatDoor
theorem ctO_false(i j pd pu qd qu:Int):ctO false i j pd pu qd qu=ct i j pd pu qd qu:=by
 unfold ctO ct
 split
 ·rfl
 ·rw [if_neg (by rintro⟨h,-⟩;cases h)]
theorem Cl.two{pd pu qd qu:Int}(h1:-(M:Int)<=pd/\pd<M)(h2:-(M:Int)<qu/\qu<=M)(hp:pd<=pu)(hq:qd<=qu)(hd:pd<=qd)(hu:pu<=qu):Cl fun i j=>tw i j pd pu qd qu:=by
 have e:(fun i j=>tw i j pd pu qd qu)=fun i j=>(min (Go.Proofs.YthlmlmfebpjgdaaGreatDoor.ct i j pd pu qd qu).1 (Go.Proofs.YthlmlmfebpjgdaaGreatDoor.ct i j (-qu) (-qd) (-pu) (-pd)).1,max (Go.Proofs.YthlmlmfebpjgdaaGreatDoor.ct i j pd pu qd qu).2 (Go.Proofs.YthlmlmfebpjgdaaGreatDoor.ct i j (-qu) (-qd) (-pu) (-pd)).2):=by
  funext i j;unfold tw;rw [ctO_false,ctO_false]
 rw [e]
 exact (Cl.ct h1 h2 hp hq hd hu).hull (Cl.ct (by omega) (by omega) (by omega) (by omega) (by omega) (by omega))
theorem Cl.abr{i2 j2:Int}(h2:Iv i2 j2):Cl fun i j=>Go.Proofs.YthlmlmfebpjgdaaGreatDoor.abr i2 j2 i j:=by
 have hM:=M_val
 by_cases e:j2<i2\/j2<0
 ·refine Cl.none.congr fun i j _=>?_;unfold Go.Proofs.YthlmlmfebpjgdaaGreatDoor.abr;rw [if_pos (by omega)]
 ·have n2:=ne_or h2 (by omega);unfold Ne at n2;refine (Cl.two (pd:=max i2 0) (pu:=max i2 0) (qd:=j2) (qu:=j2) (by omega) (by omega) (by omega) (by omega) (by omega) (by omega)).cut (fun i j n=>?_) (fun i j k=>?_)
  ·unfold Ne at n;unfold Go.Proofs.YthlmlmfebpjgdaaGreatDoor.abr tw;rw [if_neg (by omega)]
  ·unfold Go.Proofs.YthlmlmfebpjgdaaGreatDoor.abr;rw [if_pos (by omega)]
theorem sq_mono{d a b:Int}(hd:d=-1\/d=1)(h0:0<=a)(h:a<=b)(hb:b<=M):sq d a<=sq d b:=by
 have hM:=M_val
 have nn:∀ k:Int,0<=k->0<=fl k:=fun k hk=>by have:=fl_le_iff.2 hk;rwa [fl_zero] at this
 have pos:0<=sq d b:=by
  unfold sq mu
  split
  ·omega
  ·split
   ·rw [if_neg (by simp)];omega
   ·have:=rndI_mono hd (x:=0) (y:=fl b*fl b) (Rat.mul_nonneg (nn b (by omega)) (nn b (by omega)))
    rwa [rndI_zero hd] at this
 by_cases a0:a=0
 ·have:sq d a=0:=by unfold sq;rw [if_pos a0]
  omega
 by_cases bM:b=M
 ·have e:sq d b=M:=by
   unfold sq mu;rw [if_neg (by omega),if_pos (.inl bM),if_neg (by simp)]
  have:=(sq_rng (d:=d) (i:=a) hd (by omega)).2
  omega
 ·unfold sq mu;rw [if_neg a0,if_neg (by omega),if_neg (by omega),if_neg (by omega)];have p:=nn a h0;have q:=fl_le_iff.2 h;refine rndI_mono hd ?_
  have h1:fl a*fl a<=fl b*fl a:=by rw [Rat.mul_comm (fl b)];exact Rat.mul_le_mul_of_nonneg_left q p
  have h2:fl b*fl a<=fl b*fl b:=Rat.mul_le_mul_of_nonneg_left q (by grind)
  grind
theorem sq_pair(a:Int):sq (-1) a<=sq 1 a:=by
 unfold sq mu
 split
 ·omega
 ·split
  ·split<;>omega
  ·exact rndI_le _
theorem Cl.sqt{i2 j2:Int}(h2:Iv i2 j2):Cl fun i j=>Go.Proofs.YthlmlmfebpjgdaaGreatDoor.sqt i2 j2 i j:=by
 have hM:=M_val
 by_cases e:j2<i2\/j2<0
 ·refine Cl.none.congr fun i j _=>?_;unfold Go.Proofs.YthlmlmfebpjgdaaGreatDoor.sqt;rw [if_pos (by omega)]
 ·have n2:=ne_or h2 (by omega);unfold Ne at n2;have r1:=sq_rng (d:=-1) (i:=max i2 0) (.inl rfl) (by omega);have r2:=sq_rng (d:=1) (i:=j2) (.inr rfl) (by omega)
  have lt:sq (-1) (max i2 0)<M:=by
   unfold sq mu
   split
   ·omega
   ·rw [if_neg (by omega)];have:=rndI_down (fl (max i2 0)*fl (max i2 0));omega
  have gt:-(M:Int)<sq 1 j2:=by
   have:=sq_mono (d:=1) (a:=0) (b:=j2) (.inr rfl) (by omega) (by omega) (by omega)
   have z:sq 1 0=0:=by unfold sq;rw [if_pos rfl]
   omega
  have K:=Cl.ct ⟨r1.1,lt⟩ ⟨gt,r2.2⟩ (sq_pair (max i2 0)) (sq_pair j2) (sq_mono (.inl rfl) (by omega) (by omega) (by omega)) (sq_mono (.inr rfl) (by omega) (by omega) (by omega));refine K.cut (fun i j n=>?_) (fun i j k=>?_)
  ·unfold Ne at n;unfold Go.Proofs.YthlmlmfebpjgdaaGreatDoor.sqt;rw [if_neg (by omega),ctO_false]
  ·unfold Go.Proofs.YthlmlmfebpjgdaaGreatDoor.sqt;rw [if_pos (by omega)]
theorem rt1_mono{d a b:Int}{n:Nat}(hd:d=-1\/d=1)(hn:1<=n)(hn2:n<=1024)(h0:0<=a)(h:a<=b)(hb:b<=M):rt1 d a n<=rt1 d b n:=by
 have hM:=M_val
 have e:∀ k:Int,0<=k->rti d k n=rt1 d k n:=fun k hk=>by unfold rti;rw [if_neg (by omega)]
 have la:=rti_lo (d:=d) (a:=a) (n:=n) hd h0 (by omega) hn hn2;have lb:=rti_lo (d:=d) (a:=b) (n:=n) hd (by omega) hb hn hn2;rw [e a h0] at la;rw [e b (by omega)] at lb
 by_cases a0:a=0
 ·have:rt1 d a n=0:=by unfold rt1;rw [if_pos (.inl a0),a0]
  omega
 by_cases bM:b=M
 ·have:rt1 d b n=M:=by unfold rt1;rw [if_pos (.inr bM),bM]
  omega
 have oa:=rt_ok (i:=a) (n:=n) (by omega) (by omega) hn hn2;have ob:=rt_ok (i:=b) (n:=n) (by omega) (by omega) hn hn2;have ea:=rt1_of hd oa (by omega) (by omega);have eb:=rt1_of hd ob (by omega) bM;rw [ea,eb];rw [ea] at la;rw [eb] at lb;have qa:=RtQ.of oa;have qb:=RtQ.of ob;have hX:=fl_le_iff.2 h;have da:=rndI_down (rootq a n);have db:=rndI_down (rootq b n);have ua:=rndI_up (rootq a n);have ub:=rndI_up (rootq b n)
 rcases hd with rfl | rfl
 ·have k1:=(da.2.2 _ (by omega) (by omega)).1 (Int.le_refl _);have k2:=(qa.2 _ la.1).1.1 k1;have k3:=(qb.2 _ la.1).1.2 (Rat.le_trans k2 hX)
  exact (db.2.2 _ (by omega) (by omega)).2 k3
 ·by_cases z:rndI 1 (rootq b n)=M
  ·omega
  ·have k1:=(ub.2.2 _ (by omega) (by omega)).1 (Int.le_refl _);have k2:=(qb.2 _ lb.1).2.1 k1;have k3:=(qa.2 _ lb.1).2.2 (Rat.le_trans hX k2)
   exact (ua.2.2 _ (by omega) (by omega)).2 k3
theorem rti_mono2{d a b:Int}{n:Nat}(hd:d=-1\/d=1)(hn:1<=n)(hn2:n<=1024)(h0:-(M:Int)<=a)(h:a<=b)(hb:b<=M):rti d a n<=rti d b n:=by
 have hM:=M_val
 by_cases ha:0<=a
 ·unfold rti;rw [if_neg (by omega),if_neg (by omega)]
  exact rt1_mono hd hn hn2 ha h hb
 ·by_cases hb0:b<0
  ·unfold rti;rw [if_pos (by omega),if_pos hb0];have:=rt1_mono (d:=-d) (a:=-b) (b:=-a) (n:=n) (by omega) hn hn2 (by omega) (by omega) (by omega)
   omega
  ·have l1:=rti_lo (d:=-d) (a:=-a) (n:=n) (by omega) (by omega) (by omega) hn hn2;have l2:=rti_lo (d:=d) (a:=b) (n:=n) hd (by omega) hb hn hn2
   have e1:rti d a n=-rti (-d) (-a) n:=by
    unfold rti;rw [if_pos (by omega),if_neg (by omega)]
   omega
theorem rt1_pair{a:Int}{n:Nat}:rt1 (-1) a n<=rt1 1 a n:=by
 unfold rt1
 split
 ·omega
 ·exact rndI_le _
theorem rti_pair(a:Int)(n:Nat):rti (-1) a n<=rti 1 a n:=by
 unfold rti
 split
 ·have:=rt1_pair (a:=-a) (n:=n);rw [show (-(-1):Int)=1 from rfl]
  omega
 ·exact rt1_pair
theorem rti_rng2{d a:Int}{n:Nat}(hd:d=-1\/d=1)(hn:1<=n)(hn2:n<=1024)(h0:-(M:Int)<=a)(h1:a<=M):-(M:Int)<=rti d a n/\rti d a n<=M/\(d=-1->a<M->rti d a n<M)/\(d=1->-(M:Int)<a->-(M:Int)<rti d a n):=by
 have hM:=M_val
 by_cases ha:0<=a
 ·have l:=rti_lo (d:=d) (a:=a) (n:=n) hd ha h1 hn hn2
  exact⟨by omega,by omega,l.2.2,fun _ _=>by omega⟩
 ·have l:=rti_lo (d:=-d) (a:=-a) (n:=n) (by omega) (by omega) (by omega) hn hn2
  have e1:rti d a n=-rti (-d) (-a) n:=by
   unfold rti;rw [if_pos (by omega),if_neg (by omega)]
  rw [e1]
  exact⟨by omega,by omega,fun _ _=>by omega,fun q r=>by have:=l.2.2 (by omega) (by omega);omega⟩
theorem Cl.pwr{n:Nat}(hn:1<=n)(hn2:n<=1024){i2 j2:Int}(h2:Iv i2 j2):Cl fun i j=>Go.Proofs.YthlmlmfebpjgdaaGreatDoor.pwr n i2 j2 i j:=by
 have hM:=M_val
 by_cases e:j2<i2\/(n % 2=0/\j2<0)
 ·refine Cl.none.congr fun i j _=>?_;unfold Go.Proofs.YthlmlmfebpjgdaaGreatDoor.pwr;rw [if_pos (by omega)]
 ·have n2:=ne_or h2 (by omega);unfold Ne at n2;have r2:=rti_rng2 (d:=1) (a:=j2) (n:=n) (.inr rfl) hn hn2 (by omega) (by omega);have gt:=r2.2.2.2 rfl (by omega)
  by_cases hp:n % 2=0
  ·have r1:=rti_rng2 (d:=-1) (a:=max i2 0) (n:=n) (.inl rfl) hn hn2 (by omega) (by omega);have lt:=r1.2.2.1 rfl (by omega);have K:=Cl.two ⟨r1.1,lt⟩ ⟨gt,r2.2.1⟩ (rti_pair (max i2 0) n) (rti_pair j2 n) (rti_mono2 (.inl rfl) hn hn2 (by omega) (by omega) (by omega)) (rti_mono2 (.inr rfl) hn hn2 (by omega) (by omega) (by omega));refine K.cut (fun i j k=>?_) (fun i j k=>?_)
   ·unfold Ne at k;unfold Go.Proofs.YthlmlmfebpjgdaaGreatDoor.pwr;rw [if_neg (by omega),if_pos hp]
   ·unfold Go.Proofs.YthlmlmfebpjgdaaGreatDoor.pwr;rw [if_pos (by omega)]
  ·have r1:=rti_rng2 (d:=-1) (a:=i2) (n:=n) (.inl rfl) hn hn2 (by omega) (by omega);have lt:=r1.2.2.1 rfl (by omega);have K:=Cl.ct ⟨r1.1,lt⟩ ⟨gt,r2.2.1⟩ (rti_pair i2 n) (rti_pair j2 n) (rti_mono2 (.inl rfl) hn hn2 (by omega) (by omega) (by omega)) (rti_mono2 (.inr rfl) hn hn2 (by omega) (by omega) (by omega));refine K.cut (fun i j k=>?_) (fun i j k=>?_)
   ·unfold Ne at k;unfold Go.Proofs.YthlmlmfebpjgdaaGreatDoor.pwr;rw [if_neg (by omega),if_neg hp,ctO_false]
   ·unfold Go.Proofs.YthlmlmfebpjgdaaGreatDoor.pwr;rw [if_pos (by omega)]
theorem ivd_pos{j:Int}(h0:0<j)(h1:j<M){n:Nat}(hn:1<=n):0<ivd 1 j n:=by
 unfold ivd;rw [if_neg (by omega)]
 exact rndI_pos (rtx_ok h0 hn).1
theorem Cl.apt{n:Nat}(hn:1<=n){i2 j2:Int}(h2:Ne i2 j2):Cl fun i j=>Go.Proofs.YthlmlmfebpjgdaaGreatDoor.apt n i2 j2 i j:=by
 have hM:=M_val;unfold Ne at h2
 by_cases e:j2<=0
 ·refine Cl.none.congr fun i j _=>?_;unfold Go.Proofs.YthlmlmfebpjgdaaGreatDoor.apt;rw [if_pos e]
 ·have a1:=ivd_rng (d:=-1) (.inl rfl) (j:=j2) (by omega) (by omega) hn;have a2:=ivd_rng (d:=1) (.inr rfl) (j:=j2) (by omega) (by omega) hn;have a3:=ivd_lt (j:=j2) (by omega) (n:=n);have a4:=ivd_pair j2 n
  obtain⟨qd,hqd⟩:∃ q,(if 0<i2 then ivd (-1) i2 n else (M:Int))=q:=⟨_,rfl⟩
  obtain⟨qu,hqu⟩:∃ q,(if 0<i2 then ivd 1 i2 n else (M:Int))=q:=⟨_,rfl⟩
  have hq:0<qu/\qu<=M/\qd<=qu/\ivd (-1) j2 n<=qd/\ivd 1 j2 n<=qu:=by
   by_cases k:0<i2
   ·rw [if_pos k] at hqd hqu;have b1:=ivd_rng (d:=1) (.inr rfl) (j:=i2) k (by omega) hn;have b4:=ivd_pair i2 n;have b5:=ivd_anti k h2.2.1 h2.2.2.1 hn;have b6:=ivd_pos k (by omega) hn
    omega
   ·rw [if_neg k] at hqd hqu
    omega
  obtain⟨pd,epd⟩:∃ q,ivd (-1) j2 n=q:=⟨_,rfl⟩
  obtain⟨pu,epu⟩:∃ q,ivd 1 j2 n=q:=⟨_,rfl⟩
  rw [epd] at a1 a3 a4 hq;rw [epu] at a2 a4 hq;refine (Cl.cto (o1:=decide (pd=0/\pu=0)) (o2:=false) (pd:=pd) (pu:=pu) (qd:=qd) (qu:=qu) (by omega) (by omega) (by omega) (by omega) (by omega) (by omega) (fun k=>⟨decide_eq_false (by omega),rfl⟩)).congr fun i j v=>?_;unfold Go.Proofs.YthlmlmfebpjgdaaGreatDoor.apt;rw [if_neg e,hqd,hqu,epd,epu];unfold ctO Go.Proofs.YthlmlmfebpjgdaaGreatDoor.cto
  by_cases c:qd<i\/j<pu
  ·rw [if_pos c,if_pos (by rcases c with c | c;exact .inl c;exact .inr (.inr (.inl c)))]
  ·rw [if_neg c]
   by_cases o:(pd=0/\pu=0)/\j=0
   ·rw [if_pos ⟨rfl,.inl ⟨o.1.1,o.1.2,by omega⟩⟩,if_pos (.inr (.inr (.inr ⟨by omega,by omega,decide_eq_true o.1⟩)))]
   ·rw [if_neg (by omega),if_neg];rintro (q | ⟨-,-,q⟩ | q | ⟨q1,q2,q3⟩)
    ·omega
    ·cases q
    ·omega
    ·have:=of_decide_eq_true q3
     omega
theorem Cl.blw{n:Nat}(hn:1<=n){i2 j2:Int}(h2:Ne i2 j2):Cl fun i j=>Go.Proofs.YthlmlmfebpjgdaaGreatDoor.blw n i2 j2 i j:=by
 by_cases hp:n % 2=0
 ·have e:(fun i j=>Go.Proofs.YthlmlmfebpjgdaaGreatDoor.blw n i2 j2 i j)=fun i j=>(min (Go.Proofs.YthlmlmfebpjgdaaGreatDoor.apt n i2 j2 i j).1 (-(Go.Proofs.YthlmlmfebpjgdaaGreatDoor.apt n i2 j2 (-j) (-i)).2),max (Go.Proofs.YthlmlmfebpjgdaaGreatDoor.apt n i2 j2 i j).2 (-(Go.Proofs.YthlmlmfebpjgdaaGreatDoor.apt n i2 j2 (-j) (-i)).1)):=by
   funext i j;unfold Go.Proofs.YthlmlmfebpjgdaaGreatDoor.blw;rw [if_pos hp]
  rw [e]
  exact (Cl.apt hn h2).hull (Cl.apt hn h2).ng
 ·have e:(fun i j=>Go.Proofs.YthlmlmfebpjgdaaGreatDoor.blw n i2 j2 i j)=fun i j=>(min (Go.Proofs.YthlmlmfebpjgdaaGreatDoor.apt n i2 j2 i j).1 (-(Go.Proofs.YthlmlmfebpjgdaaGreatDoor.apt n (-j2) (-i2) (-j) (-i)).2),max (Go.Proofs.YthlmlmfebpjgdaaGreatDoor.apt n i2 j2 i j).2 (-(Go.Proofs.YthlmlmfebpjgdaaGreatDoor.apt n (-j2) (-i2) (-j) (-i)).1)):=by
   funext i j;unfold Go.Proofs.YthlmlmfebpjgdaaGreatDoor.blw;rw [if_neg hp]
  rw [e]
  exact (Cl.apt hn h2).hull (Cl.apt hn h2.neg).ng
theorem Cl.pwz(z:Int){i2 j2:Int}(h2:Iv i2 j2):Cl fun i j=>Go.Proofs.YthlmlmfebpjgdaaGreatDoor.pwz z i2 j2 i j:=by
 have hM:=M_val
 by_cases far:z < -1024\/1024<z
 ·refine Cl.id.congr fun i j _=>?_;unfold Go.Proofs.YthlmlmfebpjgdaaGreatDoor.pwz;rw [if_pos far]
 by_cases e:j2<i2
 ·refine Cl.none.congr fun i j _=>?_;unfold Go.Proofs.YthlmlmfebpjgdaaGreatDoor.pwz;rw [if_neg far,if_pos (.inl e)]
 have n2:=ne_or h2 e
 have empty:∀ i j:Int,j<i->Go.Proofs.YthlmlmfebpjgdaaGreatDoor.pwz z i2 j2 i j=((M:Int),-(M:Int)):=fun i j k=>by
  unfold Go.Proofs.YthlmlmfebpjgdaaGreatDoor.pwz;rw [if_neg far,if_pos (.inr k)]
 by_cases z0:z=0
 ·by_cases k:i2<=4607182418800017408/\4607182418800017408<=j2
  ·refine Cl.id.cut (fun i j n=>?_) empty;unfold Ne at n;unfold Go.Proofs.YthlmlmfebpjgdaaGreatDoor.pwz;rw [if_neg far,if_neg (by omega),if_pos z0,if_pos k]
  ·refine Cl.none.cut (fun i j n=>?_) empty;unfold Ne at n;unfold Go.Proofs.YthlmlmfebpjgdaaGreatDoor.pwz;rw [if_neg far,if_neg (by omega),if_pos z0,if_neg k]
 by_cases zn:z<0
 ·by_cases k:z % 2=0/\j2<0
  ·refine Cl.none.cut (fun i j n=>?_) empty;unfold Ne at n;unfold Go.Proofs.YthlmlmfebpjgdaaGreatDoor.pwz;rw [if_neg far,if_neg (by omega),if_neg z0,if_pos zn,if_pos k]
  ·refine (Cl.blw (n:=z.natAbs) (by omega) n2).cut (fun i j n=>?_) empty;unfold Ne at n;unfold Go.Proofs.YthlmlmfebpjgdaaGreatDoor.pwz;rw [if_neg far,if_neg (by omega),if_neg z0,if_pos zn,if_neg k]
 ·refine (Cl.pwr (n:=z.natAbs) (by omega) (by omega) h2).cut (fun i j n=>?_) empty;unfold Ne at n;unfold Go.Proofs.YthlmlmfebpjgdaaGreatDoor.pwz;rw [if_neg far,if_neg (by omega),if_neg z0,if_neg zn]
def bL:Nat->Int->Rat
 | 1,A=>A
 | 2,A=>A - 1
 | 3,A=>if 0<A then (A:Rat) else A - 1
 | _,A=>A - 1/2
def oL:Nat->Int->Bool
 | 1,_=>false
 | 2,_=>true
 | 3,A=>!decide (0<A)
 | 4,A=>decide (A % 2=1)
 | _,A=>decide (A<=0)
def bU:Nat->Int->Rat
 | 1,B=>B+1
 | 2,B=>B
 | 3,B=>if B<0 then (B:Rat) else B+1
 | _,B=>B+1/2
def oU:Nat->Int->Bool
 | 1,_=>true
 | 2,_=>false
 | 3,B=>!decide (B<0)
 | 4,B=>decide (B % 2=1)
 | _,B=>decide (0<=B)
theorem bL_succ{w:Nat}(hw:1<=w)(B:Int):bL w (B+1)=bU w B/\oL w (B+1)=!oU w B:=by
 have e:((B+1:Int):Rat)=(B:Rat)+1:=by rw [Rat.intCast_add];rfl
 match w,hw with
 | 1,_=>exact⟨e,rfl⟩
 | 2,_=>exact⟨by show ((B+1:Int):Rat) - 1=B;rw [e];grind,rfl⟩
 | 3,_=>
  refine⟨?_,?_⟩
  ·show (if 0<B+1 then ((B+1:Int):Rat) else ((B+1:Int):Rat) - 1)=if B<0 then (B:Rat) else (B:Rat)+1
   rw [e]
   by_cases h:B<0
   ·rw [if_neg (by omega),if_pos h];grind
   ·rw [if_pos (by omega),if_neg h]
  ·show (!decide (0<B+1))=!(!decide (B<0))
   by_cases h:B<0
   ·rw [decide_eq_true h,decide_eq_false (by omega)];rfl
   ·rw [decide_eq_false h,decide_eq_true (by omega)];rfl
 | 4,_=>
  refine⟨?_,?_⟩
  ·show ((B+1:Int):Rat) - 1/2=(B:Rat)+1/2
   rw [e];grind
  ·show decide ((B+1) % 2=1)=!decide (B % 2=1)
   by_cases h:B % 2=1
   ·rw [decide_eq_true h,decide_eq_false (by omega)];rfl
   ·rw [decide_eq_false h,decide_eq_true (by omega)];rfl
 | w+5,_=>
  refine⟨?_,?_⟩
  ·show ((B+1:Int):Rat) - 1/2=(B:Rat)+1/2
   rw [e];grind
  ·show decide (B+1<=0)=!decide (0<=B)
   by_cases h:0<=B
   ·rw [decide_eq_true h,decide_eq_false (by omega)];rfl
   ·rw [decide_eq_false h,decide_eq_true (by omega)];rfl
theorem floor_two(x:Rat):(x.floor:Rat)<=x/\x<(x.floor:Rat)+1:=by
 have h1:=Rat.floor_le x;have h2:=Rat.lt_floor_add_one x;rw [Rat.intCast_add] at h2
 exact⟨h1,h2⟩
theorem ceil_le_iff(x:Rat)(n:Int):x.ceil<=n↔x<=(n:Rat):=by
 rw [Rat.ceil_eq_neg_floor_neg];have h:-n<=(-x).floor↔((-n:Int):Rat)<=-x:=Rat.le_floor_iff;rw [Rat.intCast_neg] at h
 constructor
 ·intro k;have:=h.1 (by omega);grind
 ·intro k;have:=h.2 (by grind);omega
theorem lt_ceil_iff(x:Rat)(n:Int):n<x.ceil↔(n:Rat)<x:=by
 rw [<- Int.not_le,ceil_le_iff];grind
theorem near_iff(x:Rat)(A:Int)(p:Prop)[Decidable p](q:Prop)(h:x=(A:Rat) - 1/2->(p↔q)):
  A<=x.floor+(if (1/2:Rat)<x - x.floor\/x - x.floor=1/2/\p then 1 else 0)↔((A:Rat) - 1/2<x\/x=(A:Rat) - 1/2/\q):=by
 obtain⟨h1,h2⟩:=floor_two x;generalize x.floor=n at *
 rcases Int.lt_trichotomy A (n+1) with c | c | c
 ·have e:(A:Rat)<=n:=Rat.intCast_le_intCast.2 (by omega);refine⟨fun _=>.inl (by grind),fun _=>?_⟩
  split<;>omega
 ·have e:(A:Rat)=(n:Rat)+1:=by rw [c,Rat.intCast_add];rfl
  constructor
  ·intro k
   split at k
   ·rename_i k'
    rcases k' with k' | ⟨k',hp⟩
    ·exact .inl (by grind)
    ·have hx:x=(A:Rat) - 1/2:=by grind
     exact .inr ⟨hx,(h hx).1 hp⟩
   ·omega
  ·rintro (k | ⟨k,hq⟩)
   ·rw [if_pos (.inl (by grind))];omega
   ·rw [if_pos (.inr ⟨by grind,(h k).2 hq⟩)];omega
 ·have e:(n:Rat)+2<=A:=by
   have:=Rat.intCast_le_intCast.2 (show n+2<=A by omega);rw [Rat.intCast_add] at this;exact this
  constructor
  ·intro k
   split at k<;>omega
  ·rintro (k | ⟨k,-⟩)
   ·exfalso;grind
   ·exfalso;grind
theorem le_rK{w:Nat}(hw:1<=w)(A:Int)(x:Rat):A<=rK w x↔(bL w A<x\/x=bL w A/\oL w A=false):=by
 have hf:A<=x.floor↔(A:Rat)<=x:=Rat.le_floor_iff
 have hc:A<=x.ceil↔(A:Rat) - 1<x:=by
  have:=lt_ceil_iff x (A - 1);rw [Rat.intCast_sub] at this
  constructor
  ·intro k;exact this.1 (by omega)
  ·intro k;have:=this.2 k;omega
 match w,hw with
 | 1,_=>
  show A<=x.floor↔((A:Rat)<x\/x=A/\false=false)
  rw [hf];grind
 | 2,_=>
  show A<=x.ceil↔((A:Rat) - 1<x\/x=A - 1/\true=false)
  rw [hc];grind
 | 3,_=>
  show A<=(if x<0 then x.ceil else x.floor)↔((if 0<A then (A:Rat) else A - 1)<x\/x=(if 0<A then (A:Rat) else A - 1)/\(!decide (0<A))=false)
  by_cases h:0<A
  ·have e:(1:Rat)<=A:=Rat.intCast_le_intCast.2 (show (1:Int)<=A by omega);rw [if_pos h,decide_eq_true h]
   by_cases hx:x<0
   ·rw [if_pos hx,hc];grind
   ·rw [if_neg hx,hf];grind
  ·have e:(A:Rat)<=0:=Rat.intCast_le_intCast.2 (show A<=(0:Int) by omega);rw [if_neg h,decide_eq_false h]
   by_cases hx:x<0
   ·rw [if_pos hx,hc];grind
   ·rw [if_neg hx,hf];grind
 | 4,_=>
  show A<=x.floor+(if (1/2:Rat)<x - x.floor\/x - x.floor=1/2/\x.floor % 2=1 then 1 else 0)↔((A:Rat) - 1/2<x\/x=(A:Rat) - 1/2/\decide (A % 2=1)=false)
  refine near_iff x A _ _ fun hx=>?_;obtain⟨h1,h2⟩:=floor_two x
  have e:x.floor=A - 1:=by
   have a1:((x.floor:Int):Rat)<((A:Int):Rat):=by grind
   have a2:((A - 2:Int):Rat)<((x.floor:Int):Rat):=by rw [Rat.intCast_sub];grind
   rw [Rat.intCast_lt_intCast] at a1 a2
   omega
  rw [e,decide_eq_false_iff_not]
  omega
 | w+5,_=>
  show A<=x.floor+(if (1/2:Rat)<x - x.floor\/x - x.floor=1/2/\0<=x then 1 else 0)↔((A:Rat) - 1/2<x\/x=(A:Rat) - 1/2/\decide (A<=0)=false)
  refine near_iff x A _ _ fun hx=>?_;rw [decide_eq_false_iff_not,hx]
  constructor
  ·intro k h;have e:(A:Rat)<=0:=Rat.intCast_le_intCast.2 (show A<=(0:Int) by omega)
   grind
  ·intro h;have e:(1:Rat)<=A:=Rat.intCast_le_intCast.2 (show (1:Int)<=A by omega)
   grind
theorem rK_le{w:Nat}(hw:1<=w)(B:Int)(x:Rat):rK w x<=B↔(x<bU w B\/x=bU w B/\oU w B=false):=by
 have h:=le_rK hw (B+1) x;rw [(bL_succ hw B).1,(bL_succ hw B).2] at h
 have e:rK w x<=B↔¬ (B+1<=rK w x):=by omega
 rw [e,h]
 cases oU w B
 ·constructor
  ·intro k;by_cases c:x<bU w B
   ·exact .inl c
   ·exact .inr ⟨by grind,rfl⟩
  ·rintro (k | ⟨k,-⟩) (k' | ⟨k',e'⟩)
   ·grind
   ·cases e'
   ·grind
   ·cases e'
 ·constructor
  ·intro k;by_cases c:x<bU w B
   ·exact .inl c
   ·exfalso;apply k
    by_cases c':x=bU w B
    ·exact .inr ⟨c',rfl⟩
    ·exact .inl (by grind)
  ·rintro (k | ⟨k,e'⟩) (k' | ⟨k',-⟩)
   ·grind
   ·grind
   ·cases e'
   ·cases e'
def wh(w:Nat)(i:Int):Int:=if -(M:Int)<i/\i<M then rndI 1 (rK w (fl i)) else i
theorem wh_fin{w:Nat}(hw:1<=w){i:Int}(h0:-(M:Int)<i)(h1:i<M):fl (wh w i)=(rK w (fl i):Rat)/\-(M:Int)<wh w i/\wh w i<M:=by
 obtain⟨j,hj,a,b⟩:=whole_fl hw h0 h1;unfold wh;rw [if_pos ⟨h0,h1⟩,<- hj,rndI_fl (.inr rfl) a b]
 exact⟨rfl,a,b⟩
theorem wh_max(w:Nat):wh w M=M:=by unfold wh;rw [if_neg (by omega)]
theorem wh_min(w:Nat):wh w (-(M:Int))=-(M:Int):=by unfold wh;rw [if_neg (by omega)]
theorem wh_rng{w:Nat}(hw:1<=w){i:Int}(h:-(M:Int)<=i/\i<=M):-(M:Int)<=wh w i/\wh w i<=M/\(wh w i=M↔i=M)/\(wh w i=-(M:Int)↔i=-(M:Int)):=by
 have hM:=M_val
 by_cases h0:i=M
 ·rw [h0,wh_max];omega
 ·by_cases h1:i=-(M:Int)
  ·rw [h1,wh_min];omega
  ·have:=wh_fin hw (i:=i) (by omega) (by omega)
   omega
def stp(V F T:Int->Int)(c x:Int × Int):Int × Int:=
 if c.2<c.1\/x.2<x.1 then ((M:Int),-(M:Int))
 else if wh 1 c.2<wh 2 c.1\/wh 1 c.2<V x.1\/V x.2<wh 2 c.1 then ((M:Int),-(M:Int))
 else (max x.1 (F (wh 2 c.1)),min x.2 (T (wh 1 c.2)))
def FL(w:Nat)(i:Int):Int:=dn (es i) (bL w (ex i).floor)
def TU(w:Nat)(i:Int):Int:=up (es i) (bU w (ex i).floor)
def stq(w:Nat)(c x:Int × Int):Int × Int:=stp (wh w) (FL w) (TU w) c x
theorem FLc(w:Nat){i:Int}(h0:-(M:Int)<=i)(h1:i<M):(wh 2 i=-(M:Int)/\FL w (wh 2 i)=-(M:Int))\/(fl (wh 2 i)=((fl i).ceil:Rat)/\-(M:Int)<wh 2 i/\wh 2 i<M/\FL w (wh 2 i)=rndI (-1) (bL w (fl i).ceil)):=by
 have hM:=M_val
 by_cases h:i=-(M:Int)
 ·subst h
  left
  rw [wh_min];refine⟨rfl,?_⟩;unfold FL dn;rw [es_min,if_neg (by omega)];omega
 ·right
  obtain⟨b1,b2,b3⟩:=wh_fin (w:=2) (by omega) (i:=i) (by omega) h1;refine⟨b1,b2,b3,?_⟩;unfold FL;rw [es_mid b2 b3,ex_mid b2 b3,b1,Rat.floor_intCast];rfl
theorem TUc(w:Nat){i:Int}(h0:-(M:Int)<i)(h1:i<=M):(wh 1 i=M/\TU w (wh 1 i)=M)\/(fl (wh 1 i)=((fl i).floor:Rat)/\-(M:Int)<wh 1 i/\wh 1 i<M/\TU w (wh 1 i)=rndI 1 (bU w (fl i).floor)):=by
 have hM:=M_val
 by_cases h:i=M
 ·subst h
  left
  rw [wh_max];refine⟨rfl,?_⟩;unfold TU up;rw [es_max,if_neg (by omega)];omega
 ·right
  obtain⟨b1,b2,b3⟩:=wh_fin (w:=1) (by omega) (i:=i) h0 (by omega);refine⟨b1,b2,b3,?_⟩;unfold TU;rw [es_mid b2 b3,ex_mid b2 b3,b1,Rat.floor_intCast];rfl
theorem FL_rng(w:Nat){i:Int}(h0:-(M:Int)<=i)(h1:i<M):-(M:Int)<=FL w (wh 2 i)/\FL w (wh 2 i)<=M:=by
 have hM:=M_val
 rcases FLc w h0 h1 with ⟨-,h⟩ | ⟨-,-,-,h⟩
 ·omega
 ·have:=rndI_down (bL w (fl i).ceil);omega
theorem TU_rng(w:Nat){i:Int}(h0:-(M:Int)<i)(h1:i<=M):-(M:Int)<=TU w (wh 1 i)/\TU w (wh 1 i)<=M:=by
 have hM:=M_val
 rcases TUc w h0 h1 with ⟨-,h⟩ | ⟨-,-,-,h⟩
 ·omega
 ·have:=rndI_up (bU w (fl i).floor);omega
theorem step_up{w:Nat}(hw:1<=w){cj i s2:Int}{x2:Rat}{o2:Bool}(hc:-(M:Int)<cj/\cj<=M)(hi:-(M:Int)<=i/\i<M)
  (h2:s2=1/\cj=M\/s2=0/\cj<M/\x2=bU w (fl cj).floor/\o2=oU w (fl cj).floor):
  (0<ec (es i) (ex i) s2 x2\/(ec (es i) (ex i) s2 x2=0/\o2=true))↔wh 1 cj<wh w i:=by
 have hM:=M_val
 rcases h2 with ⟨rfl,rfl⟩ | ⟨rfl,h2,rfl,rfl⟩
 ·have h1:es i<1:=by unfold es;split<;>(try split)<;>omega
  rw [ec_lt _ _ h1,wh_max];have:=wh_rng hw (i:=i) (by omega)
  omega
 ·obtain⟨b1,b2,b3⟩:=wh_fin (w:=1) (Nat.le_refl _) hc.1 h2
  by_cases h0:i=-(M:Int)
  ·subst h0;rw [es_min,ec_lt _ _ (by omega),wh_min]
   omega
  ·rw [es_mid (by omega) hi.2,ec_zero,ex_mid (by omega) hi.2,rc_pos_iff,rc_zero_iff,<- Int.not_le];have k:=rK_le hw (fl cj).floor (fl i)
   have e:wh w i<=wh 1 cj↔rK w (fl i)<=(fl cj).floor:=by
    rw [<- fl_le_iff,b1,(wh_fin hw (i:=i) (by omega) hi.2).1,Rat.intCast_le_intCast]
    exact Iff.rfl
   rw [e,k]
   cases oU w (fl cj).floor
   ·constructor
    ·rintro (h | ⟨-,h⟩) (h' | ⟨h',-⟩)
     ·grind
     ·grind
     ·cases h
     ·cases h
    ·intro h
     by_cases c:bU w (fl cj).floor<fl i
     ·exact .inl c
     ·exfalso;apply h
      by_cases c':fl i=bU w (fl cj).floor
      ·exact .inr ⟨c',rfl⟩
      ·exact .inl (by grind)
   ·constructor
    ·rintro (h | ⟨h,-⟩) (h' | ⟨-,h'⟩)
     ·grind
     ·cases h'
     ·grind
     ·cases h'
    ·intro h
     by_cases c:bU w (fl cj).floor<fl i
     ·exact .inl c
     ·by_cases c':fl i=bU w (fl cj).floor
      ·exact .inr ⟨c',rfl⟩
      ·exact absurd (.inl (by grind)) h
theorem step_lo{w:Nat}(hw:1<=w){ci j s1:Int}{x1:Rat}{o1:Bool}(hc:-(M:Int)<=ci/\ci<M)(hj:-(M:Int)<j/\j<=M)
  (h1:s1=-1/\ci=-(M:Int)\/s1=0/\-(M:Int)<ci/\x1=bL w (fl ci).ceil/\o1=oL w (fl ci).ceil):
  (ec (es j) (ex j) s1 x1<0\/(ec (es j) (ex j) s1 x1=0/\o1=true))↔wh w j<wh 2 ci:=by
 have hM:=M_val
 rcases h1 with ⟨rfl,rfl⟩ | ⟨rfl,h1,rfl,rfl⟩
 ·have h1:-1<es j:=by unfold es;split<;>(try split)<;>omega
  rw [ec_gt _ _ h1,wh_min];have:=wh_rng hw (i:=j) (by omega)
  omega
 ·obtain⟨b1,b2,b3⟩:=wh_fin (w:=2) (by omega) h1 hc.2
  by_cases h0:j=(M:Int)
  ·subst h0;rw [es_max,ec_gt _ _ (by omega),wh_max]
   omega
  ·rw [es_mid (by omega) (by omega),ec_zero,ex_mid (by omega) (by omega),rc_neg_iff,rc_zero_iff,<- Int.not_le];have k:=le_rK hw (fl ci).ceil (fl j)
   have e:wh 2 ci<=wh w j↔(fl ci).ceil<=rK w (fl j):=by
    rw [<- fl_le_iff,b1,(wh_fin hw (i:=j) (by omega) (by omega)).1,Rat.intCast_le_intCast]
    exact Iff.rfl
   rw [e,k]
   cases oL w (fl ci).ceil
   ·constructor
    ·rintro (h | ⟨-,h⟩) (h' | ⟨h',-⟩)
     ·grind
     ·grind
     ·cases h
     ·cases h
    ·intro h
     by_cases c:fl j<bL w (fl ci).ceil
     ·exact .inl c
     ·exfalso;apply h
      by_cases c':fl j=bL w (fl ci).ceil
      ·exact .inr ⟨c',rfl⟩
      ·exact .inl (by grind)
   ·constructor
    ·rintro (h | ⟨h,-⟩) (h' | ⟨-,h'⟩)
     ·grind
     ·cases h'
     ·grind
     ·cases h'
    ·intro h
     by_cases c:fl j<bL w (fl ci).ceil
     ·exact .inl c
     ·by_cases c':fl j=bL w (fl ci).ceil
      ·exact .inr ⟨c',rfl⟩
      ·exact absurd (.inl (by grind)) h
theorem stp_pf{w:Nat}(hw:1<=w){ci cj i j s1 s2:Int}{x1 x2:Rat}{o1 o2:Bool}
  (hc:-(M:Int)<=ci/\ci<=cj/\cj<=M/\ci<M/\-(M:Int)<cj)(hx:-(M:Int)<=i/\i<=j/\j<=M/\i<M/\-(M:Int)<j)
  (h1:s1=-1/\ci=-(M:Int)\/s1=0/\-(M:Int)<ci/\x1=bL w (fl ci).ceil/\o1=oL w (fl ci).ceil)
  (h2:s2=1/\cj=M\/s2=0/\cj<M/\x2=bU w (fl cj).floor/\o2=oU w (fl cj).floor)
  (hne:¬ wh 1 cj<wh 2 ci):stp (wh w) (FL w) (TU w) (ci,cj) (i,j)=pf s1 x1 o1 s2 x2 o2 i j:=by
 have hM:=M_val
 have hs1:s1=0\/s1=-1:=by rcases h1 with h | h<;>omega
 have hs2:s2=0\/s2=1:=by rcases h2 with h | h<;>omega
 have ku:=step_up hw (i:=i) ⟨hc.2.2.2.2,hc.2.2.1⟩ ⟨hx.1,hx.2.2.2.1⟩ h2;have kl:=step_lo hw (j:=j) ⟨hc.1,hc.2.2.2.1⟩ ⟨hx.2.2.2.2,hx.2.2.1⟩ h1
 have eF:FL w (wh 2 ci)=dn s1 x1:=by
  unfold FL
  rcases h1 with ⟨rfl,rfl⟩ | ⟨rfl,h1,rfl,-⟩
  ·rw [wh_min,es_min];unfold dn;rw [if_neg (by omega),if_neg (by omega)]
  ·obtain⟨b1,b2,b3⟩:=wh_fin (w:=2) (by omega) h1 hc.2.2.2.1;rw [es_mid b2 b3,ex_mid b2 b3,b1,Rat.floor_intCast];rfl
 have eT:TU w (wh 1 cj)=up s2 x2:=by
  unfold TU
  rcases h2 with ⟨rfl,rfl⟩ | ⟨rfl,h2,rfl,-⟩
  ·rw [wh_max,es_max];unfold up;rw [if_neg (by omega),if_neg (by omega)]
  ·obtain⟨b1,b2,b3⟩:=wh_fin (w:=1) (by omega) hc.2.2.2.2 h2;rw [es_mid b2 b3,ex_mid b2 b3,b1,Rat.floor_intCast];rfl
 unfold stp pf wg
 dsimp only
 rw [if_neg (show ¬ j<i by omega),if_neg (show ¬ (cj<ci\/j<i) by omega),ec_lo_at (by omega) hs1,ec_hi_at (by omega) hs2,eF,eT]
 by_cases h:wh 1 cj<wh w i\/wh w j<wh 2 ci
 ·rw [if_pos (.inr h),if_pos]
  rcases h with h | h
  ·rcases ku.2 h with h | h
   ·exact .inl h
   ·exact .inr (.inl h)
  ·rcases kl.2 h with h | h
   ·exact .inr (.inr (.inl h))
   ·exact .inr (.inr (.inr h))
 ·rw [if_neg (fun k=>k.elim hne h),if_neg];rintro (k | k | k | k)
  ·exact h (.inl (ku.1 (.inl k)))
  ·exact h (.inl (ku.1 (.inr k)))
  ·exact h (.inr (kl.1 (.inl k)))
  ·exact h (.inr (kl.1 (.inr k)))
section
open Go.RowKit
attribute [local go_sem] run_store_float run_negf
theorem itself_any(b:Nat)(w:World):Rt 126 #[.float .f64 b] (.float .f64 b) w:=by
 go_enter Tryz.func126,Tryz.ntmps126
 go_wp2
 go_ret
 exact⟨rfl,Below.refl _ _⟩
theorem ahead_any(b:Nat)(w:World):Calls Tryz.prog 129 #[.float .f64 b] w fun e w'=>e=.returned (.func (.func 197) #[] #[.pointer (some ⟨w.heap.size,0,none⟩)])/\w'=w.alloc (.cells #[.float .f64 b] 26):=by
 have hmf:∀ (fn:Fn) (first cap:Array Value) (w:World),(Instr.makeFunc fn first cap).run Tryz.prog w=.ok (.func fn first cap) w:=fun _ _ _ _=>rfl
 go_enter Tryz.func129,Tryz.ntmps129
 go_wp2
 go_ret
 exact⟨rfl,rfl⟩
theorem behind_any(b:Nat)(w:World):Calls Tryz.prog 127 #[.float .f64 b] w fun e w'=>e=.returned (.func (.func 194) #[] #[.pointer (some ⟨w.heap.size,0,none⟩)])/\w'=w.alloc (.cells #[.float .f64 b] 26):=by
 have hmf:∀ (fn:Fn) (first cap:Array Value) (w:World),(Instr.makeFunc fn first cap).run Tryz.prog w=.ok (.func fn first cap) w:=fun _ _ _ _=>rfl
 go_enter Tryz.func127,Tryz.ntmps127
 go_wp2
 go_ret
 exact⟨rfl,rfl⟩
theorem side_any(b:Nat)(w:World):Calls Tryz.prog 122 #[.float .f64 b] w fun e w'=>e=.returned (.func (.func 123) #[] #[.pointer (some ⟨w.heap.size,0,none⟩)])/\w'=w.alloc (.cells #[.float .f64 b] 26):=by
 have hmf:∀ (fn:Fn) (first cap:Array Value) (w:World),(Instr.makeFunc fn first cap).run Tryz.prog w=.ok (.func fn first cap) w:=fun _ _ _ _=>rfl
 go_enter Tryz.func122,Tryz.ntmps122
 go_wp2
 go_ret
 exact⟨rfl,rfl⟩
theorem ahead1(k by_ r B:Nat)(w:World)(hB:w.cell? ⟨B,0,none⟩=some (.float .f64 by_))(hs:∀ W,Rt 84 #[.int .i64 (-1),.float .f64 k,.float .f64 by_] (.float .f64 r) W):
  Rt 197 #[.float .f64 k,.pointer (some ⟨B,0,none⟩)] (.float .f64 r) w:=by
 have HS:=Hd hs;clear hs
 go_enter Tryz.func197,Tryz.ntmps197
 go_wp2_with fail;refine cx (HS.out _) fun wk hb=>?_;have HB:=Hd hb;clear hb hB;go_wp2
 go_ret
 exact⟨rfl,HB.out⟩
theorem behind1(k by_ r B:Nat)(w:World)(hB:w.cell? ⟨B,0,none⟩=some (.float .f64 by_))(hs:∀ W,Rt 139 #[.int .i64 1,.float .f64 k,.float .f64 by_] (.float .f64 r) W):
  Rt 194 #[.float .f64 k,.pointer (some ⟨B,0,none⟩)] (.float .f64 r) w:=by
 have HS:=Hd hs;clear hs
 go_enter Tryz.func194,Tryz.ntmps194
 go_wp2_with fail;refine cx (HS.out _) fun wk hb=>?_;have HB:=Hd hb;clear hb hB;go_wp2
 go_ret
 exact⟨rfl,HB.out⟩
theorem truncfrom_pos(k:Nat)(w:World)(ho:FloatKind.f64.format.order k 0=some .gt):Rt 130 #[.float .f64 k] (.float .f64 k) w:=by
 go_enter Tryz.func130,Tryz.ntmps130
 go_wp2
 go_ret
 exact⟨rfl,Below.refl _ _⟩
theorem truncto_neg(k:Nat)(w:World)(ho:FloatKind.f64.format.order k 0=some .lt):Rt 131 #[.float .f64 k] (.float .f64 k) w:=by
 go_enter Tryz.func131,Tryz.ntmps131
 go_wp2
 go_ret
 exact⟨rfl,Below.refl _ _⟩
theorem truncfrom_neg(k r:Nat)(o:Ordering)(w:World)(ho:FloatKind.f64.format.order k 0=some o)(hoo:o=.lt\/o=.eq)(hs:∀ W,Rt 84 #[.int .i64 (-1),.float .f64 k,.float .f64 4607182418800017408] (.float .f64 r) W):
  Rt 130 #[.float .f64 k] (.float .f64 r) w:=by
 have HA:=Hd (ahead_any 4607182418800017408 w);have HB:=Hd (below_alloc w (.cells #[.float .f64 4607182418800017408] 26));have HC:=Hd fun B W (hB:W.cell? ⟨B,0,none⟩=some (.float .f64 4607182418800017408))=>ahead1 k 4607182418800017408 r B W hB hs;clear hs
 rcases hoo with rfl | rfl
 all_goals
  go_enter Tryz.func130,Tryz.ntmps130
  go_wp2_with fail;refine HA.out.mono ?_;rintro e wk ⟨rfl,rfl⟩;go_wp2_with fail;refine cx (HC.out _ _ (by simp [World.cell?_alloc_new])) fun wk hb=>?_;have HK:=stB HB hb HB.out.size;clear hb ho;go_wp2
  go_ret
  exact⟨rfl,HK.out⟩
theorem truncto_pos(k r:Nat)(o:Ordering)(w:World)(ho:FloatKind.f64.format.order k 0=some o)(hoo:o=.gt\/o=.eq)(hs:∀ W,Rt 139 #[.int .i64 1,.float .f64 k,.float .f64 4607182418800017408] (.float .f64 r) W):
  Rt 131 #[.float .f64 k] (.float .f64 r) w:=by
 have HA:=Hd (behind_any 4607182418800017408 w);have HB:=Hd (below_alloc w (.cells #[.float .f64 4607182418800017408] 26));have HC:=Hd fun B W (hB:W.cell? ⟨B,0,none⟩=some (.float .f64 4607182418800017408))=>behind1 k 4607182418800017408 r B W hB hs;clear hs
 rcases hoo with rfl | rfl
 all_goals
  go_enter Tryz.func131,Tryz.ntmps131
  go_wp2_with fail;refine HA.out.mono ?_;rintro e wk ⟨rfl,rfl⟩;go_wp2_with fail;refine cx (HC.out _ _ (by simp [World.cell?_alloc_new])) fun wk hb=>?_;have HK:=stB HB hb HB.out.size;clear hb ho;go_wp2
  go_ret
  exact⟨rfl,HK.out⟩
theorem sign1(k:Nat)(o:Ordering)(w:World)(ho:FloatKind.f64.format.order k 0=some o):Rt 121 #[.float .f64 k] (.float .f64 (match o with | .gt=>4607182418800017408 | .lt=>13830554455654793216 | .eq=>0)) w:=by
 cases o
 all_goals
  go_enter Tryz.func121,Tryz.ntmps121
  go_wp2
  go_ret
  exact⟨rfl,Below.refl _ _⟩
theorem side1_no(k far B:Nat)(w:World)(hB:w.cell? ⟨B,0,none⟩=some (.float .f64 far))(ho:(FloatKind.f64.format.order k far == some Ordering.eq)=false):
  Rt 123 #[.float .f64 k,.pointer (some ⟨B,0,none⟩)] (.float .f64 0) w:=by
 go_enter Tryz.func123,Tryz.ntmps123
 go_wp2
 go_ret
 exact⟨rfl,Below.refl _ _⟩
theorem conv_one(w:World):(convert 26 3 (.float .f64 4607182418800017408)).run Tryz.prog w=.ok (.int .i64 1) w:=by kernel_rfl
theorem conv_neg(w:World):(convert 26 3 (.float .f64 13830554455654793216)).run Tryz.prog w=.ok (.int .i64 (-1)) w:=by kernel_rfl
theorem side1_up(B:Nat)(w:World)(hB:w.cell? ⟨B,0,none⟩=some (.float .f64 4607182418800017408)):
  Rt 123 #[.float .f64 4607182418800017408,.pointer (some ⟨B,0,none⟩)] (.float .f64 9218868437227405312) w:=by
 have ho:(FloatKind.f64.format.order 4607182418800017408 4607182418800017408 == some Ordering.eq)=true:=by kernel_rfl
 have hc:=conv_one;have HI:=Hd inf_pos
 go_enter Tryz.func123,Tryz.ntmps123
 go_wp2_with fail;refine (HI.out _).mono ?_;rintro e wk ⟨rfl,rfl⟩;clear hB;go_wp2
 go_ret
 exact⟨rfl,Below.refl _ _⟩
theorem side1_down(B:Nat)(w:World)(hB:w.cell? ⟨B,0,none⟩=some (.float .f64 13830554455654793216)):
  Rt 123 #[.float .f64 13830554455654793216,.pointer (some ⟨B,0,none⟩)] (.float .f64 18442240474082181120) w:=by
 have ho:(FloatKind.f64.format.order 13830554455654793216 13830554455654793216 == some Ordering.eq)=true:=by kernel_rfl
 have hc:=conv_neg;have HI:=Hd inf_neg
 go_enter Tryz.func123,Tryz.ntmps123
 go_wp2_with fail;refine (HI.out _).mono ?_;rintro e wk ⟨rfl,rfl⟩;clear hB;go_wp2
 go_ret
 exact⟨rfl,Below.refl _ _⟩
end
section
open Go.RowKit
attribute [local go_sem] run_store_float run_negf
def Cap(w:World)(B b:Nat):Prop:=w.cell? ⟨B,0,none⟩=some (.float .f64 b)/\B<w.heap.size
theorem Cap.below{w w':World}{B b:Nat}(h:Cap w B b)(hb:Below w.heap.size w w'):Cap w' B b:=⟨(hb.cell (p:=⟨B,0,none⟩) h.2).trans h.1,Nat.lt_of_lt_of_le h.2 hb.size⟩
theorem Cap.new(w:World)(b:Nat):Cap (w.alloc (.cells #[.float .f64 b] 26)) w.heap.size b:=⟨by simp [World.cell?_alloc_new],by simp⟩
theorem ahead_cap(b:Nat)(w:World):Calls Tryz.prog 129 #[.float .f64 b] w fun e w'=>∃ B,e=.returned (.func (.func 197) #[] #[.pointer (some ⟨B,0,none⟩)])/\Cap w' B b/\Below w.heap.size w w':=
 (ahead_any b w).mono fun _ _ ⟨h,hw⟩=>⟨_,h,hw ▸ Cap.new w b,hw ▸ below_alloc w _⟩
theorem behind_cap(b:Nat)(w:World):Calls Tryz.prog 127 #[.float .f64 b] w fun e w'=>∃ B,e=.returned (.func (.func 194) #[] #[.pointer (some ⟨B,0,none⟩)])/\Cap w' B b/\Below w.heap.size w w':=
 (behind_any b w).mono fun _ _ ⟨h,hw⟩=>⟨_,h,hw ▸ Cap.new w b,hw ▸ below_alloc w _⟩
theorem side_cap(b:Nat)(w:World):Calls Tryz.prog 122 #[.float .f64 b] w fun e w'=>∃ B,e=.returned (.func (.func 123) #[] #[.pointer (some ⟨B,0,none⟩)])/\Cap w' B b/\Below w.heap.size w w':=
 (side_any b w).mono fun _ _ ⟨h,hw⟩=>⟨_,h,hw ▸ Cap.new w b,hw ▸ below_alloc w _⟩
set_option maxRecDepth 8000 in
theorem floor_walk(b1 b2 c1 c2 r1 r2:Nat)(w:World)(hst:∀ W B0,Cap W B0 4607182418800017408->Rt 124 #[Zf b1 b2,Zf c1 c2,.func (.func 125) #[] #[],.func (.func 126) #[] #[],.func (.func 194) #[] #[.pointer (some ⟨B0,0,none⟩)]] (Zf r1 r2) W):
  Rt 55 #[Zf b1 b2,Zf c1 c2] (Zf r1 r2) w:=by
 have HST:=Hd hst;clear hst;have LL:=li3 w (Zv b1 b2) 28 (Zv c1 c2) 28 (Zv 0 0) 28;have HC0:=Hd (behind_cap 4607182418800017408)
 go_enter Tryz.func55,Tryz.ntmps55
 go_upto_region 1 with fail
 replace LL:=Hd (LL.out.loose2 rfl);refine regL LL (fun hHeld=>?_);clear LL;generalize World.drew _=wk at hHeld  ⊢;refine tkb 0 (fun _ h=>(h.blk 0 rfl).c2) ?_;refine tkb 1 (fun _ h=>(h.blk 1 rfl).c2) ?_;refine rdy 2 fun KK hKK=>?_;go_simp;refine (HC0.out _).mono ?_;rintro e wk ⟨B0,rfl,hq0,hb0⟩;go_wp2_with fail;refine hKK.out _ _ (hHeld.keep hb0) (fun _=>?_);clear hKK KK hHeld;rename_i hHeld;(try simp only [Act.put,lay]);have HQ0:=Hd hq0;clear hq0;clear hb0;refine rdy 3 fun KK hKK=>?_;go_simp;refine cs (HST.out _ _ HQ0.out) ?_;clear hKK KK hHeld;intro wk hb9 hHeld;(try replace HQ0:=Hd (HQ0.out.below hb9));clear hb9;refine rdy 4 fun KK hKK=>?_;obtain⟨ha0,hf0,ha1,hf1⟩:=(hHeld.has 0 rfl).sf2;obtain⟨csx,hbx,-,hcx⟩:=hHeld.has 0 rfl;(try clear HQ0);clear hbx hcx;go_simp;have HS_0:=(hHeld.has 0 rfl).laid [.float .f64 r1,.float .f64 r2] rfl;refine hKK.out _ _ (hHeld.over 0 rfl [.float .f64 r1,.float .f64 r2] rfl rfl (by first | omega | exact hHeld.le_of 0 rfl) (by simp<;>omega) (by simp<;>omega)) (fun _=>?_);clear hKK KK hHeld;rename_i hHeld;(try simp only [Act.put,lay]);refine wpAnyH_done (by kernel_rfl) ?_ _;have LB:=Hd hHeld.b;clear hHeld;obtain⟨hk4_0,hk4_1⟩:=HS_0.c2;clear HS_0
 simp [sets] at hk4_0 hk4_1
 go_wp2;refine bodyPost_ret (v:=Zf r1 r2) (by simp [results,Tryz.results55,go_sem,hk4_0,hk4_1]) rfl ?_
 exact⟨rfl,LB.out⟩
set_option maxRecDepth 8000 in
theorem ceil_walk(b1 b2 c1 c2 r1 r2:Nat)(w:World)(hst:∀ W B0,Cap W B0 4607182418800017408->Rt 124 #[Zf b1 b2,Zf c1 c2,.func (.func 128) #[] #[],.func (.func 197) #[] #[.pointer (some ⟨B0,0,none⟩)],.func (.func 126) #[] #[]] (Zf r1 r2) W):
  Rt 56 #[Zf b1 b2,Zf c1 c2] (Zf r1 r2) w:=by
 have HST:=Hd hst;clear hst;have LL:=li3 w (Zv b1 b2) 28 (Zv c1 c2) 28 (Zv 0 0) 28;have HC0:=Hd (ahead_cap 4607182418800017408)
 go_enter Tryz.func56,Tryz.ntmps56
 go_upto_region 1 with fail
 replace LL:=Hd (LL.out.loose2 rfl);refine regL LL (fun hHeld=>?_);clear LL;generalize World.drew _=wk at hHeld  ⊢;refine tkb 0 (fun _ h=>(h.blk 0 rfl).c2) ?_;refine tkb 1 (fun _ h=>(h.blk 1 rfl).c2) ?_;refine rdy 2 fun KK hKK=>?_;go_simp;refine (HC0.out _).mono ?_;rintro e wk ⟨B0,rfl,hq0,hb0⟩;go_wp2_with fail;refine hKK.out _ _ (hHeld.keep hb0) (fun _=>?_);clear hKK KK hHeld;rename_i hHeld;(try simp only [Act.put,lay]);have HQ0:=Hd hq0;clear hq0;clear hb0;refine rdy 3 fun KK hKK=>?_;go_simp;refine cs (HST.out _ _ HQ0.out) ?_;clear hKK KK hHeld;intro wk hb9 hHeld;(try replace HQ0:=Hd (HQ0.out.below hb9));clear hb9;refine rdy 4 fun KK hKK=>?_;obtain⟨ha0,hf0,ha1,hf1⟩:=(hHeld.has 0 rfl).sf2;obtain⟨csx,hbx,-,hcx⟩:=hHeld.has 0 rfl;(try clear HQ0);clear hbx hcx;go_simp;have HS_0:=(hHeld.has 0 rfl).laid [.float .f64 r1,.float .f64 r2] rfl;refine hKK.out _ _ (hHeld.over 0 rfl [.float .f64 r1,.float .f64 r2] rfl rfl (by first | omega | exact hHeld.le_of 0 rfl) (by simp<;>omega) (by simp<;>omega)) (fun _=>?_);clear hKK KK hHeld;rename_i hHeld;(try simp only [Act.put,lay]);refine wpAnyH_done (by kernel_rfl) ?_ _;have LB:=Hd hHeld.b;clear hHeld;obtain⟨hk4_0,hk4_1⟩:=HS_0.c2;clear HS_0
 simp [sets] at hk4_0 hk4_1
 go_wp2;refine bodyPost_ret (v:=Zf r1 r2) (by simp [results,Tryz.results56,go_sem,hk4_0,hk4_1]) rfl ?_
 exact⟨rfl,LB.out⟩
set_option maxRecDepth 8000 in
theorem trunc_walk(b1 b2 c1 c2 r1 r2:Nat)(w:World)(hst:∀ W,Rt 124 #[Zf b1 b2,Zf c1 c2,.func (.func 132) #[] #[],.func (.func 130) #[] #[],.func (.func 131) #[] #[]] (Zf r1 r2) W):
  Rt 57 #[Zf b1 b2,Zf c1 c2] (Zf r1 r2) w:=by
 have HST:=Hd hst;clear hst;have LL:=li3 w (Zv b1 b2) 28 (Zv c1 c2) 28 (Zv 0 0) 28
 go_enter Tryz.func57,Tryz.ntmps57
 obtain⟨q1_0,q1_1⟩:=(LL.out.blk 0 rfl).c2;obtain⟨q2_0,q2_1⟩:=(LL.out.blk 1 rfl).c2;go_wp2_with fail;refine cx (HST.out _) fun wk hb=>?_;replace LL:=stL LL hb;clear hb q1_0 q1_1 q2_0 q2_1;replace LL:=Hd (LL.out.loose2 rfl);obtain⟨ha4_0,hf4_0,ha4_1,hf4_1⟩:=(LL.out.has 0 rfl).sf2;have LF:=Hd (LL.out.wr [.float .f64 r1,.float .f64 r2]);obtain⟨hk4_0,hk4_1⟩:=(LF.out.blk 2 rfl).c2
 simp [sets] at hk4_0 hk4_1
 clear LL;go_wp2;refine bodyPost_ret (v:=Zf r1 r2) (by simp [results,Tryz.results57,go_sem,hk4_0,hk4_1]) rfl ?_
 exact⟨rfl,LF.out.b⟩
set_option maxRecDepth 8000 in
theorem even_walk(b1 b2 c1 c2 r1 r2:Nat)(w:World)(hst:∀ W B0 B1,Cap W B0 4602678819172646912->Cap W B1 4602678819172646912->Rt 124 #[Zf b1 b2,Zf c1 c2,.func (.func 135) #[] #[],.func (.func 197) #[] #[.pointer (some ⟨B0,0,none⟩)],.func (.func 194) #[] #[.pointer (some ⟨B1,0,none⟩)]] (Zf r1 r2) W):
  Rt 59 #[Zf b1 b2,Zf c1 c2] (Zf r1 r2) w:=by
 have HST:=Hd hst;clear hst;have LL:=li3 w (Zv b1 b2) 28 (Zv c1 c2) 28 (Zv 0 0) 28;have HC0:=Hd (ahead_cap 4602678819172646912);have HC1:=Hd (behind_cap 4602678819172646912)
 go_enter Tryz.func59,Tryz.ntmps59
 go_upto_region 1 with fail
 replace LL:=Hd (LL.out.loose2 rfl);refine regL LL (fun hHeld=>?_);clear LL;generalize World.drew _=wk at hHeld  ⊢;refine tkb 0 (fun _ h=>(h.blk 0 rfl).c2) ?_;refine tkb 1 (fun _ h=>(h.blk 1 rfl).c2) ?_;refine rdy 2 fun KK hKK=>?_;go_simp;refine (HC0.out _).mono ?_;rintro e wk ⟨B0,rfl,hq0,hb0⟩;go_wp2_with fail;refine hKK.out _ _ (hHeld.keep hb0) (fun _=>?_);clear hKK KK hHeld;rename_i hHeld;(try simp only [Act.put,lay]);(try replace HQ1:=Hd (HQ1.out.below hb0));have HQ0:=Hd hq0;clear hq0;clear hb0;refine rdy 3 fun KK hKK=>?_;go_simp;refine (HC1.out _).mono ?_;rintro e wk ⟨B1,rfl,hq1,hb1⟩;go_wp2_with fail;refine hKK.out _ _ (hHeld.keep hb1) (fun _=>?_);clear hKK KK hHeld;rename_i hHeld;(try simp only [Act.put,lay]);(try replace HQ0:=Hd (HQ0.out.below hb1));have HQ1:=Hd hq1;clear hq1;clear hb1;refine rdy 4 fun KK hKK=>?_;go_simp;refine cs (HST.out _ _ _ HQ0.out HQ1.out) ?_;clear hKK KK hHeld;intro wk hb9 hHeld;(try replace HQ0:=Hd (HQ0.out.below hb9));(try replace HQ1:=Hd (HQ1.out.below hb9));clear hb9;refine rdy 5 fun KK hKK=>?_;obtain⟨ha0,hf0,ha1,hf1⟩:=(hHeld.has 0 rfl).sf2;obtain⟨csx,hbx,-,hcx⟩:=hHeld.has 0 rfl;(try clear HQ0);(try clear HQ1);clear hbx hcx;go_simp;have HS_0:=(hHeld.has 0 rfl).laid [.float .f64 r1,.float .f64 r2] rfl;refine hKK.out _ _ (hHeld.over 0 rfl [.float .f64 r1,.float .f64 r2] rfl rfl (by first | omega | exact hHeld.le_of 0 rfl) (by simp<;>omega) (by simp<;>omega)) (fun _=>?_);clear hKK KK hHeld;rename_i hHeld;(try simp only [Act.put,lay])
 refine wpAnyH_done (by kernel_rfl) ?_ _;have LB:=Hd hHeld.b;clear hHeld;obtain⟨hk4_0,hk4_1⟩:=HS_0.c2;clear HS_0
 simp [sets] at hk4_0 hk4_1
 go_wp2;refine bodyPost_ret (v:=Zf r1 r2) (by simp [results,Tryz.results59,go_sem,hk4_0,hk4_1]) rfl ?_
 exact⟨rfl,LB.out⟩
set_option maxRecDepth 8000 in
theorem away_walk(b1 b2 c1 c2 r1 r2:Nat)(w:World)(hst:∀ W B0 B1,Cap W B0 4602678819172646912->Cap W B1 4602678819172646912->Rt 124 #[Zf b1 b2,Zf c1 c2,.func (.func 136) #[] #[],.func (.func 197) #[] #[.pointer (some ⟨B0,0,none⟩)],.func (.func 194) #[] #[.pointer (some ⟨B1,0,none⟩)]] (Zf r1 r2) W):
  Rt 60 #[Zf b1 b2,Zf c1 c2] (Zf r1 r2) w:=by
 have HST:=Hd hst;clear hst;have LL:=li3 w (Zv b1 b2) 28 (Zv c1 c2) 28 (Zv 0 0) 28;have HC0:=Hd (ahead_cap 4602678819172646912);have HC1:=Hd (behind_cap 4602678819172646912)
 go_enter Tryz.func60,Tryz.ntmps60
 go_upto_region 1 with fail
 replace LL:=Hd (LL.out.loose2 rfl);refine regL LL (fun hHeld=>?_);clear LL;generalize World.drew _=wk at hHeld  ⊢;refine tkb 0 (fun _ h=>(h.blk 0 rfl).c2) ?_;refine tkb 1 (fun _ h=>(h.blk 1 rfl).c2) ?_;refine rdy 2 fun KK hKK=>?_;go_simp;refine (HC0.out _).mono ?_;rintro e wk ⟨B0,rfl,hq0,hb0⟩;go_wp2_with fail;refine hKK.out _ _ (hHeld.keep hb0) (fun _=>?_);clear hKK KK hHeld;rename_i hHeld;(try simp only [Act.put,lay]);(try replace HQ1:=Hd (HQ1.out.below hb0));have HQ0:=Hd hq0;clear hq0;clear hb0;refine rdy 3 fun KK hKK=>?_;go_simp;refine (HC1.out _).mono ?_;rintro e wk ⟨B1,rfl,hq1,hb1⟩;go_wp2_with fail;refine hKK.out _ _ (hHeld.keep hb1) (fun _=>?_);clear hKK KK hHeld;rename_i hHeld;(try simp only [Act.put,lay]);(try replace HQ0:=Hd (HQ0.out.below hb1));have HQ1:=Hd hq1;clear hq1;clear hb1;refine rdy 4 fun KK hKK=>?_;go_simp;refine cs (HST.out _ _ _ HQ0.out HQ1.out) ?_;clear hKK KK hHeld;intro wk hb9 hHeld;(try replace HQ0:=Hd (HQ0.out.below hb9));(try replace HQ1:=Hd (HQ1.out.below hb9));clear hb9;refine rdy 5 fun KK hKK=>?_;obtain⟨ha0,hf0,ha1,hf1⟩:=(hHeld.has 0 rfl).sf2;obtain⟨csx,hbx,-,hcx⟩:=hHeld.has 0 rfl;(try clear HQ0);(try clear HQ1);clear hbx hcx;go_simp;have HS_0:=(hHeld.has 0 rfl).laid [.float .f64 r1,.float .f64 r2] rfl;refine hKK.out _ _ (hHeld.over 0 rfl [.float .f64 r1,.float .f64 r2] rfl rfl (by first | omega | exact hHeld.le_of 0 rfl) (by simp<;>omega) (by simp<;>omega)) (fun _=>?_);clear hKK KK hHeld;rename_i hHeld;(try simp only [Act.put,lay])
 refine wpAnyH_done (by kernel_rfl) ?_ _;have LB:=Hd hHeld.b;clear hHeld;obtain⟨hk4_0,hk4_1⟩:=HS_0.c2;clear HS_0
 simp [sets] at hk4_0 hk4_1
 go_wp2;refine bodyPost_ret (v:=Zf r1 r2) (by simp [results,Tryz.results60,go_sem,hk4_0,hk4_1]) rfl ?_
 exact⟨rfl,LB.out⟩
set_option maxRecDepth 8000 in
theorem sign_walk(b1 b2 c1 c2 i1 i2 r1 r2:Nat)(w:World)(hi:∀ W,Rt 62 #[Zf b1 b2,Zf 13830554455654793216 4607182418800017408] (Zf i1 i2) W)(hst:∀ W B0 B1,Cap W B0 13830554455654793216->Cap W B1 4607182418800017408->Rt 124 #[Zf i1 i2,Zf c1 c2,.func (.func 121) #[] #[],.func (.func 123) #[] #[.pointer (some ⟨B0,0,none⟩)],.func (.func 123) #[] #[.pointer (some ⟨B1,0,none⟩)]] (Zf r1 r2) W):
  Rt 54 #[Zf b1 b2,Zf c1 c2] (Zf r1 r2) w:=by
 have HI:=Hd hi;have HST:=Hd hst;clear hi hst;have LL:=li3 w (Zv b1 b2) 28 (Zv c1 c2) 28 (Zv 0 0) 28;have HC0:=Hd (side_cap 13830554455654793216);have HC1:=Hd (side_cap 4607182418800017408)
 go_enter Tryz.func54,Tryz.ntmps54
 go_upto_region 3 with fail
 replace LL:=Hd (LL.out.loose2 rfl);refine regL LL (fun hHeld=>?_);clear LL;generalize World.drew _=wk at hHeld  ⊢;refine tkb 0 (fun _ h=>(h.blk 0 rfl).c2) ?_;refine tks 1 ?_;refine tkb 3 (fun _ h=>(h.blk 1 rfl).c2) ?_;refine tks 4 ?_;refine tks 5 ?_;refine tks 7 ?_;refine rdy 2 fun KK hKK=>?_;go_simp;refine cs (HI.out _) ?_;clear hKK KK hHeld;intro wk hb5 hHeld;(try replace HQ0:=Hd (HQ0.out.below hb5));(try replace HQ1:=Hd (HQ1.out.below hb5));clear hb5;refine rdy 6 fun KK hKK=>?_;go_simp;refine (HC0.out _).mono ?_;rintro e wk ⟨B0,rfl,hq0,hb0⟩;go_wp2_with fail;refine hKK.out _ _ (hHeld.keep hb0) (fun _=>?_);clear hKK KK hHeld;rename_i hHeld;(try simp only [Act.put,lay]);(try replace HQ1:=Hd (HQ1.out.below hb0));have HQ0:=Hd hq0;clear hq0;clear hb0;refine rdy 8 fun KK hKK=>?_;go_simp;refine (HC1.out _).mono ?_;rintro e wk ⟨B1,rfl,hq1,hb1⟩;go_wp2_with fail;refine hKK.out _ _ (hHeld.keep hb1) (fun _=>?_);clear hKK KK hHeld;rename_i hHeld;(try simp only [Act.put,lay]);(try replace HQ0:=Hd (HQ0.out.below hb1));have HQ1:=Hd hq1;clear hq1;clear hb1;refine rdy 9 fun KK hKK=>?_;go_simp;refine cs (HST.out _ _ _ HQ0.out HQ1.out) ?_;clear hKK KK hHeld;intro wk hb9 hHeld;(try replace HQ0:=Hd (HQ0.out.below hb9));(try replace HQ1:=Hd (HQ1.out.below hb9));clear hb9;refine rdy 10 fun KK hKK=>?_;obtain⟨ha0,hf0,ha1,hf1⟩:=(hHeld.has 0 rfl).sf2;obtain⟨csx,hbx,-,hcx⟩:=hHeld.has 0 rfl;(try clear HQ0);(try clear HQ1);clear hbx hcx;go_simp;have HS_0:=(hHeld.has 0 rfl).laid [.float .f64 r1,.float .f64 r2] rfl
 refine hKK.out _ _ (hHeld.over 0 rfl [.float .f64 r1,.float .f64 r2] rfl rfl (by first | omega | exact hHeld.le_of 0 rfl) (by simp<;>omega) (by simp<;>omega)) (fun _=>?_);clear hKK KK hHeld;rename_i hHeld;(try simp only [Act.put,lay]);refine wpAnyH_done (by kernel_rfl) ?_ _;have LB:=Hd hHeld.b;clear hHeld;obtain⟨hk4_0,hk4_1⟩:=HS_0.c2;clear HS_0
 simp [sets] at hk4_0 hk4_1
 go_wp2;refine bodyPost_ret (v:=Zf r1 r2) (by simp [results,Tryz.results54,go_sem,hk4_0,hk4_1]) rfl ?_
 exact⟨rfl,LB.out⟩
end
section
open Go.RowKit
attribute [local go_sem] run_store_float run_negf
set_option maxRecDepth 8000 in
theorem step_none(kV kF kT:FuncId)(cF cT:Array Value)(b1 b2 c1 c2 A1 A2 x1 x2:Nat)(d1 d2:Bool)(w:World)(t1:∀ W,Rt 102 #[Zf b1 b2] (Zf A1 A2) W)(m1:Em d1 A1 A2)(t2:∀ W,Rt 102 #[Zf c1 c2] (Zf x1 x2) W)(m2:Em d2 x1 x2)(hnn:(d1 || d2)=true):
  Rt 124 #[Zf b1 b2,Zf c1 c2,.func (.func kV) #[] #[],.func (.func kF) #[] cF,.func (.func kT) #[] cT] (Zf 9218868437227405312 18442240474082181120) w:=by
 have HE:=Hd emptyf;have HRD:=readL32 w (Zv 0 0) 28 t1 m1 t2 m2 hnn;clear t1 m1 t2 m2 hnn
 go_enter Tryz.func124,Tryz.ntmps124
 go_wp2_with fail;refine HRD.out.mono ?_;rintro e wk ⟨rfl,hl⟩;have LL:=Hd hl;clear hl HRD;go_wp2_with fail;refine cx (HE.out _) fun wk hb=>?_;replace LL:=stL LL hb;clear hb;replace LL:=Hd (LL.out.loose2 rfl);obtain⟨ha10_0,hf10_0,ha10_1,hf10_1⟩:=(LL.out.has 0 rfl).sf2;have LF:=Hd (LL.out.wr [.float .f64 9218868437227405312,.float .f64 18442240474082181120]);obtain⟨hk10_0,hk10_1⟩:=(LF.out.blk 2 rfl).c2
 simp [sets] at hk10_0 hk10_1
 clear LL;go_wp2;refine bodyPost_ret (v:=Zf 9218868437227405312 18442240474082181120) (by simp [results,Tryz.results124,go_sem,hk10_0,hk10_1]) rfl ?_
 exact⟨rfl,LF.out.b⟩
set_option maxRecDepth 8000 in
theorem step_far(kV kF kT:FuncId)(cF cT:Array Value)(b1 b2 c1 c2 A1 A2 x1 x2 u1 u2 p q:Nat)(d1 d2:Bool)(w:World)(t1:∀ W,Rt 102 #[Zf b1 b2] (Zf A1 A2) W)(m1:Em d1 A1 A2)(t2:∀ W,Rt 102 #[Zf c1 c2] (Zf x1 x2) W)(m2:Em d2 x1 x2)(hnn:(d1 || d2)=false)(hc:∀ W,Rt 128 #[.float .f64 A1] (.float .f64 u1) W)(hp1:∀ W,Rt 191 #[.float .f64 u1] (.float .f64 p) W)(hf:∀ W,Rt 125 #[.float .f64 A2] (.float .f64 u2) W)(hp2:∀ W,Rt 191 #[.float .f64 u2] (.float .f64 q) W)(ho:FloatKind.f64.format.order p q=some .gt):
  Rt 124 #[Zf b1 b2,Zf c1 c2,.func (.func kV) #[] #[],.func (.func kF) #[] cF,.func (.func kT) #[] cT] (Zf 9218868437227405312 18442240474082181120) w:=by
 have HE:=Hd emptyf;have HC:=Hd hc;have HP1:=Hd hp1;have HF:=Hd hf;have HP2:=Hd hp2;clear hc hp1 hf hp2;have HRD:=readL32 w (Zv 0 0) 28 t1 m1 t2 m2 hnn;clear t1 m1 t2 m2 hnn
 go_enter Tryz.func124,Tryz.ntmps124
 go_wp2_with fail;refine HRD.out.mono ?_;rintro e wk ⟨rfl,hl⟩;have LL:=Hd hl;clear hl HRD
 go_upto_region 3 with fail
 refine regL LL (fun hHeld=>?_);clear LL;generalize World.drew _=wk at hHeld  ⊢;refine tks 0 ?_;refine tkb 1 (fun _ h=>(h.blk 0 rfl).c2) ?_;refine tks 4 ?_;refine tkb 5 (fun _ h=>(h.blk 0 rfl).c2) ?_;refine rdy 2 fun KK hKK=>?_;go_simp;refine cs (HC.out _) ?_;clear hKK KK hHeld;intro wk hb1 hHeld;clear hb1;refine rdy 3 fun KK hKK=>?_;go_simp;refine cs (HP1.out _) ?_;clear hKK KK hHeld;intro wk hb2 hHeld;clear hb2;refine rdy 6 fun KK hKK=>?_;go_simp;refine cs (HF.out _) ?_;clear hKK KK hHeld;intro wk hb3 hHeld;clear hb3;refine rdy 7 fun KK hKK=>?_;go_simp;refine cs (HP2.out _) ?_;clear hKK KK hHeld;intro wk hb4 hHeld;clear hb4;refine tks 8 ?_;refine tks 9 ?_;refine wpAnyH_done (by kernel_rfl) ?_ _;have LL:=Hd hHeld;clear hHeld;go_wp2_with fail;refine cx (HE.out _) fun wk hb=>?_;replace LL:=stL LL hb;clear hb ho;replace LL:=Hd (LL.out.loose2 rfl);obtain⟨ha10_0,hf10_0,ha10_1,hf10_1⟩:=(LL.out.has 0 rfl).sf2;have LF:=Hd (LL.out.wr [.float .f64 9218868437227405312,.float .f64 18442240474082181120]);obtain⟨hk10_0,hk10_1⟩:=(LF.out.blk 2 rfl).c2
 simp [sets] at hk10_0 hk10_1
 clear LL;go_wp2;refine bodyPost_ret (v:=Zf 9218868437227405312 18442240474082181120) (by simp [results,Tryz.results124,go_sem,hk10_0,hk10_1]) rfl ?_
 exact⟨rfl,LF.out.b⟩
set_option maxRecDepth 8000 in
theorem step_low(kV kF kT:FuncId)(cF cT:Array Value)(eV:∀ (args:Array Value) (W:World),(callFunc kV args).run Tryz.prog W=.ok (.enter kV args) W)(b1 b2 c1 c2 A1 A2 x1 x2 u1 u2 p q:Nat)(d1 d2:Bool)(w:World)(t1:∀ W,Rt 102 #[Zf b1 b2] (Zf A1 A2) W)(m1:Em d1 A1 A2)(t2:∀ W,Rt 102 #[Zf c1 c2] (Zf x1 x2) W)(m2:Em d2 x1 x2)(hnn:(d1 || d2)=false)(hc:∀ W,Rt 128 #[.float .f64 A1] (.float .f64 u1) W)(hp1:∀ W,Rt 191 #[.float .f64 u1] (.float .f64 p) W)(hf:∀ W,Rt 125 #[.float .f64 A2] (.float .f64 u2) W)(hp2:∀ W,Rt 191 #[.float .f64 u2] (.float .f64 q) W)(v1:Nat)(ho:(FloatKind.f64.format.order p q == some Ordering.gt)=false)(hv1:∀ W,Below w.heap.size w W->Calls Tryz.prog kV #[.float .f64 x1] W fun e w'=>e=.returned (.float .f64 v1)/\Below W.heap.size W w')(ho2:FloatKind.f64.format.order v1 q=some .gt):
  Rt 124 #[Zf b1 b2,Zf c1 c2,.func (.func kV) #[] #[],.func (.func kF) #[] cF,.func (.func kT) #[] cT] (Zf 9218868437227405312 18442240474082181120) w:=by
 have HE:=Hd emptyf;have HC:=Hd hc;have HP1:=Hd hp1;have HF:=Hd hf;have HP2:=Hd hp2;have HV1:=Hd hv1;clear hc hp1 hf hp2 hv1;have HRD:=readL32 w (Zv 0 0) 28 t1 m1 t2 m2 hnn;clear t1 m1 t2 m2 hnn
 go_enter Tryz.func124,Tryz.ntmps124
 go_wp2_with fail;refine HRD.out.mono ?_;rintro e wk ⟨rfl,hl⟩;have LL:=Hd hl;clear hl HRD
 go_upto_region 3 with fail
 refine regL LL (fun hHeld=>?_);clear LL;generalize World.drew _=wk at hHeld  ⊢;refine tks 0 ?_;refine tkb 1 (fun _ h=>(h.blk 0 rfl).c2) ?_;refine tks 4 ?_;refine tkb 5 (fun _ h=>(h.blk 0 rfl).c2) ?_;refine rdy 2 fun KK hKK=>?_;go_simp;refine cs (HC.out _) ?_;clear hKK KK hHeld;intro wk hb1 hHeld;clear hb1;refine rdy 3 fun KK hKK=>?_;go_simp;refine cs (HP1.out _) ?_;clear hKK KK hHeld;intro wk hb2 hHeld;clear hb2;refine rdy 6 fun KK hKK=>?_;go_simp;refine cs (HF.out _) ?_;clear hKK KK hHeld;intro wk hb3 hHeld;clear hb3;refine rdy 7 fun KK hKK=>?_;go_simp;refine cs (HP2.out _) ?_;clear hKK KK hHeld;intro wk hb4 hHeld;clear hb4;refine tks 8 ?_;refine tks 9 ?_;refine wpAnyH_done (by kernel_rfl) ?_ _;have LL:=Hd hHeld;clear hHeld;obtain⟨q1_0,q1_1⟩:=(LL.out.blk 1 rfl).c2;go_wp2_with fail;refine cx (HV1.out _ LL.out.b) fun wk hb=>?_;replace LL:=stL LL hb;clear hb q1_0 q1_1 ho HV1;go_wp2_with fail;refine cx (HE.out _) fun wk hb=>?_;replace LL:=stL LL hb;clear hb ho2;replace LL:=Hd (LL.out.loose2 rfl);obtain⟨ha10_0,hf10_0,ha10_1,hf10_1⟩:=(LL.out.has 0 rfl).sf2;have LF:=Hd (LL.out.wr [.float .f64 9218868437227405312,.float .f64 18442240474082181120]);obtain⟨hk10_0,hk10_1⟩:=(LF.out.blk 2 rfl).c2
 simp [sets] at hk10_0 hk10_1
 clear LL;go_wp2;refine bodyPost_ret (v:=Zf 9218868437227405312 18442240474082181120) (by simp [results,Tryz.results124,go_sem,hk10_0,hk10_1]) rfl ?_
 exact⟨rfl,LF.out.b⟩
set_option maxRecDepth 8000 in
theorem step_high(kV kF kT:FuncId)(cF cT:Array Value)(eV:∀ (args:Array Value) (W:World),(callFunc kV args).run Tryz.prog W=.ok (.enter kV args) W)(b1 b2 c1 c2 A1 A2 x1 x2 u1 u2 p q:Nat)(d1 d2:Bool)(w:World)(t1:∀ W,Rt 102 #[Zf b1 b2] (Zf A1 A2) W)(m1:Em d1 A1 A2)(t2:∀ W,Rt 102 #[Zf c1 c2] (Zf x1 x2) W)(m2:Em d2 x1 x2)(hnn:(d1 || d2)=false)(hc:∀ W,Rt 128 #[.float .f64 A1] (.float .f64 u1) W)(hp1:∀ W,Rt 191 #[.float .f64 u1] (.float .f64 p) W)(hf:∀ W,Rt 125 #[.float .f64 A2] (.float .f64 u2) W)(hp2:∀ W,Rt 191 #[.float .f64 u2] (.float .f64 q) W)(v1 v2:Nat)(ho:(FloatKind.f64.format.order p q == some Ordering.gt)=false)(hv1:∀ W,Below w.heap.size w W->Calls Tryz.prog kV #[.float .f64 x1] W fun e w'=>e=.returned (.float .f64 v1)/\Below W.heap.size W w')(ho2:(FloatKind.f64.format.order v1 q == some Ordering.gt)=false)(hv2:∀ W,Below w.heap.size w W->Calls Tryz.prog kV #[.float .f64 x2] W fun e w'=>e=.returned (.float .f64 v2)/\Below W.heap.size W w')(ho3:FloatKind.f64.format.order v2 p=some .lt):
  Rt 124 #[Zf b1 b2,Zf c1 c2,.func (.func kV) #[] #[],.func (.func kF) #[] cF,.func (.func kT) #[] cT] (Zf 9218868437227405312 18442240474082181120) w:=by
 have HE:=Hd emptyf;have HC:=Hd hc;have HP1:=Hd hp1;have HF:=Hd hf;have HP2:=Hd hp2;have HV1:=Hd hv1;have HV2:=Hd hv2;clear hc hp1 hf hp2 hv1 hv2;have HRD:=readL32 w (Zv 0 0) 28 t1 m1 t2 m2 hnn;clear t1 m1 t2 m2 hnn
 go_enter Tryz.func124,Tryz.ntmps124
 go_wp2_with fail;refine HRD.out.mono ?_;rintro e wk ⟨rfl,hl⟩;have LL:=Hd hl;clear hl HRD
 go_upto_region 3 with fail
 refine regL LL (fun hHeld=>?_);clear LL;generalize World.drew _=wk at hHeld  ⊢;refine tks 0 ?_;refine tkb 1 (fun _ h=>(h.blk 0 rfl).c2) ?_;refine tks 4 ?_;refine tkb 5 (fun _ h=>(h.blk 0 rfl).c2) ?_;refine rdy 2 fun KK hKK=>?_;go_simp;refine cs (HC.out _) ?_;clear hKK KK hHeld;intro wk hb1 hHeld;clear hb1;refine rdy 3 fun KK hKK=>?_;go_simp;refine cs (HP1.out _) ?_;clear hKK KK hHeld;intro wk hb2 hHeld;clear hb2;refine rdy 6 fun KK hKK=>?_;go_simp;refine cs (HF.out _) ?_;clear hKK KK hHeld;intro wk hb3 hHeld;clear hb3;refine rdy 7 fun KK hKK=>?_;go_simp;refine cs (HP2.out _) ?_;clear hKK KK hHeld;intro wk hb4 hHeld;clear hb4;refine tks 8 ?_;refine tks 9 ?_;refine wpAnyH_done (by kernel_rfl) ?_ _;have LL:=Hd hHeld;clear hHeld;obtain⟨q1_0,q1_1⟩:=(LL.out.blk 1 rfl).c2;go_wp2_with fail;refine cx (HV1.out _ LL.out.b) fun wk hb=>?_;replace LL:=stL LL hb;clear hb q1_0 q1_1 ho HV1;obtain⟨q2_0,q2_1⟩:=(LL.out.blk 1 rfl).c2;go_wp2_with fail;refine cx (HV2.out _ LL.out.b) fun wk hb=>?_;replace LL:=stL LL hb;clear hb q2_0 q2_1 ho2 HV2;go_wp2_with fail;refine cx (HE.out _) fun wk hb=>?_;replace LL:=stL LL hb;clear hb ho3;replace LL:=Hd (LL.out.loose2 rfl);obtain⟨ha10_0,hf10_0,ha10_1,hf10_1⟩:=(LL.out.has 0 rfl).sf2;have LF:=Hd (LL.out.wr [.float .f64 9218868437227405312,.float .f64 18442240474082181120]);obtain⟨hk10_0,hk10_1⟩:=(LF.out.blk 2 rfl).c2
 simp [sets] at hk10_0 hk10_1
 clear LL;go_wp2;refine bodyPost_ret (v:=Zf 9218868437227405312 18442240474082181120) (by simp [results,Tryz.results124,go_sem,hk10_0,hk10_1]) rfl ?_
 exact⟨rfl,LF.out.b⟩
set_option maxRecDepth 8000 in
theorem step_some(kV kF kT:FuncId)(cF cT:Array Value)(eV:∀ (args:Array Value) (W:World),(callFunc kV args).run Tryz.prog W=.ok (.enter kV args) W)(eF:∀ (args:Array Value) (W:World),(callFunc kF args).run Tryz.prog W=.ok (.enter kF args) W)(eT:∀ (args:Array Value) (W:World),(callFunc kT args).run Tryz.prog W=.ok (.enter kT args) W)(b1 b2 c1 c2 A1 A2 x1 x2 u1 u2 p q:Nat)(d1 d2:Bool)(w:World)(t1:∀ W,Rt 102 #[Zf b1 b2] (Zf A1 A2) W)(m1:Em d1 A1 A2)(t2:∀ W,Rt 102 #[Zf c1 c2] (Zf x1 x2) W)(m2:Em d2 x1 x2)(hnn:(d1 || d2)=false)(hc:∀ W,Rt 128 #[.float .f64 A1] (.float .f64 u1) W)(hp1:∀ W,Rt 191 #[.float .f64 u1] (.float .f64 p) W)(hf:∀ W,Rt 125 #[.float .f64 A2] (.float .f64 u2) W)(hp2:∀ W,Rt 191 #[.float .f64 u2] (.float .f64 q) W)(v1 v2 f g r1 r2:Nat)(ho:(FloatKind.f64.format.order p q == some Ordering.gt)=false)(hv1:∀ W,Below w.heap.size w W->Calls Tryz.prog kV #[.float .f64 x1] W fun e w'=>e=.returned (.float .f64 v1)/\Below W.heap.size W w')(ho2:(FloatKind.f64.format.order v1 q == some Ordering.gt)=false)(hv2:∀ W,Below w.heap.size w W->Calls Tryz.prog kV #[.float .f64 x2] W fun e w'=>e=.returned (.float .f64 v2)/\Below W.heap.size W w')(ho3:(FloatKind.f64.format.order v2 p == some Ordering.lt)=false)
  (hfr:∀ W,Below w.heap.size w W->Calls Tryz.prog kF (#[.float .f64 p] ++ cF) W fun e w'=>e=.returned (.float .f64 f)/\Below W.heap.size W w')(hto:∀ W,Below w.heap.size w W->Calls Tryz.prog kT (#[.float .f64 q] ++ cT) W fun e w'=>e=.returned (.float .f64 g)/\Below W.heap.size W w')(hmx:∀ W ts t,(Builtin.max_ ts t (Zv x1 f)).run Tryz.prog W=.ok (.float .f64 r1) W)(hmn:∀ W ts t,(Builtin.min_ ts t (Zv x2 g)).run Tryz.prog W=.ok (.float .f64 r2) W):
  Rt 124 #[Zf b1 b2,Zf c1 c2,.func (.func kV) #[] #[],.func (.func kF) #[] cF,.func (.func kT) #[] cT] (Zf r1 r2) w:=by
 have HC:=Hd hc;have HP1:=Hd hp1;have HF:=Hd hf;have HP2:=Hd hp2;have HV1:=Hd hv1;have HV2:=Hd hv2;have HFR:=Hd hfr;have HTO:=Hd hto;clear hc hp1 hf hp2 hv1 hv2 hfr hto;have HRD:=readL32 w (Zv 0 0) 28 t1 m1 t2 m2 hnn;clear t1 m1 t2 m2 hnn
 go_enter Tryz.func124,Tryz.ntmps124
 go_wp2_with fail;refine HRD.out.mono ?_;rintro e wk ⟨rfl,hl⟩;have LL:=Hd hl;clear hl HRD
 go_upto_region 3 with fail
 refine regL LL (fun hHeld=>?_);clear LL;generalize World.drew _=wk at hHeld  ⊢;refine tks 0 ?_;refine tkb 1 (fun _ h=>(h.blk 0 rfl).c2) ?_;refine tks 4 ?_;refine tkb 5 (fun _ h=>(h.blk 0 rfl).c2) ?_;refine rdy 2 fun KK hKK=>?_;go_simp;refine cs (HC.out _) ?_;clear hKK KK hHeld;intro wk hb1 hHeld;clear hb1;refine rdy 3 fun KK hKK=>?_;go_simp;refine cs (HP1.out _) ?_;clear hKK KK hHeld;intro wk hb2 hHeld;clear hb2;refine rdy 6 fun KK hKK=>?_;go_simp;refine cs (HF.out _) ?_;clear hKK KK hHeld;intro wk hb3 hHeld;clear hb3;refine rdy 7 fun KK hKK=>?_;go_simp;refine cs (HP2.out _) ?_;clear hKK KK hHeld;intro wk hb4 hHeld;clear hb4;refine tks 8 ?_;refine tks 9 ?_;refine wpAnyH_done (by kernel_rfl) ?_ _;have LL:=Hd hHeld;clear hHeld;obtain⟨q1_0,q1_1⟩:=(LL.out.blk 1 rfl).c2;go_wp2_with fail;refine cx (HV1.out _ LL.out.b) fun wk hb=>?_;replace LL:=stL LL hb;clear hb q1_0 q1_1 ho HV1;obtain⟨q2_0,q2_1⟩:=(LL.out.blk 1 rfl).c2;go_wp2_with fail;refine cx (HV2.out _ LL.out.b) fun wk hb=>?_;replace LL:=stL LL hb;clear hb q2_0 q2_1 ho2 HV2
 go_upto_region 6 with fail
 clear ho3;replace LL:=Hd (LL.out.loose2 rfl);refine regL LL (fun hHeld=>?_);clear LL;generalize World.drew _=wk at hHeld  ⊢;refine tks 0 ?_;refine tkb 1 (fun _ h=>(h.blk 1 rfl).c2) ?_;refine tks 2 ?_;refine tks 3 ?_;refine tks 6 ?_;refine tkb 7 (fun _ h=>(h.blk 1 rfl).c2) ?_;refine tks 8 ?_;refine tks 9 ?_
 repeat' first
  | (have hx:=hC4;clear hx;go_simp;refine (HFR.out _ hHeld.b).mono ?_;rintro e wk ⟨rfl,hb1⟩;go_wp2_with fail;refine hC4.out _ _ (hHeld.keep hb1) (fun _=>?_);clear hC4 KK hHeld;rename_i hHeld;(try simp only [Act.put,lay]);clear hb1;have mk4:=True.intro)
  | (have hx:=hR5;clear hx;go_simp;refine hR5.out _ _ hHeld (fun _=>?_);clear hR5 KK hHeld;rename_i hHeld;(try simp only [Act.put,lay]);have mk5:=True.intro)
  | (have hx:=hC10;clear hx;go_simp;refine (HTO.out _ hHeld.b).mono ?_;rintro e wk ⟨rfl,hb2⟩;go_wp2_with fail;refine hC10.out _ _ (hHeld.keep hb2) (fun _=>?_);clear hC10 KK hHeld;rename_i hHeld;(try simp only [Act.put,lay]);clear hb2;have mk10:=True.intro)
  | (have hx:=hR11;clear hx;go_simp;refine hR11.out _ _ hHeld (fun _=>?_);clear hR11 KK hHeld;rename_i hHeld;(try simp only [Act.put,lay]);have mk11:=True.intro)
  | (have hx:=hS13;clear hx;obtain⟨ha0,hf0,ha1,hf1⟩:=(hHeld.has 0 rfl).sf2;go_simp;have HS_0:=(hHeld.has 0 rfl).laid [.float .f64 r1,.float .f64 r2] rfl;refine hS13.out _ _ (hHeld.over 0 rfl [.float .f64 r1,.float .f64 r2] rfl rfl (by first | omega | exact hHeld.le_of 0 rfl) (by simp<;>omega) (by simp<;>omega)) (fun _=>?_);clear hS13 KK hHeld;rename_i hHeld;(try simp only [Act.put,lay]);replace hHeld:=(show Lies _ (sets wk (w.heap.size+2) 0 [.float .f64 r1,.float .f64 r2]) _ _ from hHeld);obtain⟨wk,hwn⟩:∃ X,sets wk (w.heap.size+2) 0 [.float .f64 r1,.float .f64 r2]=X:=⟨_,rfl⟩;rw [hwn] at hHeld HS_0;simp only [sets] at hwn;rw [hwn];clear hwn ha0 hf0 ha1 hf1;have mk13:=True.intro)
  | (have hx:=mk4;have hx:=mk5;have hx:=mk10;have hx:=mk11;have hx:=mk12;have hx:=mk13;refine wpAnyH_done (by kernel_rfl) ?_ _;clear hx mk4 mk5 mk10 mk11 mk12 mk13;have LB:=Hd hHeld.b;clear hHeld;obtain⟨hk0,hk1⟩:=HS_0.c2;clear HS_0;go_wp2;refine bodyPost_ret (v:=Zf r1 r2) (by simp [results,Tryz.results124,go_sem,hk0,hk1]) rfl ?_;exact⟨rfl,LB.out⟩)
  | (have hx:=mk4;have hx:=mk5;have hx:=mk10;have hx:=mk11;have hx:=mk12;refine rdy 13 (fun KK hS13=>?_))
  | (have hx:=mk4;have hx:=mk5;have hx:=mk10;have hx:=mk11;refine tk 12 ?_;(try simp only [Act.put,lay]);have mk12:=True.intro)
  | (have hx:=mk4;have hx:=mk10;have hx:=mk11;refine rdy 5 (fun KK hR5=>?_))
  | (have hx:=mk4;have hx:=mk5;have hx:=mk10;refine rdy 11 (fun KK hR11=>?_))
  | (have hx:=mk4;have hx:=mk10;refine rd2 5 11 (fun KK hR5=>?_) (fun KK hR11=>?_))
  | (have hx:=mk4;have hx:=mk5;refine rdy 10 (fun KK hC10=>?_))
  | (have hx:=mk4;refine rd2 5 10 (fun KK hR5=>?_) (fun KK hC10=>?_))
  | (refine rdy 4 (fun KK hC4=>?_))
set_option maxRecDepth 8000 in
theorem step_lowx(kV kF kT:FuncId)(cF cT:Array Value)(b1 b2 c1 c2 A1 A2 x1 x2 u1 u2 p q:Nat)(d1 d2:Bool)(w:World)(t1:∀ W,Rt 102 #[Zf b1 b2] (Zf A1 A2) W)(m1:Em d1 A1 A2)(t2:∀ W,Rt 102 #[Zf c1 c2] (Zf x1 x2) W)(m2:Em d2 x1 x2)(hnn:(d1 || d2)=false)(hc:∀ W,Rt 128 #[.float .f64 A1] (.float .f64 u1) W)(hp1:∀ W,Rt 191 #[.float .f64 u1] (.float .f64 p) W)(hf:∀ W,Rt 125 #[.float .f64 A2] (.float .f64 u2) W)(hp2:∀ W,Rt 191 #[.float .f64 u2] (.float .f64 q) W)(v1:Nat)(ho:(FloatKind.f64.format.order p q == some Ordering.gt)=false)(hv1:∀ W:World,(callFunc kV #[.float .f64 x1]).run Tryz.prog W=.ok (.value (.float .f64 v1)) W)(ho2:FloatKind.f64.format.order v1 q=some .gt):
  Rt 124 #[Zf b1 b2,Zf c1 c2,.func (.func kV) #[] #[],.func (.func kF) #[] cF,.func (.func kT) #[] cT] (Zf 9218868437227405312 18442240474082181120) w:=by
 have HE:=Hd emptyf;have HC:=Hd hc;have HP1:=Hd hp1;have HF:=Hd hf;have HP2:=Hd hp2;clear hc hp1 hf hp2;have HRD:=readL32 w (Zv 0 0) 28 t1 m1 t2 m2 hnn;clear t1 m1 t2 m2 hnn
 go_enter Tryz.func124,Tryz.ntmps124
 go_wp2_with fail;refine HRD.out.mono ?_;rintro e wk ⟨rfl,hl⟩;have LL:=Hd hl;clear hl HRD
 go_upto_region 3 with fail
 refine regL LL (fun hHeld=>?_);clear LL;generalize World.drew _=wk at hHeld  ⊢;refine tks 0 ?_;refine tkb 1 (fun _ h=>(h.blk 0 rfl).c2) ?_;refine tks 4 ?_;refine tkb 5 (fun _ h=>(h.blk 0 rfl).c2) ?_;refine rdy 2 fun KK hKK=>?_;go_simp;refine cs (HC.out _) ?_;clear hKK KK hHeld;intro wk hb1 hHeld;clear hb1;refine rdy 3 fun KK hKK=>?_;go_simp;refine cs (HP1.out _) ?_;clear hKK KK hHeld;intro wk hb2 hHeld;clear hb2;refine rdy 6 fun KK hKK=>?_;go_simp;refine cs (HF.out _) ?_;clear hKK KK hHeld;intro wk hb3 hHeld;clear hb3;refine rdy 7 fun KK hKK=>?_;go_simp;refine cs (HP2.out _) ?_;clear hKK KK hHeld;intro wk hb4 hHeld;clear hb4;refine tks 8 ?_;refine tks 9 ?_;refine wpAnyH_done (by kernel_rfl) ?_ _;have LL:=Hd hHeld;clear hHeld;obtain⟨q1_0,q1_1⟩:=(LL.out.blk 1 rfl).c2;go_wp2_with fail;refine cx (HE.out _) fun wk hb=>?_;replace LL:=stL LL hb;clear hb q1_0 q1_1 ho2 ho;replace LL:=Hd (LL.out.loose2 rfl);obtain⟨ha10_0,hf10_0,ha10_1,hf10_1⟩:=(LL.out.has 0 rfl).sf2;have LF:=Hd (LL.out.wr [.float .f64 9218868437227405312,.float .f64 18442240474082181120]);obtain⟨hk10_0,hk10_1⟩:=(LF.out.blk 2 rfl).c2
 simp [sets] at hk10_0 hk10_1
 clear LL;go_wp2;refine bodyPost_ret (v:=Zf 9218868437227405312 18442240474082181120) (by simp [results,Tryz.results124,go_sem,hk10_0,hk10_1]) rfl ?_
 exact⟨rfl,LF.out.b⟩
set_option maxRecDepth 8000 in
theorem step_highx(kV kF kT:FuncId)(cF cT:Array Value)(b1 b2 c1 c2 A1 A2 x1 x2 u1 u2 p q:Nat)(d1 d2:Bool)(w:World)(t1:∀ W,Rt 102 #[Zf b1 b2] (Zf A1 A2) W)(m1:Em d1 A1 A2)(t2:∀ W,Rt 102 #[Zf c1 c2] (Zf x1 x2) W)(m2:Em d2 x1 x2)(hnn:(d1 || d2)=false)(hc:∀ W,Rt 128 #[.float .f64 A1] (.float .f64 u1) W)(hp1:∀ W,Rt 191 #[.float .f64 u1] (.float .f64 p) W)(hf:∀ W,Rt 125 #[.float .f64 A2] (.float .f64 u2) W)(hp2:∀ W,Rt 191 #[.float .f64 u2] (.float .f64 q) W)(v1 v2:Nat)(ho:(FloatKind.f64.format.order p q == some Ordering.gt)=false)(hv1:∀ W:World,(callFunc kV #[.float .f64 x1]).run Tryz.prog W=.ok (.value (.float .f64 v1)) W)(ho2:(FloatKind.f64.format.order v1 q == some Ordering.gt)=false)(hv2:∀ W:World,(callFunc kV #[.float .f64 x2]).run Tryz.prog W=.ok (.value (.float .f64 v2)) W)(ho3:FloatKind.f64.format.order v2 p=some .lt):
  Rt 124 #[Zf b1 b2,Zf c1 c2,.func (.func kV) #[] #[],.func (.func kF) #[] cF,.func (.func kT) #[] cT] (Zf 9218868437227405312 18442240474082181120) w:=by
 have HE:=Hd emptyf;have HC:=Hd hc;have HP1:=Hd hp1;have HF:=Hd hf;have HP2:=Hd hp2;clear hc hp1 hf hp2;have HRD:=readL32 w (Zv 0 0) 28 t1 m1 t2 m2 hnn;clear t1 m1 t2 m2 hnn
 go_enter Tryz.func124,Tryz.ntmps124
 go_wp2_with fail;refine HRD.out.mono ?_;rintro e wk ⟨rfl,hl⟩;have LL:=Hd hl;clear hl HRD
 go_upto_region 3 with fail
 refine regL LL (fun hHeld=>?_);clear LL;generalize World.drew _=wk at hHeld  ⊢;refine tks 0 ?_;refine tkb 1 (fun _ h=>(h.blk 0 rfl).c2) ?_;refine tks 4 ?_;refine tkb 5 (fun _ h=>(h.blk 0 rfl).c2) ?_;refine rdy 2 fun KK hKK=>?_;go_simp;refine cs (HC.out _) ?_;clear hKK KK hHeld;intro wk hb1 hHeld;clear hb1;refine rdy 3 fun KK hKK=>?_;go_simp;refine cs (HP1.out _) ?_;clear hKK KK hHeld;intro wk hb2 hHeld;clear hb2;refine rdy 6 fun KK hKK=>?_;go_simp;refine cs (HF.out _) ?_;clear hKK KK hHeld;intro wk hb3 hHeld;clear hb3;refine rdy 7 fun KK hKK=>?_;go_simp;refine cs (HP2.out _) ?_;clear hKK KK hHeld;intro wk hb4 hHeld;clear hb4;refine tks 8 ?_;refine tks 9 ?_;refine wpAnyH_done (by kernel_rfl) ?_ _;have LL:=Hd hHeld;clear hHeld;obtain⟨q1_0,q1_1⟩:=(LL.out.blk 1 rfl).c2;go_wp2_with fail;refine cx (HE.out _) fun wk hb=>?_;replace LL:=stL LL hb;clear hb q1_0 q1_1 ho3 ho ho2;replace LL:=Hd (LL.out.loose2 rfl);obtain⟨ha10_0,hf10_0,ha10_1,hf10_1⟩:=(LL.out.has 0 rfl).sf2;have LF:=Hd (LL.out.wr [.float .f64 9218868437227405312,.float .f64 18442240474082181120]);obtain⟨hk10_0,hk10_1⟩:=(LF.out.blk 2 rfl).c2
 simp [sets] at hk10_0 hk10_1
 clear LL;go_wp2;refine bodyPost_ret (v:=Zf 9218868437227405312 18442240474082181120) (by simp [results,Tryz.results124,go_sem,hk10_0,hk10_1]) rfl ?_
 exact⟨rfl,LF.out.b⟩
set_option maxRecDepth 8000 in
theorem step_somex(kV kF kT:FuncId)(cF cT:Array Value)(eF:∀ (args:Array Value) (W:World),(callFunc kF args).run Tryz.prog W=.ok (.enter kF args) W)(eT:∀ (args:Array Value) (W:World),(callFunc kT args).run Tryz.prog W=.ok (.enter kT args) W)(b1 b2 c1 c2 A1 A2 x1 x2 u1 u2 p q:Nat)(d1 d2:Bool)(w:World)(t1:∀ W,Rt 102 #[Zf b1 b2] (Zf A1 A2) W)(m1:Em d1 A1 A2)(t2:∀ W,Rt 102 #[Zf c1 c2] (Zf x1 x2) W)(m2:Em d2 x1 x2)(hnn:(d1 || d2)=false)(hc:∀ W,Rt 128 #[.float .f64 A1] (.float .f64 u1) W)(hp1:∀ W,Rt 191 #[.float .f64 u1] (.float .f64 p) W)(hf:∀ W,Rt 125 #[.float .f64 A2] (.float .f64 u2) W)(hp2:∀ W,Rt 191 #[.float .f64 u2] (.float .f64 q) W)(v1 v2 f g r1 r2:Nat)(ho:(FloatKind.f64.format.order p q == some Ordering.gt)=false)(hv1:∀ W:World,(callFunc kV #[.float .f64 x1]).run Tryz.prog W=.ok (.value (.float .f64 v1)) W)(ho2:(FloatKind.f64.format.order v1 q == some Ordering.gt)=false)(hv2:∀ W:World,(callFunc kV #[.float .f64 x2]).run Tryz.prog W=.ok (.value (.float .f64 v2)) W)(ho3:(FloatKind.f64.format.order v2 p == some Ordering.lt)=false)
  (hfr:∀ W,Below w.heap.size w W->Calls Tryz.prog kF (#[.float .f64 p] ++ cF) W fun e w'=>e=.returned (.float .f64 f)/\Below W.heap.size W w')(hto:∀ W,Below w.heap.size w W->Calls Tryz.prog kT (#[.float .f64 q] ++ cT) W fun e w'=>e=.returned (.float .f64 g)/\Below W.heap.size W w')(hmx:∀ W ts t,(Builtin.max_ ts t (Zv x1 f)).run Tryz.prog W=.ok (.float .f64 r1) W)(hmn:∀ W ts t,(Builtin.min_ ts t (Zv x2 g)).run Tryz.prog W=.ok (.float .f64 r2) W):
  Rt 124 #[Zf b1 b2,Zf c1 c2,.func (.func kV) #[] #[],.func (.func kF) #[] cF,.func (.func kT) #[] cT] (Zf r1 r2) w:=by
 have HC:=Hd hc;have HP1:=Hd hp1;have HF:=Hd hf;have HP2:=Hd hp2;have HFR:=Hd hfr;have HTO:=Hd hto;clear hc hp1 hf hp2 hfr hto;have HRD:=readL32 w (Zv 0 0) 28 t1 m1 t2 m2 hnn;clear t1 m1 t2 m2 hnn
 go_enter Tryz.func124,Tryz.ntmps124
 go_wp2_with fail;refine HRD.out.mono ?_;rintro e wk ⟨rfl,hl⟩;have LL:=Hd hl;clear hl HRD
 go_upto_region 3 with fail
 refine regL LL (fun hHeld=>?_);clear LL;generalize World.drew _=wk at hHeld  ⊢;refine tks 0 ?_;refine tkb 1 (fun _ h=>(h.blk 0 rfl).c2) ?_;refine tks 4 ?_;refine tkb 5 (fun _ h=>(h.blk 0 rfl).c2) ?_;refine rdy 2 fun KK hKK=>?_;go_simp;refine cs (HC.out _) ?_;clear hKK KK hHeld;intro wk hb1 hHeld;clear hb1;refine rdy 3 fun KK hKK=>?_;go_simp;refine cs (HP1.out _) ?_;clear hKK KK hHeld;intro wk hb2 hHeld;clear hb2;refine rdy 6 fun KK hKK=>?_;go_simp;refine cs (HF.out _) ?_;clear hKK KK hHeld;intro wk hb3 hHeld;clear hb3;refine rdy 7 fun KK hKK=>?_;go_simp;refine cs (HP2.out _) ?_;clear hKK KK hHeld;intro wk hb4 hHeld;clear hb4;refine tks 8 ?_;refine tks 9 ?_;refine wpAnyH_done (by kernel_rfl) ?_ _;have LL:=Hd hHeld;clear hHeld;obtain⟨q1_0,q1_1⟩:=(LL.out.blk 1 rfl).c2
 go_upto_region 6 with fail
 clear ho3 ho ho2 q1_0 q1_1;replace LL:=Hd (LL.out.loose2 rfl);refine regL LL (fun hHeld=>?_);clear LL;generalize World.drew _=wk at hHeld  ⊢;refine tks 0 ?_;refine tkb 1 (fun _ h=>(h.blk 1 rfl).c2) ?_;refine tks 2 ?_;refine tks 3 ?_;refine tks 6 ?_;refine tkb 7 (fun _ h=>(h.blk 1 rfl).c2) ?_;refine tks 8 ?_;refine tks 9 ?_
 repeat' first
  | (have hx:=hC4;clear hx;go_simp;refine (HFR.out _ hHeld.b).mono ?_;rintro e wk ⟨rfl,hb1⟩;go_wp2_with fail;refine hC4.out _ _ (hHeld.keep hb1) (fun _=>?_);clear hC4 KK hHeld;rename_i hHeld;(try simp only [Act.put,lay]);clear hb1;have mk4:=True.intro)
  | (have hx:=hR5;clear hx;go_simp;refine hR5.out _ _ hHeld (fun _=>?_);clear hR5 KK hHeld;rename_i hHeld;(try simp only [Act.put,lay]);have mk5:=True.intro)
  | (have hx:=hC10;clear hx;go_simp;refine (HTO.out _ hHeld.b).mono ?_;rintro e wk ⟨rfl,hb2⟩;go_wp2_with fail;refine hC10.out _ _ (hHeld.keep hb2) (fun _=>?_);clear hC10 KK hHeld;rename_i hHeld;(try simp only [Act.put,lay]);clear hb2;have mk10:=True.intro)
  | (have hx:=hR11;clear hx;go_simp;refine hR11.out _ _ hHeld (fun _=>?_);clear hR11 KK hHeld;rename_i hHeld;(try simp only [Act.put,lay]);have mk11:=True.intro)
  | (have hx:=hS13;clear hx;obtain⟨ha0,hf0,ha1,hf1⟩:=(hHeld.has 0 rfl).sf2;go_simp;have HS_0:=(hHeld.has 0 rfl).laid [.float .f64 r1,.float .f64 r2] rfl;refine hS13.out _ _ (hHeld.over 0 rfl [.float .f64 r1,.float .f64 r2] rfl rfl (by first | omega | exact hHeld.le_of 0 rfl) (by simp<;>omega) (by simp<;>omega)) (fun _=>?_);clear hS13 KK hHeld;rename_i hHeld;(try simp only [Act.put,lay]);replace hHeld:=(show Lies _ (sets wk (w.heap.size+2) 0 [.float .f64 r1,.float .f64 r2]) _ _ from hHeld);obtain⟨wk,hwn⟩:∃ X,sets wk (w.heap.size+2) 0 [.float .f64 r1,.float .f64 r2]=X:=⟨_,rfl⟩;rw [hwn] at hHeld HS_0;simp only [sets] at hwn;rw [hwn];clear hwn ha0 hf0 ha1 hf1;have mk13:=True.intro)
  | (have hx:=mk4;have hx:=mk5;have hx:=mk10;have hx:=mk11;have hx:=mk12;have hx:=mk13;refine wpAnyH_done (by kernel_rfl) ?_ _;clear hx mk4 mk5 mk10 mk11 mk12 mk13;have LB:=Hd hHeld.b;clear hHeld;obtain⟨hk0,hk1⟩:=HS_0.c2;clear HS_0;go_wp2;refine bodyPost_ret (v:=Zf r1 r2) (by simp [results,Tryz.results124,go_sem,hk0,hk1]) rfl ?_;exact⟨rfl,LB.out⟩)
  | (have hx:=mk4;have hx:=mk5;have hx:=mk10;have hx:=mk11;have hx:=mk12;refine rdy 13 (fun KK hS13=>?_))
  | (have hx:=mk4;have hx:=mk5;have hx:=mk10;have hx:=mk11;refine tk 12 ?_;(try simp only [Act.put,lay]);have mk12:=True.intro)
  | (have hx:=mk4;have hx:=mk10;have hx:=mk11;refine rdy 5 (fun KK hR5=>?_))
  | (have hx:=mk4;have hx:=mk5;have hx:=mk10;refine rdy 11 (fun KK hR11=>?_))
  | (have hx:=mk4;have hx:=mk10;refine rd2 5 11 (fun KK hR5=>?_) (fun KK hR11=>?_))
  | (have hx:=mk4;have hx:=mk5;refine rdy 10 (fun KK hC10=>?_))
  | (have hx:=mk4;refine rd2 5 10 (fun KK hR5=>?_) (fun KK hC10=>?_))
  | (refine rdy 4 (fun KK hC4=>?_))
end
section
open Ieee
def P2(d:Nat):Rat:=(((2^d:Nat):Int):Rat)
theorem P2_add(a b:Nat):P2 (a+b)=P2 a*P2 b:=by
 unfold P2;rw [Nat.pow_add,Int.natCast_mul,Rat.intCast_mul]
theorem P2_ne(a:Nat):P2 a≠0:=by
 intro h;have h':((2^a:Nat):Int)=0:=Rat.intCast_inj.1 (by unfold P2 at h;rw [h];rfl);have:=Nat.two_pow_pos a
 omega
theorem P2_cancel{x y:Rat}{a:Nat}(h:x*P2 a=y*P2 a):x=y:=by
 have k:(x - y)*P2 a=0:=by grind
 rcases Rat.mul_eq_zero.1 k with k | k
 ·grind
 ·exact absurd k (P2_ne a)
theorem signed_cast(s:Bool)(n:Nat)(d:Nat):(((if s=true then -((n*2^d:Nat):Int) else ((n*2^d:Nat):Int)):Int):Rat)=((if s=true then -(n:Int) else (n:Int):Int):Rat)*P2 d:=by
 unfold P2;rw [<- Rat.intCast_mul]
 congr 1
 cases s
 ·simp
 ·simp [Int.neg_mul]
theorem whole_word(way:Toward){b:Nat}(h:real b):Is (double.write ((double.read b).integral way)) (wh (kW way) (idx b)):=by
 have hM:=M_val;have hi:=idx_natAbs b
 rcases Nat.lt_or_ge (rungOf b) M with hf | hf
 ·obtain⟨m,k,e,hm,-,-⟩:=read_fin (b:=b) hf
  obtain⟨U,hU⟩:∃ U:Nat,U=1074:=⟨_,rfl⟩
  have i0:-(M:Int)<idx b:=by omega
  have i1:idx b<M:=by omega
  obtain⟨j1,j2,j3⟩:=wh_fin (w:=kW way) (by cases way<;>decide) i0 i1;rw [e]
  have e2:(0:Int)=-1074+((U:Nat):Int):=by omega
  obtain⟨d,hd⟩:∃ d:Nat,d=(-(-1074+(k:Int))).toNat:=⟨_,rfl⟩
  obtain⟨A,hA⟩:∃ A:Nat,A=(-1074+(k:Int)).toNat:=⟨_,rfl⟩
  have hAd:A+U=k+d:=by omega
  obtain⟨c,hc⟩:∃ c:Nat,c=way.cut (sgn b) (m <<< A) d:=⟨_,rfl⟩
  have goal_eq:double.write ((Datum.number (sgn b) m (-1074+(k:Int))).integral way)=double.nearest (sgn b) c (-1074+((U:Nat):Int)):=by
   rw [hc,hA,hd,<- e2];rfl
  rw [goal_eq,nearest_high]
  have hv:(val (idx b):Rat)=((if sgn b=true then -(m:Int) else (m:Int):Int):Rat)*P2 k:=by
   rw [<- read_val hm,signed_eq,signed_cast]
  have key:(if sgn b=true then -(c:Int) else (c:Int))=rK (kW way) (fl (idx b)):=by
   rw [hc,cut_gI];refine gI_rK way (by have:=Nat.two_pow_pos d;omega) ?_;have f1:fl (idx b)*P2 U=(val (idx b):Rat):=fl_mul hU (idx b)
   have f2:fl (idx b)*P2 d*P2 U=((if sgn b=true then -(m:Int) else (m:Int):Int):Rat)*P2 A*P2 U:=by
    rw [Rat.mul_assoc _ (P2 A),<- P2_add,hAd,P2_add];rw [hv] at f1
    grind
   have f3:=P2_cancel f2;rw [<- signed_cast] at f3;rw [Nat.shiftLeft_eq]
   exact f3
  have hw:val (wh (kW way) (idx b))=(if sgn b=true then -((c*2^U:Nat):Int) else ((c*2^U:Nat):Int)):=by
   have f1:fl (wh (kW way) (idx b))*P2 U=(val (wh (kW way) (idx b)):Rat):=fl_mul hU _;rw [j1,<- key,<- signed_cast] at f1
   exact (Rat.intCast_inj.1 f1).symm
  have hn:=Is.near (s:=sgn b) (n:=val (wh (kW way) (idx b))) (d:=0) (by
   intro h0;rw [hw] at h0 ⊢;generalize c*2^U=t at h0 ⊢
   cases sgn b
   ·simp only [Bool.false_eq_true,if_false] at h0 ⊢
    rw [decide_eq_false (by omega)]
   ·simp only [if_true] at h0 ⊢
    rw [decide_eq_true (by omega)])
  rw [near_val_zero (by omega) (by omega)] at hn
  have e3:(val (wh (kW way) (idx b))).natAbs=c*2^U:=by
   rw [hw];generalize c*2^U=t
   cases sgn b<;>simp
  rw [e3] at hn
  exact hn
 ·have e:rungOf b=M:=by unfold real at h;omega
  rw [read_inf e]
  show Is (double.word (sgn b) double.infRung) _
  rw [infRung_eq];have k:=Is.word (sgn b) (r:=M) (Nat.le_refl _)
  have e4:wh (kW way) (idx b)=if sgn b=true then -(M:Int) else (M:Int):=by
   unfold idx;rw [e]
   cases sgn b
   ·exact wh_max _
   ·exact wh_min _
  rw [e4];exact k
end
section
open Go.RowKit Ieee
theorem run_integral(name:String)(way:Toward){b:Nat}(h:real b)(P:Program)(w:World):
  (Extern.MathFloor.toIntegral name way #[.float .f64 b]).run P w=.ok (.float .f64 (double.write ((double.read b).integral way))) w:=by
 have hn:∀ s t,FloatKind.f64.decode b≠.nan s t:=by
  intro s t he
  rcases Nat.lt_or_ge (rungOf b) M with hf | hf
  ·obtain⟨m,k,e,-⟩:=read_fin (b:=b) hf
   cases e.symm.trans he
  ·have e0:rungOf b=M:=by unfold real at h;omega
   cases (read_inf e0).symm.trans he
 delta Extern.MathFloor.toIntegral
 rw [show double.write ((double.read b).integral way)=FloatKind.f64.encode ((FloatKind.f64.decode b).integral way) from rfl]
 conv=>lhs;arg 2;whnf
 generalize FloatKind.f64.decode b=d at hn
 cases d with
 | nan s t=>exact absurd rfl (hn s t)
 | number s m i=>rfl
 | infinity s=>rfl
def nmFloor: String := "math.archFloor"
def nmCeil: String := "math.archCeil"
def nmTrunc: String := "math.archTrunc"
def nmEven: String := "math.RoundToEven"
theorem run_arch(b:Nat)(h:real b)(w:World):
  (callFunc 192 #[.float .f64 b]).run Tryz.prog w=.ok (.value (.float .f64 (double.write ((double.read b).integral .down)))) w /\
  (callFunc 195 #[.float .f64 b]).run Tryz.prog w=.ok (.value (.float .f64 (double.write ((double.read b).integral .up)))) w /\
  (callFunc 198 #[.float .f64 b]).run Tryz.prog w=.ok (.value (.float .f64 (double.write ((double.read b).integral .zero)))) w /\
  (callFunc 135 #[.float .f64 b]).run Tryz.prog w=.ok (.value (.float .f64 (double.write ((double.read b).integral .even)))) w:=by
 refine⟨?_,?_,?_,?_⟩
 ·rw [run_callFunc_extern (e:=Extern.MathFloor.toIntegral nmFloor .down) Tryz.func192 (by kernel_rfl) (by kernel_rfl) (by kernel_rfl) (by kernel_rfl),run_integral _ _ h]
  rfl
 ·rw [run_callFunc_extern (e:=Extern.MathFloor.toIntegral nmCeil .up) Tryz.func195 (by kernel_rfl) (by kernel_rfl) (by kernel_rfl) (by kernel_rfl),run_integral _ _ h]
  rfl
 ·rw [run_callFunc_extern (e:=Extern.MathFloor.toIntegral nmTrunc .zero) Tryz.func198 (by kernel_rfl) (by kernel_rfl) (by kernel_rfl) (by kernel_rfl),run_integral _ _ h]
  rfl
 ·rw [run_callFunc_extern (e:=Extern.MathFloor.toIntegral nmEven .even) Tryz.func135 (by kernel_rfl) (by kernel_rfl) (by kernel_rfl) (by kernel_rfl),run_integral _ _ h]
  rfl
def wW(way:Toward)(b:Nat):Nat:=double.write ((double.read b).integral way)
theorem wW_is(way:Toward){b:Nat}(h:real b):Is (wW way b) (wh (kW way) (idx b)):=whole_word way h
theorem floor_any(b:Nat)(w:World)(h:real b):Calls Tryz.prog 125 #[.float .f64 b] w fun e w'=>e=.returned (.float .f64 (wW .down b))/\w=w':=by
 have hf:=fun W=>(run_arch b h W).1;unfold wW;generalize double.write ((double.read b).integral .down)=r at hf ⊢;clear h
 go_enter Tryz.func125,Tryz.ntmps125
 go_wp2
 go_ret
 exact⟨rfl,rfl⟩
theorem ceil_any(b:Nat)(w:World)(h:real b):Calls Tryz.prog 128 #[.float .f64 b] w fun e w'=>e=.returned (.float .f64 (wW .up b))/\w=w':=by
 have hf:=fun W=>(run_arch b h W).2.1;unfold wW;generalize double.write ((double.read b).integral .up)=r at hf ⊢;clear h
 go_enter Tryz.func128,Tryz.ntmps128
 go_wp2
 go_ret
 exact⟨rfl,rfl⟩
theorem trunc_any(b:Nat)(w:World)(h:real b):Calls Tryz.prog 132 #[.float .f64 b] w fun e w'=>e=.returned (.float .f64 (wW .zero b))/\w=w':=by
 have hf:=fun W=>(run_arch b h W).2.2.1;unfold wW;generalize double.write ((double.read b).integral .zero)=r at hf ⊢;clear h
 go_enter Tryz.func132,Tryz.ntmps132
 go_wp2
 go_ret
 exact⟨rfl,rfl⟩
end
end Go.Proofs.YthlmlmfebpjgdaaGreatDoor
