/-
Lemmas for the statement: DvP ClQ HdP CommT PairT PnP PrT FmP.
-/
import Derived.Test.YthlmlmfebpjgdaaGreatDoorM09
import Derived.Test.YthlmlmfebpjgdaaGreatDoorM10
import Derived.Test.YthlmlmfebpjgdaaGreatDoorM01
import Derived.Test.YthlmlmfebpjgdaaGreatDoorM02
import Derived.Test.YthlmlmfebpjgdaaGreatDoorM04
import Derived.Test.YthlmlmfebpjgdaaGreatDoorM07
import Derived.Test.YthlmlmfebpjgdaaGreatDoorM08
import Derived.Deep.DeepCutAuto
set_option linter.unusedSimpArgs false
set_option linter.unusedVariables false
set_option maxHeartbeats 12800000
namespace Go.Proofs.YthlmlmfebpjgdaaGreatDoor
section
open Go.RowKit
def dvA(i1 j2:Int):Int × Rat × Bool:=if 0<i1/\j2<M then (0,fl i1 / fl j2,false) else (0,0,true)
def dvB(j1 i2:Int):Int × Rat × Bool:=if j1<M/\0<i2 then (0,fl j1 / fl i2,false) else (1,0,true)
def FD(i1 j1 i2 j2:Int)(i j:Int):Int × Int:=
 if j1<=0\/j2<=0 then ((M:Int),-(M:Int)) else pf (dvA i1 j2).1 (dvA i1 j2).2.1 (dvA i1 j2).2.2 (dvB j1 i2).1 (dvB j1 i2).2.1 (dvB j1 i2).2.2 i j
def dvs(i1 j1 i2 j2:Int)(i j:Int):Int × Int:=
 if j1<=0\/j2<=0 then ((M:Int),-(M:Int)) else
  ctO true i j (if 0<i1 then ov (es i1) (ex i1) j2 else (0,0)).1 (if 0<i1 then ov (es i1) (ex i1) j2 else (0,0)).2 (if 0<i2 then ov (es j1) (ex j1) i2 else ((M:Int),(M:Int))).1 (if 0<i2 then ov (es j1) (ex j1) i2 else ((M:Int),(M:Int))).2
theorem dvA_kind{i1 j2:Int}(h2:0<j2):(dvA i1 j2).1=0/\((dvA i1 j2).2.1=0/\(dvA i1 j2).2.2=true\/0<(dvA i1 j2).2.1/\(dvA i1 j2).2.2=false/\0<i1/\j2<M/\(dvA i1 j2).2.1=fl i1 / fl j2):=by
 unfold dvA
 by_cases h:0<i1/\j2<M
 ·rw [if_pos h];exact⟨rfl,.inr ⟨div_pos' (fl_pos h.1) (fl_pos h2),rfl,h.1,h.2,rfl⟩⟩
 ·rw [if_neg h];exact⟨rfl,.inl ⟨rfl,rfl⟩⟩
theorem dvB_kind{j1 i2:Int}(h1:0<j1):((dvB j1 i2).1=1/\(dvB j1 i2).2.1=0/\(dvB j1 i2).2.2=true)\/((dvB j1 i2).1=0/\0<(dvB j1 i2).2.1/\(dvB j1 i2).2.2=false/\0<i2/\j1<M/\(dvB j1 i2).2.1=fl j1 / fl i2):=by
 unfold dvB
 by_cases h:j1<M/\0<i2
 ·rw [if_pos h];exact .inr ⟨rfl,div_pos' (fl_pos h1) (fl_pos h.2),rfl,h.2,h.1,rfl⟩
 ·rw [if_neg h];exact .inl ⟨rfl,rfl,rfl⟩
theorem dv_le{i1 j1 i2 j2:Int}(h1:i1<=j1)(h2:i2<=j2)(p1:0<j1)(p2:0<j2):dn (dvA i1 j2).1 (dvA i1 j2).2.1<=up (dvB j1 i2).1 (dvB j1 i2).2.1:=by
 have hM:=M_val;obtain⟨a0,a⟩:=dvA_kind (i1:=i1) p2
 rcases dvB_kind (i2:=i2) p1 with ⟨b0,-,-⟩ | ⟨b0,b1,b2,b3,b4,b5⟩
 ·have:=dn_lt (s:=(dvA i1 j2).1) (x:=(dvA i1 j2).2.1) (.inl a0);unfold up;rw [b0,if_neg (by omega)];omega
 ·rw [a0,b0,dn_zero,up_zero];refine Int.le_trans (rndI_le _) (rndI_mono (.inr rfl) ?_)
  rcases a with ⟨a1,-⟩ | ⟨a1,a2,a3,a4,a5⟩
  ·rw [a1];grind
  ·rw [a5,b5];have f1:=fl_pos p2;have f2:=fl_pos b3;refine div_le_div f1 f2 ?_;have e1:fl i1<=fl j1:=fl_le_iff.2 h1;have e2:fl i2<=fl j2:=fl_le_iff.2 h2;have m1:fl i1*fl i2<=fl j1*fl i2:=(mul_le_pos f2).2 e1;have m2:fl i2*fl j1<=fl j2*fl j1:=(mul_le_pos (fl_pos p1)).2 e2
   grind
theorem FD_iv{i1 j1 i2 j2:Int}(h1:i1<=j1)(h2:i2<=j2)(i j:Int)(hx:Iv i j):Iv (FD i1 j1 i2 j2 i j).1 (FD i1 j1 i2 j2 i j).2:=by
 unfold FD
 by_cases h:j1<=0\/j2<=0
 ·rw [if_pos h];exact Iv.none
 ·rw [if_neg h];refine pf_iv (.inl (dvA_kind (i1:=i1) (show 0<j2 by omega)).1) ?_ (dv_le h1 h2 (by omega) (by omega)) i j hx
  rcases dvB_kind (j1:=j1) (i2:=i2) (by omega) with k | k<;>omega
theorem dvs_FD{i1 j1 i2 j2 i j:Int}(h1:Ne i1 j1)(h2:Ne i2 j2)(hx:Ne i j):dvs i1 j1 i2 j2 i j=FD i1 j1 i2 j2 i j:=by
 have hM:=M_val;unfold Ne at *;unfold dvs FD
 by_cases h:j1<=0\/j2<=0
 ·rw [if_pos h,if_pos h]
 ·rw [if_neg h,if_neg h];have z1:=rndI_zero (d:=-1) (.inl rfl);have z2:=rndI_zero (d:=1) (.inr rfl)
  have eA:(if 0<i1 then ov (es i1) (ex i1) j2 else (0,0))=(dn (dvA i1 j2).1 (dvA i1 j2).2.1,up (dvA i1 j2).1 (dvA i1 j2).2.1):=by
   by_cases p:0<i1
   ·rw [if_pos p,es_mid (by omega) (by omega),ex_mid (by omega) (by omega)];unfold ov;rw [if_neg (by omega)]
    by_cases q:j2<M
    ·have d:dvA i1 j2=(0,fl i1 / fl j2,false):=if_pos ⟨p,q⟩;rw [d,if_neg (by have:=fl_pos p;rintro (h | h);grind;omega)];rfl
    ·have d:dvA i1 j2=(0,0,true):=if_neg (by omega);rw [d,if_pos (.inr (by omega)),dn_zero,up_zero,z1,z2]
   ·have d:dvA i1 j2=(0,0,true):=if_neg (by omega);rw [d,if_neg p,dn_zero,up_zero,z1,z2]
  have eB:(if 0<i2 then ov (es j1) (ex j1) i2 else ((M:Int),(M:Int)))=(dn (dvB j1 i2).1 (dvB j1 i2).2.1,up (dvB j1 i2).1 (dvB j1 i2).2.1):=by
   have u1:dn 1 0=M:=by unfold dn;rw [if_neg (by omega)];omega
   have u2:up 1 0=M:=by unfold up;rw [if_neg (by omega)];omega
   by_cases p:0<i2
   ·rw [if_pos p];unfold ov
    by_cases q:j1<M
    ·have d:dvB j1 i2=(0,fl j1 / fl i2,false):=if_pos ⟨q,p⟩;rw [d,es_mid (by omega) (by omega),ex_mid (by omega) (by omega),if_neg (by omega),if_neg (by have:=fl_pos (show 0<j1 by omega);rintro (h | h);grind;omega)];rfl
    ·have d:dvB j1 i2=(1,0,true):=if_neg (by omega)
     obtain rfl:j1=M:=by omega
     rw [d,es_max,if_pos (by omega),u1,u2,Int.one_mul]
   ·have d:dvB j1 i2=(1,0,true):=if_neg (by omega);rw [d,if_neg p,u1,u2]
  rw [eA,eB];obtain⟨a0,a⟩:=dvA_kind (i1:=i1) (show 0<j2 by omega);have b:=dvB_kind (j1:=j1) (i2:=i2) (by omega)
  obtain⟨⟨sa,xa,fa⟩,ea⟩:∃ z,dvA i1 j2=z:=⟨_,rfl⟩
  obtain⟨⟨sb,xb,fb⟩,eb⟩:∃ z,dvB j1 i2=z:=⟨_,rfl⟩
  rw [ea] at a0 a;rw [eb] at b;rw [ea,eb]
  dsimp only at *
  subst a0;refine ct_tail hx (.inl rfl) (by rcases b with b | b<;>omega) ?_ ?_ ?_ ?_
  ·intro h;rcases a with ⟨a1,-⟩ | ⟨-,a1,-⟩
   ·exact .inr ⟨rfl,a1⟩
   ·rw [a1] at h;cases h
  ·intro h;rcases b with ⟨b1,-,-⟩ | ⟨-,-,b1,-⟩
   ·exact .inl b1
   ·rw [b1] at h;cases h
  ·rw [dn_zero,up_zero]
   rcases a with ⟨a1,a2⟩ | ⟨a1,a2,-⟩
   ·rw [a1,a2,z1,z2];simp
   ·constructor
    ·rintro⟨-,-,h⟩;have:=rndI_pos a1;omega
    ·rintro⟨-,h,-⟩;exfalso;grind
  ·rcases b with ⟨b1,b2,b3⟩ | ⟨b1,b2,b3,-⟩
   ·rw [b1]
    constructor
    ·rintro⟨-,h,-⟩;unfold dn at h;rw [if_neg (by omega)] at h;omega
    ·rintro⟨h,-⟩;omega
   ·rw [b1,up_zero]
    constructor
    ·rintro⟨-,-,h⟩;have:=rndI_pos b2;omega
    ·rintro⟨-,h,-⟩;exfalso;grind
end
theorem q_od{s1 s2:Int}{x1 x2:Rat}{b1 b2:Int}(hs1:s1=0\/s1=-1)(hx1:s1≠0->x1=0)(hs2:s2=0\/s2=1)(hx2:s2≠0->x2=0)(hle:s1=0->s2=0->x1<=x2)(hb:b1<=b2)(h2:0<b2)(h3:b2<=M)(h1:b1<M):
  Od (qA s1 x1 b1 b2).1 (qA s1 x1 b1 b2).2.1 (qA s1 x1 b1 b2).2.2 (qB s2 x2 b1 b2).1 (qB s2 x2 b1 b2).2.1 (qB s2 x2 b1 b2).2.2:=by
 have hM:=M_val;have ka:=qA_kind hs1 hx1 hb h2 h3 h1;have kb:=qB_kind hs2 hx2 hb h2 h3 h1;have f2:=fl_pos h2;intro y1 y2
 rcases ka with ⟨a1,-,-,-⟩ | ⟨a1,a2,-,a4,a5⟩ | ⟨a1,a2,a3,a4⟩ | ⟨a1,a0,a3,a4,a5⟩
 ·omega
 all_goals rcases kb with ⟨c1,-,-,-⟩ | ⟨c1,c2,-,c4,c5⟩ | ⟨c1,c2,c3,c4⟩ | ⟨c1,c0,c3,c4,c5⟩
 all_goals first
  | omega
  | skip
 ·have p:=esx_pos hs1 a4;have q:=esx_lt hs2 c4;have:=hle p.1 q.1;exfalso;grind
 ·have p:=esx_pos hs1 a4;have q:=(esx_zero hx2).1 c4;have:=hle p.1 q.1;exfalso;grind
 ·have p:=esx_pos hs1 a4;have:=hle p.1 c3
  left
  rcases c5 with ⟨d1,d2,d3⟩ | ⟨d1,d2,d3⟩
  ·exfalso;grind
  ·rw [a2,d3];exact div_pos' d1 (fl_pos d2)
 ·have p:=(esx_zero hx1).1 a4;have q:=esx_lt hs2 c4;have:=hle p.1 q.1;exfalso;grind
 ·right
  rw [a2,c2];exact⟨rfl,a3,c3⟩
 ·have p:=(esx_zero hx1).1 a4;have:=hle p.1 c3
  left
  rcases c5 with ⟨d1,d2,d3⟩ | ⟨d1,d2,d3⟩
  ·exfalso;grind
  ·rw [a2,d3];exact div_pos' d1 (fl_pos d2)
 ·have q:=esx_lt hs2 c4;have:=hle a3 q.1
  left
  rcases a5 with ⟨d1,d2,d3⟩ | ⟨d1,d2,d3⟩
  ·exfalso;grind
  ·rw [c2,d3];exact div_neg' d1 (fl_pos d2)
 ·have q:=(esx_zero hx2).1 c4;have:=hle a3 q.1
  left
  rcases a5 with ⟨d1,d2,d3⟩ | ⟨d1,d2,d3⟩
  ·exfalso;grind
  ·rw [c2,d3];exact div_neg' d1 (fl_pos d2)
 ·have hh:=hle a3 c3;have fb:0<b1->fl b1<=fl b2:=fun _=>fl_le_iff.2 hb
  have le:(qA s1 x1 b1 b2).2.1<=(qB s2 x2 b1 b2).2.1:=by
   rcases a5 with ⟨d1,d2,d3⟩ | ⟨d1,d2,d3⟩
   ·rcases c5 with ⟨e1,e2,e3⟩ | ⟨e1,e2,e3⟩
    ·exfalso;grind
    ·rw [d3,e3];have f1:=fl_pos e2;refine div_le_div f2 f1 ?_;have m1:x1*fl b1<=x2*fl b1:=(mul_le_pos f1).2 hh;have m2:fl b1*x2<=fl b2*x2:=(mul_le_pos e1).2 (fb e2)
     grind
   ·have f1:=fl_pos d2
    rcases c5 with ⟨e1,e2,e3⟩ | ⟨e1,e2,e3⟩
    ·rw [d3,e3];refine div_le_div f1 f2 ?_;have m1:x1*fl b2<=x2*fl b2:=(mul_le_pos f2).2 hh;have m2:fl b1*(-x2)<=fl b2*(-x2):=(mul_le_pos (by grind)).2 (fb d2)
     grind
    ·rw [d3,e3];have:=div_neg' d1 f1;have:=div_pos' e1 f1
     grind
  by_cases e:(qA s1 x1 b1 b2).2.1=(qB s2 x2 b1 b2).2.1
  ·exact .inr ⟨e,a0,c0⟩
  ·exact .inl (by grind)
theorem Cl.PF{b1 b2 s1 s2:Int}{x1 x2:Rat}(k:NumOk s1 x1 s2 x2)(hb:Ne b1 b2):Cl (Go.Proofs.YthlmlmfebpjgdaaGreatDoor.PF b1 b2 s1 x1 s2 x2):=by
 by_cases h:b2<=0
 ·have e:Go.Proofs.YthlmlmfebpjgdaaGreatDoor.PF b1 b2 s1 x1 s2 x2=fun _ _=>((M:Int),-(M:Int)):=by funext i j;unfold Go.Proofs.YthlmlmfebpjgdaaGreatDoor.PF;rw [if_pos h]
  rw [e];exact Cl.none
 ·have e:Go.Proofs.YthlmlmfebpjgdaaGreatDoor.PF b1 b2 s1 x1 s2 x2=Go.Proofs.YthlmlmfebpjgdaaGreatDoor.pf (qA s1 x1 b1 b2).1 (qA s1 x1 b1 b2).2.1 (qA s1 x1 b1 b2).2.2 (qB s2 x2 b1 b2).1 (qB s2 x2 b1 b2).2.1 (qB s2 x2 b1 b2).2.2:=by funext i j;unfold Go.Proofs.YthlmlmfebpjgdaaGreatDoor.PF;rw [if_neg h]
  rw [e];unfold Ne at hb;refine Cl.pf ?_ ?_ (q_od k.a1 k.a2 k.b1 k.b2 k.le hb.2.1 (by omega) hb.2.2.1 hb.2.2.2.1)
  ·rcases qA_kind k.a1 k.a2 hb.2.1 (by omega) hb.2.2.1 hb.2.2.2.1 with k | k | k | k<;>omega
  ·rcases qB_kind k.b1 k.b2 hb.2.1 (by omega) hb.2.2.1 hb.2.2.2.1 with k | k | k | k<;>omega
theorem Cl.fa{b1 b2 s1 s2:Int}{x1 x2:Rat}(k:NumOk s1 x1 s2 x2)(hb:Ne b1 b2):Cl (Go.Proofs.YthlmlmfebpjgdaaGreatDoor.fa b1 b2 s1 x1 s2 x2):=by
 by_cases h:(b1<=0/\0<=b2)/\esx s1 x1<=0/\0<=esx s2 x2
 ·have e:Go.Proofs.YthlmlmfebpjgdaaGreatDoor.fa b1 b2 s1 x1 s2 x2=fun i j=>(i,j):=by funext i j;unfold Go.Proofs.YthlmlmfebpjgdaaGreatDoor.fa;rw [if_pos h]
  rw [e];exact Cl.id
 ·have e:Go.Proofs.YthlmlmfebpjgdaaGreatDoor.fa b1 b2 s1 x1 s2 x2=fun i j=>(min (Go.Proofs.YthlmlmfebpjgdaaGreatDoor.PF b1 b2 s1 x1 s2 x2 i j).1 (-(Go.Proofs.YthlmlmfebpjgdaaGreatDoor.PF (-b2) (-b1) s1 x1 s2 x2 (-j) (-i)).2),max (Go.Proofs.YthlmlmfebpjgdaaGreatDoor.PF b1 b2 s1 x1 s2 x2 i j).2 (-(Go.Proofs.YthlmlmfebpjgdaaGreatDoor.PF (-b2) (-b1) s1 x1 s2 x2 (-j) (-i)).1)):=by funext i j;unfold Go.Proofs.YthlmlmfebpjgdaaGreatDoor.fa;rw [if_neg h]
  rw [e]
  exact (Cl.PF k hb).hull (Cl.PF k hb.neg).ng
theorem dv_od{i1 j1 i2 j2:Int}(h1:i1<=j1)(h2:i2<=j2)(p1:0<j1)(p2:0<j2):Od (dvA i1 j2).1 (dvA i1 j2).2.1 (dvA i1 j2).2.2 (dvB j1 i2).1 (dvB j1 i2).2.1 (dvB j1 i2).2.2:=by
 have hM:=M_val;intro y1 y2;obtain⟨a0,a⟩:=dvA_kind (i1:=i1) p2
 rcases dvB_kind (i2:=i2) p1 with ⟨b0,-,-⟩ | ⟨b0,b1,b2,b3,b4,b5⟩
 ·omega
 ·rcases a with ⟨a1,-⟩ | ⟨a1,a2,a3,a4,a5⟩
  ·left;rw [a1];exact b1
  ·have le:(dvA i1 j2).2.1<=(dvB j1 i2).2.1:=by
    rw [a5,b5];have f1:=fl_pos p2;have f2:=fl_pos b3;refine div_le_div f1 f2 ?_;have e1:fl i1<=fl j1:=fl_le_iff.2 h1;have e2:fl i2<=fl j2:=fl_le_iff.2 h2;have m1:fl i1*fl i2<=fl j1*fl i2:=(mul_le_pos f2).2 e1;have m2:fl i2*fl j1<=fl j2*fl j1:=(mul_le_pos (fl_pos p1)).2 e2
    grind
   by_cases e:(dvA i1 j2).2.1=(dvB j1 i2).2.1
   ·exact .inr ⟨e,a2,b2⟩
   ·exact .inl (by grind)
theorem Cl.FD{i1 j1 i2 j2:Int}(h1:i1<=j1)(h2:i2<=j2):Cl (Go.Proofs.YthlmlmfebpjgdaaGreatDoor.FD i1 j1 i2 j2):=by
 by_cases h:j1<=0\/j2<=0
 ·have e:Go.Proofs.YthlmlmfebpjgdaaGreatDoor.FD i1 j1 i2 j2=fun _ _=>((M:Int),-(M:Int)):=by funext i j;unfold Go.Proofs.YthlmlmfebpjgdaaGreatDoor.FD;rw [if_pos h]
  rw [e];exact Cl.none
 ·have e:Go.Proofs.YthlmlmfebpjgdaaGreatDoor.FD i1 j1 i2 j2=Go.Proofs.YthlmlmfebpjgdaaGreatDoor.pf (dvA i1 j2).1 (dvA i1 j2).2.1 (dvA i1 j2).2.2 (dvB j1 i2).1 (dvB j1 i2).2.1 (dvB j1 i2).2.2:=by funext i j;unfold Go.Proofs.YthlmlmfebpjgdaaGreatDoor.FD;rw [if_neg h]
  rw [e];refine Cl.pf (.inl (dvA_kind (i1:=i1) (show 0<j2 by omega)).1) ?_ (dv_od h1 h2 (by omega) (by omega))
  rcases dvB_kind (j1:=j1) (i2:=i2) (by omega) with k | k<;>omega
section
open Go.RowKit
def In(i j:Int)(v:Rat):Prop:=i<=rndI (-1) v/\rndI 1 v<=j
theorem In.neg{i j:Int}{v:Rat}(h:In i j v):In (-j) (-i) (-v):=by
 have a:=rndI_neg (d:=1) (.inr rfl) v;have b:=rndI_neg (d:=-1) (.inl rfl) v;rw [show (-(1:Int))=-1 from rfl] at a;rw [show (-(-1:Int))=1 from rfl] at b;obtain⟨h1,h2⟩:=h
 exact⟨by omega,by omega⟩
theorem In.ne{i j:Int}{v:Rat}(h:In i j v)(hi:-(M:Int)<=i)(hj:j<=M):Ne i j:=by
 have a:=rndI_down v;have b:=rndI_up v;have c:=rndI_le v;obtain⟨h1,h2⟩:=h;unfold Ne
 omega
theorem In.nonempty{i j:Int}{v:Rat}(h:In i j v):i<=j:=by
 have c:=rndI_le v;obtain⟨h1,h2⟩:=h
 omega
theorem In.lo{i j:Int}{v:Rat}(h:In i j v)(h1:-(M:Int)<i):fl i<=v:=by
 have a:=rndI_down v
 exact (a.2.2 i h1 (by have:=h.1;omega)).1 h.1
theorem In.hi{i j:Int}{v:Rat}(h:In i j v)(h1:j<M):v<=fl j:=by
 have a:=rndI_up v
 exact (a.2.2 j (by have:=h.2;omega) h1).1 h.2
theorem pf_in{s1:Int}{x1:Rat}{o1:Bool}{s2:Int}{x2:Rat}{o2:Bool}{i j:Int}{v:Rat}(hs1:s1=0\/s1=-1)(hs2:s2=0\/s2=1)(hi:-(M:Int)<=i)(hj:j<=M)(h:In i j v)
  (l1:s1=0->x1<=v)(l2:s1=0->o1=true->x1≠v)(u1:s2=0->v<=x2)(u2:s2=0->o2=true->x2≠v):In (pf s1 x1 o1 s2 x2 o2 i j).1 (pf s1 x1 o1 s2 x2 o2 i j).2 v:=by
 have hM:=M_val;have hne:=h.ne hi hj;unfold Ne at hne;unfold pf;rw [if_neg (by omega)];unfold wg;have a:=rndI_down v;have b:=rndI_up v;have d1:s1=0->rndI (-1) x1<=rndI (-1) v:=fun e=>rndI_mono (.inl rfl) (l1 e);have d2:s1=0->rndI 1 x1<=rndI 1 v:=fun e=>rndI_mono (.inr rfl) (l1 e);have d3:s2=0->rndI (-1) v<=rndI (-1) x2:=fun e=>rndI_mono (.inl rfl) (u1 e);have d4:s2=0->rndI 1 v<=rndI 1 x2:=fun e=>rndI_mono (.inr rfl) (u1 e)
 have c1:¬ 0<ec (es i) (ex i) s2 x2:=by
  rw [ec_hi (by omega) hs2];unfold dn
  rcases hs2 with e | e
  ·rw [if_pos e];have:=d3 e;have:=h.1;omega
  ·rw [if_neg (by omega),e];omega
 have c2:¬ ec (es j) (ex j) s1 x1<0:=by
  rw [ec_lo (by omega) hs1];unfold up
  rcases hs1 with e | e
  ·rw [if_pos e];have:=d2 e;have:=h.2;omega
  ·rw [if_neg (by omega),e];omega
 have c3:¬ (ec (es i) (ex i) s2 x2=0/\o2=true):=by
  rintro⟨e,ho⟩
  rcases hs2 with z | z
  ·subst z;have k:=u2 rfl ho;have l:=u1 rfl
   by_cases hm:i=-(M:Int)
   ·rw [hm,es_min] at e;unfold ec at e;rw [if_neg (by omega),if_pos (by omega)] at e
    omega
   ·rw [es_mid (by omega) (by omega),ec_zero,ex_mid (by omega) (by omega)] at e;have q:=h.lo (by omega);unfold rc at e
    split at e
    ·omega
    ·split at e
     ·omega
     ·grind
  ·exact ec_hi_open (by omega) z e
 have c4:¬ (ec (es j) (ex j) s1 x1=0/\o1=true):=by
  rintro⟨e,ho⟩
  rcases hs1 with z | z
  ·subst z;have k:=l2 rfl ho;have l:=l1 rfl
   by_cases hm:j=M
   ·rw [hm,es_max] at e;unfold ec at e;rw [if_neg (by omega),if_neg (by omega)] at e
    omega
   ·rw [es_mid (by omega) (by omega),ec_zero,ex_mid (by omega) (by omega)] at e;have q:=h.hi (by omega);unfold rc at e
    split at e
    ·omega
    ·split at e
     ·omega
     ·grind
  ·exact ec_lo_open (by omega) z e
 rw [if_neg (by rintro (z | z | z | z);exact c1 z;exact c3 z;exact c2 z;exact c4 z),ec_lo_at (by omega) hs1,ec_hi_at (by omega) hs2]
 have e1:dn s1 x1<=rndI (-1) v:=by
  unfold dn
  rcases hs1 with e | e
  ·rw [if_pos e];exact d1 e
  ·rw [if_neg (by omega),e];omega
 have e2:rndI 1 v<=up s2 x2:=by
  unfold up
  rcases hs2 with e | e
  ·rw [if_pos e];exact d4 e
  ·rw [if_neg (by omega),e];omega
 have h1:=h.1;have h2:=h.2
 exact⟨by dsimp only;omega,by dsimp only;omega⟩
theorem qA_lo{s:Int}{x:Rat}{b1 b2:Int}{v q:Rat}(hs:s=0\/s=-1)(hx:s≠0->x=0)(hb:Ne b1 b2)(hq:In b1 b2 q)(q0:0<q)(hv:s=0->x<=v*q):
  ((qA s x b1 b2).1=0\/(qA s x b1 b2).1=-1)/\((qA s x b1 b2).1=0->(qA s x b1 b2).2.1<=v)/\((qA s x b1 b2).1=0->(qA s x b1 b2).2.2=true->(qA s x b1 b2).2.1≠v):=by
 have hM:=M_val;unfold Ne at hb
 have sx:esx s x=if s=0 then rsg x else s:=by unfold esx;by_cases h:s=0;rw [if_neg (by omega),if_pos h];rw [if_pos h,if_neg h]
 have pv:0<=v*q->0<=v:=fun h=>by
  by_cases c:0<=v
  ·exact c
  ·exfalso
   have:v*q<0*q:=(Rat.mul_lt_mul_right q0).2 (by grind)
   grind
 have b2p:0<b2:=by
  by_cases c:b2=M
  ·omega
  ·have:=hq.hi (by omega)
   have k:¬ b2<=0:=fun h=>by have:=fl_le_iff.2 h;rw [fl_zero] at this;grind
   omega
 unfold qA
 by_cases c1:0<esx s x
 ·rw [if_pos c1]
  have hs0:s=0:=by rcases hs with h | h;exact h;rw [sx,if_neg (by omega)] at c1;omega
  rw [sx,if_pos hs0] at c1
  have xp:0<x:=by
   unfold rsg at c1
   split at c1
   ·omega
   ·split at c1
    ·omega
    ·grind
  have h1:=hv hs0
  have vp:0<v:=by
   have h2:=pv (by grind)
   by_cases z:v=0
   ·exfalso;subst z;rw [Rat.zero_mul] at h1;grind
   ·grind
  unfold rt;rw [if_neg (by rw [sx,if_pos hs0];omega)]
  by_cases c:b2=M
  ·rw [if_pos (by rw [c,es_max];omega)]
   exact⟨.inl rfl,fun _=>by dsimp only;grind,fun _ _=>by dsimp only;grind⟩
  ·have yp:0<fl b2:=fl_pos b2p;rw [if_neg (by rw [es_mid (by omega) (by omega)];omega),ex_mid (by omega) (by omega),if_neg (by rintro (h | h);exact h hs0;grind)];refine⟨.inl rfl,fun _=>?_,fun _ h=>by cases h⟩
   dsimp only
   have h3:=hq.hi (by omega);have h4:v*q<=v*fl b2:=Rat.mul_le_mul_of_nonneg_left h3 (by grind);rw [<- mul_le_pos yp,Rat.div_mul_cancel (by grind)]
   grind
 ·rw [if_neg c1];unfold rt
  by_cases c2:esx s x=0
  ·rw [if_pos c2]
   have hs0:s=0:=by rcases hs with h | h;exact h;rw [sx,if_neg (by omega)] at c2;omega
   rw [sx,if_pos hs0] at c2;have x0:=rsg_zero_iff.1 c2;have h1:=hv hs0
   exact⟨.inl rfl,fun _=>by dsimp only;exact pv (by grind),fun _ h=>by cases h⟩
  ·have hm:max b1 0<M:=by omega
   rw [if_neg c2,if_neg (by rw [es_mid (by omega) (by omega)];omega),ex_mid (by omega) (by omega)]
   have c3:esx s x=-1:=by
    rcases hs with h | h
    ·rw [sx,if_pos h] at c1 c2 ⊢;unfold rsg at *
     split at c2
     ·omega
     ·split at c2
      ·rename_i z1 z2;rw [if_neg z1,if_pos z2]
      ·rename_i z1 z2;rw [if_neg z1,if_neg z2] at c1;omega
    ·rw [sx,if_neg (by omega),h]
   by_cases c:s≠0\/fl (max b1 0)=0
   ·rw [if_pos c]
    exact⟨.inr c3,fun h=>by dsimp only at h;omega,fun h=>by dsimp only at h;omega⟩
   ·rw [if_neg c]
    have hs0:s=0:=by rcases Decidable.em (s=0) with h | h;exact h;exact absurd (.inl h) c
    refine⟨.inl rfl,fun _=>?_,fun _ h=>by cases h⟩
    dsimp only
    have hb1:0<b1:=by
     by_cases z:0<b1
     ·exact z
     ·exfalso;apply c;right;rw [show max b1 0=0 from by omega,fl_zero]
    rw [show max b1 0=b1 from by omega];have yp:0<fl b1:=fl_pos hb1;have h3:=hq.lo (by omega);have h1:=hv hs0;rw [<- mul_le_pos yp,Rat.div_mul_cancel (by grind)];rw [sx,if_pos hs0] at c3
    have xn:x<0:=by
     unfold rsg at c3
     split at c3
     ·omega
     ·split at c3
      ·assumption
      ·omega
    by_cases z:0<=v
    ·have:=Rat.mul_nonneg z (show 0<=fl b1 by grind)
     grind
    ·have h5:(-v)*fl b1<=(-v)*q:=Rat.mul_le_mul_of_nonneg_left h3 (by grind)
     grind
theorem qB_hi{s:Int}{x:Rat}{b1 b2:Int}{v q:Rat}(hs:s=0\/s=1)(hx:s≠0->x=0)(hb:Ne b1 b2)(hq:In b1 b2 q)(q0:0<q)(hv:s=0->v*q<=x):
  ((qB s x b1 b2).1=0\/(qB s x b1 b2).1=1)/\((qB s x b1 b2).1=0->v<=(qB s x b1 b2).2.1)/\((qB s x b1 b2).1=0->(qB s x b1 b2).2.2=true->(qB s x b1 b2).2.1≠v):=by
 have k:=qA_lo (s:=-s) (x:=-x) (v:=-v) (by omega) (fun h=>by rw [hx (by omega)];grind) hb hq q0 (fun h=>by have:=hv (by omega);grind);rw [qB_neg]
 dsimp only
 refine⟨by omega,fun h=>?_,fun h ho e=>?_⟩
 ·have:=k.2.1 (by omega);grind
 ·exact k.2.2 (by omega) ho (by grind)
theorem PF_in{b1 b2 s1 s2 i j:Int}{x1 x2 v q:Rat}(k:NumOk s1 x1 s2 x2)(hb1:-(M:Int)<=b1)(hb2:b2<=M)(hi:-(M:Int)<=i)(hj:j<=M)(hq:In b1 b2 q)(q0:0<q)(h:In i j v)(hl:s1=0->x1<=v*q)(hu:s2=0->v*q<=x2):
  In (PF b1 b2 s1 x1 s2 x2 i j).1 (PF b1 b2 s1 x1 s2 x2 i j).2 v:=by
 have hb:=hq.ne hb1 hb2;have hM:=M_val;unfold PF
 have b2p:¬ b2<=0:=by
  intro h0;have:=hq.hi (by omega);have:=fl_le_iff.2 h0;rw [fl_zero] at this
  grind
 rw [if_neg b2p];have a:=qA_lo k.a1 k.a2 hb hq q0 hl;have b:=qB_hi k.b1 k.b2 hb hq q0 hu
 exact pf_in a.1 b.1 hi hj h a.2.1 a.2.2 b.2.1 b.2.2
theorem In.hull{a b c d:Int}{v:Rat}(h:In a b v\/In c d v):In (min a c) (max b d) v:=by
 rcases h with h | h
 ·exact⟨by have:=h.1;omega,by have:=h.2;omega⟩
 ·exact⟨by have:=h.1;omega,by have:=h.2;omega⟩
end
section
open Go.RowKit
attribute [local go_sem] run_store_float run_eqf
def com(i j:Int):Bool:=decide (i<=j/\-(M:Int)<i/\j<M)
theorem entiref(w:World):Rt 64 #[] (Zf 18442240474082181120 9218868437227405312) w:=by
 have H1:=Hd inf_pos;have H2:=Hd inf_neg;obtain⟨LB0,LR⟩:=bx1 w (Zv 0 0) 28;have LR0:=Hd (HasBlk.of (n:=2) LR.out rfl rfl);clear LR;have ba:=LB0.out;clear LB0 LR0 ba
 go_enter Tryz.func64,Tryz.ntmps64
 go_wp2_with fail;refine cy (H2.out _) ?_;go_wp2_with fail;refine cy (H1.out _) ?_;go_wp2;refine bodyPost_ret (v:=Zf 18442240474082181120 9218868437227405312) (by simp [results,Tryz.results64,go_sem]) rfl ?_
 exact have b:=(below_alloc w _);⟨rfl,b⟩
theorem common_none(p q:Nat)(w:World)(HR:∀ W,Rt 102 #[Zf p q] (Zf p q) W)(o:FloatKind.f64.format.order p q=some .gt):
  Rt 140 #[Zf p q] (.bool false) w:=by
 have KR:=Hd HR;clear HR;obtain⟨LB0,LG0_0⟩:=bx1 w (Zv p q) 28
 go_enter Tryz.func140,Tryz.ntmps140
 go_wp2_with fail;refine cx (KR.out _) fun w1 hb1=>?_;have LB1:=stB LB0 hb1 LB0.out.size;have LG0_1:=stG LG0_0 hb1;clear LB0 LG0_0;clear hb1 KR;obtain⟨q0_0,q0_1⟩:=LG0_1.out.c2;have f0:=LG0_1.out.frozen 0;have f1:=LG0_1.out.frozen 1
 go_upto_region 2 with fail
 clear f0 f1 q0_0 q0_1;have LB2:=Hd (below_sets (w0:=w) (show w.heap.size<=w.heap.size by omega) [.float .f64 p,.float .f64 q] 0 w1 LB1.out);have LG0_2:=Hd (show Blk (sets w1 w.heap.size 0 [.float .f64 p,.float .f64 q]) w.heap.size 28 (Zv p q) from by have hbs:=Blk.sets [.float .f64 p,.float .f64 q] 0 w1 _ LG0_1.out;simpa [laid] using hbs);clear LB1 LG0_1
 obtain⟨V1,hV1⟩:∃ X,(sets w1 w.heap.size 0 [.float .f64 p,.float .f64 q])=X:=⟨_,rfl⟩
 rw [hV1] at LB2 LG0_2;rw [show ((w1.setCell ⟨w.heap.size,0,none⟩ (.float .f64 p)).setCell ⟨w.heap.size,1,none⟩ (.float .f64 q))=V1 from hV1];clear hV1;obtain⟨q0_0,q0_1⟩:=LG0_2.out.c2;go_wp2
 go_ret
 exact⟨rfl,LB2.out⟩
theorem common_lo(p q:Nat)(w:World)(HR:∀ W,Rt 102 #[Zf p q] (Zf p q) W)(o:FloatKind.f64.format.order p q=some .lt\/FloatKind.f64.format.order p q=some .eq)(I1:∀ W,Calls Tryz.prog 161 #[.float .f64 p,.int .i64 0] W fun e w'=>e=.returned (.bool true)/\W=w'):
  Rt 140 #[Zf p q] (.bool false) w:=by
 have KR:=Hd HR;have K1:=Hd I1;clear HR I1
 rcases o with o | o
 all_goals
  obtain⟨LB0,LG0_0⟩:=bx1 w (Zv p q) 28
  go_enter Tryz.func140,Tryz.ntmps140
  go_wp2_with fail;refine cx (KR.out _) fun w1 hb1=>?_;have LB1:=stB LB0 hb1 LB0.out.size;have LG0_1:=stG LG0_0 hb1;clear LB0 LG0_0;clear hb1 KR;obtain⟨q0_0,q0_1⟩:=LG0_1.out.c2;have f0:=LG0_1.out.frozen 0;have f1:=LG0_1.out.frozen 1
  go_upto_region 2 with fail
  clear f0 f1 q0_0 q0_1;have LB2:=Hd (below_sets (w0:=w) (show w.heap.size<=w.heap.size by omega) [.float .f64 p,.float .f64 q] 0 w1 LB1.out);have LG0_2:=Hd (show Blk (sets w1 w.heap.size 0 [.float .f64 p,.float .f64 q]) w.heap.size 28 (Zv p q) from by have hbs:=Blk.sets [.float .f64 p,.float .f64 q] 0 w1 _ LG0_1.out;simpa [laid] using hbs);clear LB1 LG0_1
  obtain⟨V1,hV1⟩:∃ X,(sets w1 w.heap.size 0 [.float .f64 p,.float .f64 q])=X:=⟨_,rfl⟩
  rw [hV1] at LB2 LG0_2;rw [show ((w1.setCell ⟨w.heap.size,0,none⟩ (.float .f64 p)).setCell ⟨w.heap.size,1,none⟩ (.float .f64 q))=V1 from hV1];clear hV1;obtain⟨q0_0,q0_1⟩:=LG0_2.out.c2;go_wp2_with fail;refine cy (K1.out _) ?_;go_wp2
  go_ret
  exact⟨rfl,LB2.out⟩
theorem common_hi(p q:Nat)(w:World)(HR:∀ W,Rt 102 #[Zf p q] (Zf p q) W)(o:FloatKind.f64.format.order p q=some .lt\/FloatKind.f64.format.order p q=some .eq)(I1:∀ W,Calls Tryz.prog 161 #[.float .f64 p,.int .i64 0] W fun e w'=>e=.returned (.bool false)/\W=w')(I2:∀ W,Calls Tryz.prog 161 #[.float .f64 q,.int .i64 0] W fun e w'=>e=.returned (.bool true)/\W=w'):
  Rt 140 #[Zf p q] (.bool false) w:=by
 have KR:=Hd HR;have K1:=Hd I1;have K2:=Hd I2;clear HR I1 I2
 rcases o with o | o
 all_goals
  obtain⟨LB0,LG0_0⟩:=bx1 w (Zv p q) 28
  go_enter Tryz.func140,Tryz.ntmps140
  go_wp2_with fail;refine cx (KR.out _) fun w1 hb1=>?_;have LB1:=stB LB0 hb1 LB0.out.size;have LG0_1:=stG LG0_0 hb1;clear LB0 LG0_0;clear hb1 KR;obtain⟨q0_0,q0_1⟩:=LG0_1.out.c2;have f0:=LG0_1.out.frozen 0;have f1:=LG0_1.out.frozen 1
  go_upto_region 2 with fail
  clear f0 f1 q0_0 q0_1;have LB2:=Hd (below_sets (w0:=w) (show w.heap.size<=w.heap.size by omega) [.float .f64 p,.float .f64 q] 0 w1 LB1.out);have LG0_2:=Hd (show Blk (sets w1 w.heap.size 0 [.float .f64 p,.float .f64 q]) w.heap.size 28 (Zv p q) from by have hbs:=Blk.sets [.float .f64 p,.float .f64 q] 0 w1 _ LG0_1.out;simpa [laid] using hbs);clear LB1 LG0_1
  obtain⟨V1,hV1⟩:∃ X,(sets w1 w.heap.size 0 [.float .f64 p,.float .f64 q])=X:=⟨_,rfl⟩
  rw [hV1] at LB2 LG0_2;rw [show ((w1.setCell ⟨w.heap.size,0,none⟩ (.float .f64 p)).setCell ⟨w.heap.size,1,none⟩ (.float .f64 q))=V1 from hV1];clear hV1;obtain⟨q0_0,q0_1⟩:=LG0_2.out.c2;go_wp2_with fail;refine cy (K1.out _) ?_;go_wp2_with fail;refine cy (K2.out _) ?_;go_wp2
  go_ret
  exact⟨rfl,LB2.out⟩
theorem common_yes(p q:Nat)(w:World)(HR:∀ W,Rt 102 #[Zf p q] (Zf p q) W)(o:FloatKind.f64.format.order p q=some .lt\/FloatKind.f64.format.order p q=some .eq)(I1:∀ W,Calls Tryz.prog 161 #[.float .f64 p,.int .i64 0] W fun e w'=>e=.returned (.bool false)/\W=w')(I2:∀ W,Calls Tryz.prog 161 #[.float .f64 q,.int .i64 0] W fun e w'=>e=.returned (.bool false)/\W=w'):
  Rt 140 #[Zf p q] (.bool true) w:=by
 have KR:=Hd HR;have K1:=Hd I1;have K2:=Hd I2;clear HR I1 I2
 rcases o with o | o
 all_goals
  obtain⟨LB0,LG0_0⟩:=bx1 w (Zv p q) 28
  go_enter Tryz.func140,Tryz.ntmps140
  go_wp2_with fail;refine cx (KR.out _) fun w1 hb1=>?_;have LB1:=stB LB0 hb1 LB0.out.size;have LG0_1:=stG LG0_0 hb1;clear LB0 LG0_0;clear hb1 KR;obtain⟨q0_0,q0_1⟩:=LG0_1.out.c2;have f0:=LG0_1.out.frozen 0;have f1:=LG0_1.out.frozen 1
  go_upto_region 2 with fail
  clear f0 f1 q0_0 q0_1;have LB2:=Hd (below_sets (w0:=w) (show w.heap.size<=w.heap.size by omega) [.float .f64 p,.float .f64 q] 0 w1 LB1.out);have LG0_2:=Hd (show Blk (sets w1 w.heap.size 0 [.float .f64 p,.float .f64 q]) w.heap.size 28 (Zv p q) from by have hbs:=Blk.sets [.float .f64 p,.float .f64 q] 0 w1 _ LG0_1.out;simpa [laid] using hbs);clear LB1 LG0_1
  obtain⟨V1,hV1⟩:∃ X,(sets w1 w.heap.size 0 [.float .f64 p,.float .f64 q])=X:=⟨_,rfl⟩
  rw [hV1] at LB2 LG0_2;rw [show ((w1.setCell ⟨w.heap.size,0,none⟩ (.float .f64 p)).setCell ⟨w.heap.size,1,none⟩ (.float .f64 q))=V1 from hV1];clear hV1;obtain⟨q0_0,q0_1⟩:=LG0_2.out.c2;go_wp2_with fail;refine cy (K1.out _) ?_;go_wp2_with fail;refine cy (K2.out _) ?_;go_wp2
  go_ret
  exact⟨rfl,LB2.out⟩
theorem common_any(i j:Int)(w:World)(h:Iv i j):
  Rt 140 #[Zf (pat i) (pat j)] (.bool (com i j)) w:=by
 have hi:=h.lo;have hj:=h.hi;have HR:=fun W=>readf_idx i j W h;have I1:=fun W=>isinff (pat i) W (pat_lt hi.1 hi.2) (by rw [rung_pat hi.1 hi.2];omega);have I2:=fun W=>isinff (pat j) W (pat_lt hj.1 hj.2) (by rw [rung_pat hj.1 hj.2];omega);rw [rung_pat hi.1 hi.2] at I1;rw [rung_pat hj.1 hj.2] at I2;have hM:M=9218868437227405312:=rfl;unfold com
 by_cases h0:j<i
 ·rw [decide_eq_false (by omega)]
  exact common_none _ _ w HR (by rw [order_pat hi.1 hi.2 hj.1 hj.2,Int.compare_eq_gt.2 h0])
 ·have o:FloatKind.f64.format.order (pat i) (pat j)=some .lt\/FloatKind.f64.format.order (pat i) (pat j)=some .eq:=by
   rw [order_pat hi.1 hi.2 hj.1 hj.2]
   rcases Int.lt_trichotomy i j with h1 | h1 | h1
   ·exact .inl (by rw [Int.compare_eq_lt.2 h1])
   ·exact .inr (by rw [Int.compare_eq_eq.2 h1])
   ·omega
  unfold Iv at h
  by_cases c1:i=-(M:Int)
  ·rw [decide_eq_true (show i.natAbs=M by omega)] at I1;rw [decide_eq_false (by omega)]
   exact common_lo _ _ w HR o I1
  ·rw [decide_eq_false (show ¬ i.natAbs=M by omega)] at I1
   by_cases c2:j=M
   ·rw [decide_eq_true (show j.natAbs=M by omega)] at I2;rw [decide_eq_false (by omega)]
    exact common_hi _ _ w HR o I1 I2
   ·rw [decide_eq_false (show ¬ j.natAbs=M by omega)] at I2;rw [decide_eq_true (by omega)]
    exact common_yes _ _ w HR o I1 I2
end
section
open Go.RowKit
attribute [local go_sem] run_store_float
theorem ExI.setB{w:World}{s:Int}{g:Bool}{A:Option Addr}{n c:Nat}{E:Int}{x:Rat}(h:ExI w s g A n c E x){r:Nat}{t:TypeId}{cs:Array Value}(hb:Blk w r t cs)(hc:NoWd cs)(i:Nat)(vs:List Value):ExI (Proofs.YthlmlmfebpjgdaaGreatDoor.sets w r i vs) s g A n c E x:=
 h.keep fun _ hu=>hu.sets hb hc i vs
theorem ExI.setsE{w W':World}{s:Int}{g:Bool}{A:Option Addr}{n c:Nat}{E:Int}{x:Rat}(h:ExI w s g A n c E x){r:Nat}{t:TypeId}{cs:Array Value}{i:Nat}{vs:List Value}(hb:Blk w r t cs)(hc:NoWd cs)(e:Proofs.YthlmlmfebpjgdaaGreatDoor.sets w r i vs=W'):ExI W' s g A n c E x:=e ▸ h.setB hb hc i vs
set_option maxRecDepth 8000 in
theorem mulpair_none(b1 b2 c1 c2 P1 Q1 P2 Q2:Nat)(d1 d2:Bool)(w:World)(t1:∀ W,Rt 102 #[Zf b1 b2] (Zf P1 Q1) W)(m1:Em d1 P1 Q1)(t2:∀ W,Rt 102 #[Zf c1 c2] (Zf P2 Q2) W)(m2:Em d2 P2 Q2)(hnn:(d1 || d2)=true):
  Rt 38 #[Zf b1 b2,Zf c1 c2] (.tuple #[Zf 9218868437227405312 18442240474082181120,Zf 9218868437227405312 18442240474082181120]) w:=by
 have HE:=Hd emptyf;have HRD:=readL42 w (Zv 0 0) 28 (Zv 0 0) 28 t1 m1 t2 m2 hnn;clear t1 m1 t2 m2 hnn
 go_enter Tryz.func38,Tryz.ntmps38
 go_wp2_with fail;refine HRD.out.mono ?_;rintro e wk ⟨rfl,hl⟩;have LL:=Hd hl;clear hl HRD;go_wp2_with fail;refine cx (HE.out _) fun wk hb=>?_;replace LL:=stL LL hb;clear hb;go_wp2_with fail;refine cx (HE.out _) fun wk hb=>?_;replace LL:=stL LL hb;clear hb;replace LL:=Hd (LL.out.loose2 rfl);replace LL:=Hd (LL.out.loose2 rfl);obtain⟨ha4_0,hf4_0,ha4_1,hf4_1⟩:=(LL.out.has 1 rfl).sf2;obtain⟨ha5_0,hf5_0,ha5_1,hf5_1⟩:=(LL.out.has 0 rfl).sf2;have LF:=Hd ((LL.out.swap.write [.float .f64 9218868437227405312,.float .f64 18442240474082181120] rfl (by omega) (by simp<;>omega) (by simp<;>omega)).write [.float .f64 9218868437227405312,.float .f64 18442240474082181120] rfl (by omega) (by simp<;>omega) (by simp<;>omega));obtain⟨hk4_0,hk4_1⟩:=(LF.out.blk 2 rfl).c2;obtain⟨hk5_0,hk5_1⟩:=(LF.out.blk 3 rfl).c2
 simp [sets] at hk4_0 hk4_1 hk5_0 hk5_1
 clear LL;go_wp2;refine bodyPost_ret (v:=.tuple #[Zf 9218868437227405312 18442240474082181120,Zf 9218868437227405312 18442240474082181120]) (by simp [results,Tryz.results38,go_sem,hk4_0,hk4_1,hk5_0,hk5_1]) rfl ?_
 exact⟨rfl,LF.out.b⟩
set_option maxRecDepth 8000 in
theorem mulpair_one(b1 b2 c1 c2 P1 Q1 P2 Q2 r1 r2:Nat)(d1 d2:Bool)(a1 a2:Ordering)(hs sp:Bool)(w:World)(t1:∀ W,Rt 102 #[Zf b1 b2] (Zf P1 Q1) W)(m1:Em d1 P1 Q1)(t2:∀ W,Rt 102 #[Zf c1 c2] (Zf P2 Q2) W)(m2:Em d2 P2 Q2)(hnn:(d1 || d2)=false)
  (o1:FloatKind.f64.format.order P1 0=some a1)(o2:FloatKind.f64.format.order Q1 0=some a2)
  (hh:∀ W,Rt 87 #[Zf P2 Q2] (.bool hs) W)(hsp:(a1 == .lt && a2 == .gt && !hs)=false)
  (hm:∀ W,Rt 25 #[Zf P1 Q1,Zf P2 Q2,Zf 18442240474082181120 9218868437227405312] (Zf r1 r2) W):
  Rt 38 #[Zf b1 b2,Zf c1 c2] (.tuple #[Zf r1 r2,Zf 9218868437227405312 18442240474082181120]) w:=by
 have O1:=Hd o1;have O2:=Hd o2;have HH:=Hd hh;have HSP:=Hd hsp;have HM:=Hd hm;have HN:=Hd entiref;have HE:=Hd emptyf;clear o1 o2 hh hsp hm;have HRD:=readL42 w (Zv 0 0) 28 (Zv 0 0) 28 t1 m1 t2 m2 hnn;clear t1 m1 t2 m2 hnn
 go_enter Tryz.func38,Tryz.ntmps38
 go_wp2_with fail;refine HRD.out.mono ?_;rintro e wk ⟨rfl,hl⟩;have LL:=Hd hl;clear hl HRD
 go_upto_region 3 with fail
 go_cut [24] (fun s24 wx=>s24=.bool false/\Lies w wx [(w.heap.size,28,(Zv P1 Q1)),((w.heap.size+1),28,(Zv P2 Q2)),((w.heap.size+2),28,(Zv 0 0)),((w.heap.size+3),28,(Zv 0 0))] [])
 case first=>
  have hsp:=HSP.out;have o1:=O1.out;have o2:=O2.out;clear O1 O2 HSP
  cases a1
  ·skip
   cases a2
   ·skip;obtain⟨q1_0,q1_1⟩:=(LL.out.blk 0 rfl).c2;go_wp2_with fail
    go_meet
    case rel=>exact⟨by rw [<- hsp];try rfl,LL.out⟩
   ·skip;obtain⟨q1_0,q1_1⟩:=(LL.out.blk 0 rfl).c2;go_wp2_with fail
    go_meet
    case rel=>exact⟨by rw [<- hsp];try rfl,LL.out⟩
   ·skip;obtain⟨q1_0,q1_1⟩:=(LL.out.blk 0 rfl).c2;obtain⟨q2_0,q2_1⟩:=(LL.out.blk 1 rfl).c2;go_wp2_with fail;refine cx (HH.out _) fun wk hb=>?_;replace LL:=stL LL hb;clear hb q1_0 q1_1 q2_0 q2_1;go_wp2_with fail
    go_meet
    case rel=>exact⟨by rw [<- hsp];try rfl,LL.out⟩
  ·skip;obtain⟨q1_0,q1_1⟩:=(LL.out.blk 0 rfl).c2;go_wp2_with fail
   go_meet
   case rel=>exact⟨by rw [<- hsp];try rfl,LL.out⟩
  ·skip;obtain⟨q1_0,q1_1⟩:=(LL.out.blk 0 rfl).c2;go_wp2_with fail
   go_meet
   case rel=>exact⟨by rw [<- hsp];try rfl,LL.out⟩
 case rest=>
 obtain⟨rfl,hcl⟩:=hcut;rename World=>wx;clear LL HSP O1 O2 HH;have LL:=Hd hcl;clear hcl;go_wp2_with fail;replace LL:=Hd (LL.out.loose2 rfl);replace LL:=Hd (LL.out.loose2 rfl);refine regL LL (fun hHeld=>?_);clear LL;generalize World.drew _=wk at hHeld  ⊢;refine tkb 0 (fun _ h=>(h.blk 0 rfl).c2) ?_;refine tkb 1 (fun _ h=>(h.blk 1 rfl).c2) ?_;refine rdy 2 fun KK hKK=>?_;go_simp;refine cs (HN.out _) ?_;clear hKK KK hHeld;intro wk hb1 hHeld;clear hb1;refine rdy 3 fun KK hKK=>?_;go_simp;refine cs (HM.out _) ?_;clear hKK KK hHeld;intro wk hb2 hHeld;clear hb2;refine rdy 4 fun KK hKK=>?_;go_simp;refine cs (HE.out _) ?_;clear hKK KK hHeld;intro wk hb3 hHeld;clear hb3;refine rdy 5 fun KK hKK=>?_;obtain⟨ha0,hf0,ha1,hf1⟩:=(hHeld.has 1 rfl).sf2;go_simp;have HS_1:=(hHeld.has 1 rfl).laid [.float .f64 r1,.float .f64 r2] rfl;refine hKK.out _ _ (hHeld.over 1 rfl [.float .f64 r1,.float .f64 r2] rfl rfl (by first | omega | exact hHeld.le_of 1 rfl) (by simp<;>omega) (by simp<;>omega)) (fun _=>?_);clear hKK KK hHeld;rename_i hHeld;(try simp only [Act.put,lay])
 replace hHeld:=(show Lies _ (sets wk (w.heap.size+2) 0 [.float .f64 r1,.float .f64 r2]) _ _ from hHeld)
 obtain⟨wk,hwn⟩:∃ X,sets wk (w.heap.size+2) 0 [.float .f64 r1,.float .f64 r2]=X:=⟨_,rfl⟩
 rw [hwn] at hHeld  HS_1
 simp only [sets] at hwn
 rw [hwn];clear hwn;refine rdy 6 fun KK hKK=>?_;obtain⟨ha0,hf0,ha1,hf1⟩:=(hHeld.has 0 rfl).sf2;go_simp;have HS_0:=(hHeld.has 0 rfl).laid [.float .f64 9218868437227405312,.float .f64 18442240474082181120] rfl;refine hKK.out _ _ (hHeld.over 0 rfl [.float .f64 9218868437227405312,.float .f64 18442240474082181120] rfl rfl (by first | omega | exact hHeld.le_of 0 rfl) (by simp<;>omega) (by simp<;>omega)) (fun _=>?_);clear hKK KK hHeld;rename_i hHeld;(try simp only [Act.put,lay]);replace HS_1:=HS_1.other (r:=(w.heap.size+3)) (by omega) 0 [.float .f64 9218868437227405312,.float .f64 18442240474082181120];refine wpAnyH_done (by kernel_rfl) ?_ _;have LB:=Hd hHeld.b;clear hHeld;obtain⟨hk4_0,hk4_1⟩:=HS_1.c2;clear HS_1;obtain⟨hk5_0,hk5_1⟩:=HS_0.c2;clear HS_0
 simp [sets] at hk4_0 hk4_1 hk5_0 hk5_1
 go_wp2;refine bodyPost_ret (v:=.tuple #[Zf r1 r2,Zf 9218868437227405312 18442240474082181120]) (by simp [results,Tryz.results38,go_sem,hk4_0,hk4_1,hk5_0,hk5_1]) rfl ?_
 exact⟨rfl,LB.out⟩
set_option maxRecDepth 8000 in
theorem mulpair_split(b1 b2 c1 c2 P1 Q1 P2 Q2 y1 y2 v1 v2 l1 l2 u1 u2 r1 r2 r3 r4:Nat)(s1 s2:Int)(x1 x2:Rat)(a3:Ordering)(d1 d2:Bool)(a1 a2:Ordering)(hs sp:Bool)(w:World)(t1:∀ W,Rt 102 #[Zf b1 b2] (Zf P1 Q1) W)(m1:Em d1 P1 Q1)(t2:∀ W,Rt 102 #[Zf c1 c2] (Zf P2 Q2) W)(m2:Em d2 P2 Q2)(hnn:(d1 || d2)=false)
  (o1:FloatKind.f64.format.order P1 0=some a1)(o2:FloatKind.f64.format.order Q1 0=some a2)
  (hh:∀ W,Rt 87 #[Zf P2 Q2] (.bool hs) W)(hsp:(a1 == .lt && a2 == .gt && !hs)=true)(o3:FloatKind.f64.format.order Q2 0=some a3)(h3:(a3=.lt/\r1=u1/\r2=u2/\r3=l1/\r4=l2)\/((a3=.eq\/a3=.gt)/\r1=l1/\r2=l2/\r3=u1/\r4=u2))
  (hp1:∀ W,Calls Tryz.prog 100 #[.float .f64 P2] W (NewExI W s1 x1))(hp2:∀ W,Calls Tryz.prog 100 #[.float .f64 Q2] W (NewExI W s2 x2))
  (hm1:∀ W,Rt 85 #[Zf P1 Q1] (Zf y1 y2) W)(hq1:∀ W (g1:Bool) (A1:Option Addr) (n1 k1:Nat) (E1:Int) (g2:Bool) (A2:Option Addr) (n2 k2:Nat) (E2:Int),ExI W s1 g1 A1 n1 k1 E1 x1->ExI W s2 g2 A2 n2 k2 E2 x2->Rt 101 #[Zf y1 y2,.agg #[.int .i64 s1,.bool g1,.slice A1 n1 k1,.int .i64 E1],.agg #[.int .i64 s2,.bool g2,.slice A2 n2 k2,.int .i64 E2],Zf 18442240474082181120 9218868437227405312] (Zf v1 v2) W)(hm2:∀ W,Rt 85 #[Zf v1 v2] (Zf l1 l2) W)(hq2:∀ W (g1:Bool) (A1:Option Addr) (n1 k1:Nat) (E1:Int) (g2:Bool) (A2:Option Addr) (n2 k2:Nat) (E2:Int),ExI W s1 g1 A1 n1 k1 E1 x1->ExI W s2 g2 A2 n2 k2 E2 x2->Rt 101 #[Zf P1 Q1,.agg #[.int .i64 s1,.bool g1,.slice A1 n1 k1,.int .i64 E1],.agg #[.int .i64 s2,.bool g2,.slice A2 n2 k2,.int .i64 E2],Zf 18442240474082181120 9218868437227405312] (Zf u1 u2) W):
  Rt 38 #[Zf b1 b2,Zf c1 c2] (.tuple #[Zf r1 r2,Zf r3 r4]) w:=by
 have O1:=Hd o1;have O2:=Hd o2;have HH:=Hd hh;have HSP:=Hd hsp;have O3:=Hd o3;have H3:=Hd h3;have HP1:=Hd hp1;have HP2:=Hd hp2;have HM1:=Hd hm1;have HM2:=Hd hm2;have HQ1:=Hd hq1;have HQ2:=Hd hq2;have HN:=Hd entiref;clear o1 o2 hh hsp o3 h3 hp1 hp2 hm1 hm2 hq1 hq2;have HRD:=readL42 w (Zv 0 0) 28 (Zv 0 0) 28 t1 m1 t2 m2 hnn;clear t1 m1 t2 m2 hnn
 go_enter Tryz.func38,Tryz.ntmps38
 go_wp2_with fail;refine HRD.out.mono ?_;rintro e wk ⟨rfl,hl⟩;have LL:=Hd hl;clear hl HRD
 go_upto_region 3 with fail
 go_cut [24] (fun s24 wx=>s24=.bool true/\Lies w wx [(w.heap.size,28,(Zv P1 Q1)),((w.heap.size+1),28,(Zv P2 Q2)),((w.heap.size+2),28,(Zv 0 0)),((w.heap.size+3),28,(Zv 0 0))] [])
 case first=>
  have hsp:=HSP.out;have o1:=O1.out;have o2:=O2.out;clear O1 O2 HSP
  cases a1
  ·skip
   cases a2
   ·skip;obtain⟨q1_0,q1_1⟩:=(LL.out.blk 0 rfl).c2;go_wp2_with fail
    go_meet
    case rel=>exact⟨by rw [<- hsp];try rfl,LL.out⟩
   ·skip;obtain⟨q1_0,q1_1⟩:=(LL.out.blk 0 rfl).c2;go_wp2_with fail
    go_meet
    case rel=>exact⟨by rw [<- hsp];try rfl,LL.out⟩
   ·skip;obtain⟨q1_0,q1_1⟩:=(LL.out.blk 0 rfl).c2;obtain⟨q2_0,q2_1⟩:=(LL.out.blk 1 rfl).c2;go_wp2_with fail;refine cx (HH.out _) fun wk hb=>?_;replace LL:=stL LL hb;clear hb q1_0 q1_1 q2_0 q2_1;go_wp2_with fail
    go_meet
    case rel=>exact⟨by rw [<- hsp];try rfl,LL.out⟩
  ·skip;obtain⟨q1_0,q1_1⟩:=(LL.out.blk 0 rfl).c2;go_wp2_with fail
   go_meet
   case rel=>exact⟨by rw [<- hsp];try rfl,LL.out⟩
  ·skip;obtain⟨q1_0,q1_1⟩:=(LL.out.blk 0 rfl).c2;go_wp2_with fail
   go_meet
   case rel=>exact⟨by rw [<- hsp];try rfl,LL.out⟩
 case rest=>
 obtain⟨rfl,hcl⟩:=hcut;rename World=>wx;clear LL HSP O1 O2 HH;have LL:=Hd hcl;clear hcl
 go_upto_region 4 with fail
 go_cut [6,7] (fun s6 s7 wx=>∃ (g6 g7:Nat) (g1:Bool) (A1:Option Addr) (n1 k1:Nat) (E1:Int) (g2:Bool) (A2:Option Addr) (n2 k2:Nat) (E2:Int),s6=.pointer (some ⟨g6,0,none⟩)/\s7=.pointer (some ⟨g7,0,none⟩)/\(w.heap.size+3<g6/\w.heap.size+3<g7/\g6≠g7)/\Lies w wx [(w.heap.size,28,(Zv P1 Q1)),((w.heap.size+1),28,(Zv P2 Q2)),((w.heap.size+2),28,(Zv 0 0)),((w.heap.size+3),28,(Zv 0 0)),(g6,97,#[.int .i64 s1,.bool g1,.slice A1 n1 k1,.int .i64 E1]),(g7,97,#[.int .i64 s2,.bool g2,.slice A2 n2 k2,.int .i64 E2])] []/\ExI wx s1 g1 A1 n1 k1 E1 x1/\ExI wx s2 g2 A2 n2 k2 E2 x2)
 case first=>
  refine regL LL (fun hHeld=>?_);clear LL;generalize World.drew _=wk at hHeld  ⊢;refine tks 0 ?_;refine tkb 1 (fun _ h=>(h.blk 1 rfl).c2) ?_;refine tks 3 ?_;refine tkb 4 (fun _ h=>(h.blk 1 rfl).c2) ?_
  repeat' first
   | (have hx:=hC2;clear hx;go_simp;refine (HP1.out _).mono ?_;rintro e wk ⟨g1,A1,n1,k1,E1,rfl,he1,hb1⟩;go_wp2_with fail;refine hC2.out _ _ (hHeld.keep hb1) (fun _=>?_);clear hC2 KK hHeld;rename_i hHeld;(try simp only [Act.put,lay]);(try replace HE2:=Hd (HE2.out.below hb1));(try replace B_g6:=B_g6.keep hb1);(try replace B_g7:=B_g7.keep hb1);have HE1:=Hd he1;clear he1;clear hb1;have mk2:=True.intro)
   | (have hx:=hC5;clear hx;go_simp;refine (HP2.out _).mono ?_;rintro e wk ⟨g2,A2,n2,k2,E2,rfl,he2,hb2⟩;go_wp2_with fail;refine hC5.out _ _ (hHeld.keep hb2) (fun _=>?_);clear hC5 KK hHeld;rename_i hHeld;(try simp only [Act.put,lay]);(try replace HE1:=Hd (HE1.out.below hb2));(try replace B_g6:=B_g6.keep hb2);(try replace B_g7:=B_g7.keep hb2);have HE2:=Hd he2;clear he2;clear hb2;have mk5:=True.intro)
   | (have hx:=hA6;clear hx;go_simp;have hl_g6:=hHeld.lts;refine hA6.out _ _ (hHeld.alloc _) (fun _=>?_);clear hA6 KK hHeld;rename_i hHeld;(try simp only [Act.put,lay]);generalize hwn:World.alloc wk _=wn at hHeld ⊢;(try replace HE1:=Hd (HE1.out.below (below_allocE hwn)));(try replace HE2:=Hd (HE2.out.below (below_allocE hwn)));(try (have hx_g6:=B_g7.lt;replace B_g7:=B_g7.keep (below_allocE hwn)));have B_g6:=Blk.newE hwn;simp only [List.mem_cons,List.not_mem_nil,or_false,forall_eq_or_imp,forall_eq,false_imp_iff,implies_true,and_true] at hl_g6;clear hwn;generalize hg:wk.heap.size=g6 at B_g6 hl_g6 ⊢;(try rw [hg] at hx_g6);clear hg;obtain⟨wk,rfl⟩:∃ X,X=wn:=⟨_,rfl⟩;have mk6:=True.intro)
   | (have hx:=hA7;clear hx;go_simp;have hl_g7:=hHeld.lts;refine hA7.out _ _ (hHeld.alloc _) (fun _=>?_);clear hA7 KK hHeld;rename_i hHeld;(try simp only [Act.put,lay]);generalize hwn:World.alloc wk _=wn at hHeld ⊢;(try replace HE1:=Hd (HE1.out.below (below_allocE hwn)));(try replace HE2:=Hd (HE2.out.below (below_allocE hwn)));(try (have hx_g7:=B_g6.lt;replace B_g6:=B_g6.keep (below_allocE hwn)));have B_g7:=Blk.newE hwn;simp only [List.mem_cons,List.not_mem_nil,or_false,forall_eq_or_imp,forall_eq,false_imp_iff,implies_true,and_true] at hl_g7;clear hwn;generalize hg:wk.heap.size=g7 at B_g7 hl_g7 ⊢;(try rw [hg] at hx_g7);clear hg;obtain⟨wk,rfl⟩:∃ X,X=wn:=⟨_,rfl⟩;have mk7:=True.intro)
   | (have hx:=hS8;clear hx;have qz0:=B_g6.ce 0 rfl;have fz0:=B_g6.frozen 0;have qz1:=B_g6.ce 1 rfl;have fz1:=B_g6.frozen 1;have qz2:=B_g6.ce 2 rfl;have fz2:=B_g6.frozen 2;have qz3:=B_g6.ce 3 rfl;have fz3:=B_g6.frozen 3;go_simp;have hsx:=hHeld.far [.int .i64 s1,.bool g1,.slice A1 n1 k1,.int .i64 E1] 0 (g:=g6) (by omega) (by simp<;>omega) (by simp<;>omega);generalize hwn:sets wk g6 0 _=wn at hsx;refine hS8.out _ _ (by have e:=hwn;simp only [sets,Nat.reduceAdd] at e;rw [e];exact hsx) (fun _=>?_);clear hS8 KK hHeld hsx;rename_i hHeld;(try simp only [Act.put,lay]);(try replace HE1:=Hd (HE1.out.setsE B_g6 (nowd rfl) hwn));(try replace HE2:=Hd (HE2.out.setsE B_g6 (nowd rfl) hwn));replace B_g7:=B_g7.otherE hwn (by omega);replace B_g6:=B_g6.setsE hwn;simp only [laid,lay,Nat.reduceAdd] at B_g6;simp only [sets,Nat.reduceAdd] at hwn;rw [hwn] at hHeld ⊢;clear hwn qz0 fz0 qz1 fz1 qz2 fz2 qz3 fz3;obtain⟨wk,rfl⟩:∃ X,X=wn:=⟨_,rfl⟩;have mk8:=True.intro)
   | (have hx:=hS9;clear hx;have qz0:=B_g7.ce 0 rfl;have fz0:=B_g7.frozen 0;have qz1:=B_g7.ce 1 rfl;have fz1:=B_g7.frozen 1;have qz2:=B_g7.ce 2 rfl;have fz2:=B_g7.frozen 2;have qz3:=B_g7.ce 3 rfl;have fz3:=B_g7.frozen 3;go_simp;have hsx:=hHeld.far [.int .i64 s2,.bool g2,.slice A2 n2 k2,.int .i64 E2] 0 (g:=g7) (by omega) (by simp<;>omega) (by simp<;>omega);generalize hwn:sets wk g7 0 _=wn at hsx;refine hS9.out _ _ (by have e:=hwn;simp only [sets,Nat.reduceAdd] at e;rw [e];exact hsx) (fun _=>?_);clear hS9 KK hHeld hsx;rename_i hHeld;(try simp only [Act.put,lay]);(try replace HE1:=Hd (HE1.out.setsE B_g7 (nowd rfl) hwn));(try replace HE2:=Hd (HE2.out.setsE B_g7 (nowd rfl) hwn));replace B_g6:=B_g6.otherE hwn (by omega);replace B_g7:=B_g7.setsE hwn;simp only [laid,lay,Nat.reduceAdd] at B_g7;simp only [sets,Nat.reduceAdd] at hwn;rw [hwn] at hHeld ⊢;clear hwn qz0 fz0 qz1 fz1 qz2 fz2 qz3 fz3;obtain⟨wk,rfl⟩:∃ X,X=wn:=⟨_,rfl⟩;have mk9:=True.intro)
   | (have hx:=mk2;have hx:=mk5;have hx:=mk6;have hx:=mk7;have hx:=mk8;have hx:=mk9;refine wpAnyH_done (by kernel_rfl) ?_ _;clear hx mk2 mk5 mk6 mk7 mk8 mk9;go_wp2_with fail;go_meet;exact⟨g6,g7,_,_,_,_,_,_,_,_,_,_,rfl,rfl,⟨by omega,by omega,by omega⟩,(hHeld.put B_g6).put B_g7,HE1.out,HE2.out⟩)
   | (have hx:=mk2;have hx:=mk5;have hx:=mk6;have hx:=mk7;have hx:=mk8;refine rdy 9 (fun KK hS9=>?_))
   | (have hx:=mk2;have hx:=mk5;have hx:=mk6;have hx:=mk7;refine rdy 8 (fun KK hS8=>?_))
   | (have hx:=mk2;have hx:=mk6;have hx:=mk7;refine rdy 5 (fun KK hC5=>?_))
   | (have hx:=mk2;have hx:=mk5;have hx:=mk7;refine rdy 6 (fun KK hA6=>?_))
   | (have hx:=mk2;have hx:=mk5;have hx:=mk6;refine rdy 7 (fun KK hA7=>?_))
   | (have hx:=mk6;have hx:=mk7;refine rdy 2 (fun KK hC2=>?_))
   | (have hx:=mk2;have hx:=mk7;refine rd2 5 6 (fun KK hC5=>?_) (fun KK hA6=>?_))
   | (have hx:=mk2;have hx:=mk6;refine rd2 5 7 (fun KK hC5=>?_) (fun KK hA7=>?_))
   | (have hx:=mk2;have hx:=mk5;refine rd2 6 7 (fun KK hA6=>?_) (fun KK hA7=>?_))
   | (have hx:=mk7;refine rd2 2 6 (fun KK hC2=>?_) (fun KK hA6=>?_))
   | (have hx:=mk6;refine rd2 2 7 (fun KK hC2=>?_) (fun KK hA7=>?_))
   | (have hx:=mk2;refine rd3 5 6 7 (fun KK hC5=>?_) (fun KK hA6=>?_) (fun KK hA7=>?_))
   | (refine rd3 2 6 7 (fun KK hC2=>?_) (fun KK hA6=>?_) (fun KK hA7=>?_))
 case rest=>
 obtain⟨g6,g7,g1,A1,n1,k1,E1,g2,A2,n2,k2,E2,rfl,rfl,hgs,hcl,hx1,hx2⟩:=hcut;rename World=>wx;clear LL HP1 HP2;have LL:=Hd hcl;have HE1:=Hd hx1;have HE2:=Hd hx2;clear hcl hx1 hx2;go_wp2_with fail;replace LL:=Hd (LL.out.loose2 rfl);refine regL LL (fun hHeld=>?_);clear LL;replace HE1:=Hd (HE1.out.below (Below.refl _ _).drew);replace HE2:=Hd (HE2.out.below (Below.refl _ _).drew);generalize World.drew _=wk at hHeld HE1 HE2 ⊢;refine tkb 0 (fun _ h=>(h.blk 0 rfl).c2) ?_;refine tkb 2 (fun _ h=>(h.blk 3 rfl).c4) ?_;refine tkb 3 (fun _ h=>(h.blk 4 rfl).c4) ?_;refine rdy 1 fun KK hKK=>?_;go_simp;refine cs (HM1.out _) ?_;clear hKK KK hHeld;intro wk hb1 hHeld;replace HE1:=Hd (HE1.out.below hb1);replace HE2:=Hd (HE2.out.below hb1);clear hb1;refine rdy 4 fun KK hKK=>?_;go_simp;refine cs (HN.out _) ?_;clear hKK KK hHeld;intro wk hb2 hHeld;replace HE1:=Hd (HE1.out.below hb2);replace HE2:=Hd (HE2.out.below hb2);clear hb2;refine rdy 5 fun KK hKK=>?_;go_simp;refine cs (HQ1.out _ _ _ _ _ _ _ _ _ _ _ HE1.out HE2.out) ?_;clear hKK KK hHeld;intro wk hb3 hHeld;replace HE1:=Hd (HE1.out.below hb3);replace HE2:=Hd (HE2.out.below hb3);clear hb3;refine rdy 6 fun KK hKK=>?_;go_simp;refine cs (HM2.out _) ?_;clear hKK KK hHeld;intro wk hb4 hHeld;replace HE1:=Hd (HE1.out.below hb4);replace HE2:=Hd (HE2.out.below hb4);clear hb4;refine rdy 7 fun KK hKK=>?_;obtain⟨ha0,hf0,ha1,hf1⟩:=(hHeld.has 0 rfl).sf2;obtain⟨csx,hbx,-,hcx⟩:=hHeld.has 0 rfl;replace HE1:=Hd (HE1.out.setB hbx hcx 0 [.float .f64 l1,.float .f64 l2])
 replace HE2:=Hd (HE2.out.setB hbx hcx 0 [.float .f64 l1,.float .f64 l2]);clear hbx hcx;go_simp;have HS_0:=(hHeld.has 0 rfl).laid [.float .f64 l1,.float .f64 l2] rfl;refine hKK.out _ _ (hHeld.over 0 rfl [.float .f64 l1,.float .f64 l2] rfl rfl (by first | omega | exact hHeld.le_of 0 rfl) (by simp<;>omega) (by simp<;>omega)) (fun _=>?_);clear hKK KK hHeld;rename_i hHeld;(try simp only [Act.put,lay])
 replace hHeld:=(show Lies _ (sets wk (w.heap.size+2) 0 [.float .f64 l1,.float .f64 l2]) _ _ from hHeld)
 obtain⟨wk,hwn⟩:∃ X,sets wk (w.heap.size+2) 0 [.float .f64 l1,.float .f64 l2]=X:=⟨_,rfl⟩
 rw [hwn] at hHeld HE1 HE2 HS_0
 simp only [sets] at hwn
 rw [hwn];clear hwn;refine wpAnyH_done (by kernel_rfl) ?_ _;have LL:=Hd (hHeld.tight HS_0)
 simp only [List.cons_append,List.nil_append] at LL
 clear hHeld HS_0;go_wp2_with fail;replace LL:=Hd (LL.out.loose2 rfl);refine regL LL (fun hHeld=>?_);clear LL;replace HE1:=Hd (HE1.out.below (Below.refl _ _).drew);replace HE2:=Hd (HE2.out.below (Below.refl _ _).drew);generalize World.drew _=wk at hHeld HE1 HE2 ⊢;refine tkb 0 (fun _ h=>(h.blk 0 rfl).c2) ?_;refine tkb 1 (fun _ h=>(h.blk 2 rfl).c4) ?_;refine tkb 2 (fun _ h=>(h.blk 3 rfl).c4) ?_;refine rdy 3 fun KK hKK=>?_;go_simp;refine cs (HN.out _) ?_;clear hKK KK hHeld;intro wk hb1 hHeld;replace HE1:=Hd (HE1.out.below hb1);replace HE2:=Hd (HE2.out.below hb1);clear hb1;refine rdy 4 fun KK hKK=>?_;go_simp;refine cs (HQ2.out _ _ _ _ _ _ _ _ _ _ _ HE1.out HE2.out) ?_;clear hKK KK hHeld;intro wk hb2 hHeld;replace HE1:=Hd (HE1.out.below hb2);replace HE2:=Hd (HE2.out.below hb2);clear hb2;refine rdy 5 fun KK hKK=>?_;obtain⟨ha0,hf0,ha1,hf1⟩:=(hHeld.has 0 rfl).sf2;obtain⟨csx,hbx,-,hcx⟩:=hHeld.has 0 rfl;replace HE1:=Hd (HE1.out.setB hbx hcx 0 [.float .f64 u1,.float .f64 u2]);replace HE2:=Hd (HE2.out.setB hbx hcx 0 [.float .f64 u1,.float .f64 u2]);clear hbx hcx;go_simp;have HS_0:=(hHeld.has 0 rfl).laid [.float .f64 u1,.float .f64 u2] rfl;refine hKK.out _ _ (hHeld.over 0 rfl [.float .f64 u1,.float .f64 u2] rfl rfl (by first | omega | exact hHeld.le_of 0 rfl) (by simp<;>omega) (by simp<;>omega)) (fun _=>?_);clear hKK KK hHeld;rename_i hHeld;(try simp only [Act.put,lay])
 replace hHeld:=(show Lies _ (sets wk (w.heap.size+3) 0 [.float .f64 u1,.float .f64 u2]) _ _ from hHeld)
 obtain⟨wk,hwn⟩:∃ X,sets wk (w.heap.size+3) 0 [.float .f64 u1,.float .f64 u2]=X:=⟨_,rfl⟩
 rw [hwn] at hHeld HE1 HE2 HS_0
 simp only [sets] at hwn
 rw [hwn];clear hwn;refine wpAnyH_done (by kernel_rfl) ?_ _;have LL:=Hd (hHeld.tight HS_0)
 simp only [List.cons_append,List.nil_append] at LL
 clear hHeld HS_0;clear HM1 HM2 HQ1 HQ2 HN HE1 HE2
 rcases H3.out with ⟨h3,e1,e2,e3,e4⟩ | ⟨h3,e1,e2,e3,e4⟩<;>subst e1 e2 e3 e4<;>clear H3
 ·skip;subst h3;have o3:=O3.out;clear O3;obtain⟨q1_0,q1_1⟩:=(LL.out.blk 1 rfl).c2;obtain⟨q2_0,q2_1⟩:=(LL.out.blk 4 rfl).c2;obtain⟨q3_0,q3_1⟩:=(LL.out.blk 5 rfl).c2;have hf4_0:=(LL.out.blk 4 rfl).frozen 0;have hf4_1:=(LL.out.blk 4 rfl).frozen 1;have hf5_0:=(LL.out.blk 5 rfl).frozen 0;have hf5_1:=(LL.out.blk 5 rfl).frozen 1
  go_upto_region 9 with fail
  clear q1_0 q1_1 q2_0 q2_1 q3_0 q3_1 hf4_0 hf4_1 hf5_0 hf5_1;replace LL:=Hd (LL.out.part 4 rfl 0 [.float .f64 r1,.float .f64 r2] (by omega) (by simp<;>omega) (by simp<;>omega))
  simp only [List.eraseIdx,laid,List.cons_append,List.nil_append,List.setIfInBounds_toArray,List.set_cons_zero,List.set_cons_succ,Nat.zero_add,Nat.reduceAdd] at LL
  replace LL:=Hd (LL.out.part 4 rfl 0 [.float .f64 r3,.float .f64 r4] (by omega) (by simp<;>omega) (by simp<;>omega))
  simp only [List.eraseIdx,laid,List.cons_append,List.nil_append,List.setIfInBounds_toArray,List.set_cons_zero,List.set_cons_succ,Nat.zero_add,Nat.reduceAdd] at LL
  obtain⟨wn,hwn⟩:∃ X,(sets (sets wk (w.heap.size+2) 0 [.float .f64 r1,.float .f64 r2]) (w.heap.size+3) 0 [.float .f64 r3,.float .f64 r4])=X:=⟨_,rfl⟩
  rw [hwn] at LL
  simp only [sets,Nat.reduceAdd] at hwn
  rw [hwn];clear hwn;clear o3;refine regL LL (fun hHeld=>?_);clear LL;generalize World.drew _=wk at hHeld  ⊢;refine tkb 0 (fun _ h=>(h.blk 4 rfl).c2) ?_;refine tkb 1 (fun _ h=>(h.blk 5 rfl).c2) ?_;refine rdy 2 fun KK hKK=>?_;have qz0:=(hHeld.blk 4 rfl).ce 0 rfl;have fz0:=(hHeld.blk 4 rfl).frozen 0;have qz1:=(hHeld.blk 4 rfl).ce 1 rfl;have fz1:=(hHeld.blk 4 rfl).frozen 1;go_simp;refine hKK.out _ _ (hHeld.same 4 rfl [.float .f64 r1,.float .f64 r2] rfl (by omega) (by simp<;>omega) (by simp<;>omega)) (fun _=>?_);clear hKK KK hHeld qz0 fz0 qz1 fz1;rename_i hHeld;(try simp only [Act.put,lay])
  replace hHeld:=(show Lies _ (sets wk (w.heap.size+2) 0 [.float .f64 r1,.float .f64 r2]) _ _ from hHeld)
  obtain⟨wk,hwn⟩:∃ X,sets wk (w.heap.size+2) 0 [.float .f64 r1,.float .f64 r2]=X:=⟨_,rfl⟩
  rw [hwn] at hHeld
  simp only [sets] at hwn
  rw [hwn];clear hwn;refine rdy 3 fun KK hKK=>?_;have qz0:=(hHeld.blk 5 rfl).ce 0 rfl;have fz0:=(hHeld.blk 5 rfl).frozen 0;have qz1:=(hHeld.blk 5 rfl).ce 1 rfl;have fz1:=(hHeld.blk 5 rfl).frozen 1;go_simp;refine hKK.out _ _ (hHeld.same 5 rfl [.float .f64 r3,.float .f64 r4] rfl (by omega) (by simp<;>omega) (by simp<;>omega)) (fun _=>?_);clear hKK KK hHeld qz0 fz0 qz1 fz1;rename_i hHeld;(try simp only [Act.put,lay])
  replace hHeld:=(show Lies _ (sets wk (w.heap.size+3) 0 [.float .f64 r3,.float .f64 r4]) _ _ from hHeld)
  obtain⟨wk,hwn⟩:∃ X,sets wk (w.heap.size+3) 0 [.float .f64 r3,.float .f64 r4]=X:=⟨_,rfl⟩
  rw [hwn] at hHeld
  simp only [sets] at hwn
  rw [hwn];clear hwn;refine wpAnyH_done (by kernel_rfl) ?_ _;have LL:=Hd hHeld;clear hHeld;obtain⟨hk4_0,hk4_1⟩:=(LL.out.blk 4 rfl).c2;obtain⟨hk5_0,hk5_1⟩:=(LL.out.blk 5 rfl).c2;go_wp2;refine bodyPost_ret (v:=.tuple #[Zf r1 r2,Zf r3 r4]) (by simp [results,Tryz.results38,go_sem,hk4_0,hk4_1,hk5_0,hk5_1]) rfl ?_
  exact⟨rfl,LL.out.b⟩
 ·rcases h3 with h3 | h3<;>subst h3<;>have o3:=O3.out<;>clear O3
  all_goals
   obtain⟨q1_0,q1_1⟩:=(LL.out.blk 1 rfl).c2;go_wp2_with fail;clear q1_0 q1_1 o3;refine regL LL (fun hHeld=>?_);clear LL;generalize World.drew _=wk at hHeld  ⊢;refine tkb 0 (fun _ h=>(h.blk 4 rfl).c2) ?_;refine tkb 1 (fun _ h=>(h.blk 5 rfl).c2) ?_;refine rdy 2 fun KK hKK=>?_;have qz0:=(hHeld.blk 4 rfl).ce 0 rfl;have fz0:=(hHeld.blk 4 rfl).frozen 0;have qz1:=(hHeld.blk 4 rfl).ce 1 rfl;have fz1:=(hHeld.blk 4 rfl).frozen 1;go_simp;refine hKK.out _ _ (hHeld.same 4 rfl [.float .f64 r1,.float .f64 r2] rfl (by omega) (by simp<;>omega) (by simp<;>omega)) (fun _=>?_);clear hKK KK hHeld qz0 fz0 qz1 fz1;rename_i hHeld;(try simp only [Act.put,lay])
   replace hHeld:=(show Lies _ (sets wk (w.heap.size+2) 0 [.float .f64 r1,.float .f64 r2]) _ _ from hHeld)
   obtain⟨wk,hwn⟩:∃ X,sets wk (w.heap.size+2) 0 [.float .f64 r1,.float .f64 r2]=X:=⟨_,rfl⟩
   rw [hwn] at hHeld
   simp only [sets] at hwn
   rw [hwn];clear hwn;refine rdy 3 fun KK hKK=>?_;have qz0:=(hHeld.blk 5 rfl).ce 0 rfl;have fz0:=(hHeld.blk 5 rfl).frozen 0;have qz1:=(hHeld.blk 5 rfl).ce 1 rfl;have fz1:=(hHeld.blk 5 rfl).frozen 1;go_simp;refine hKK.out _ _ (hHeld.same 5 rfl [.float .f64 r3,.float .f64 r4] rfl (by omega) (by simp<;>omega) (by simp<;>omega)) (fun _=>?_);clear hKK KK hHeld qz0 fz0 qz1 fz1;rename_i hHeld;(try simp only [Act.put,lay])
   replace hHeld:=(show Lies _ (sets wk (w.heap.size+3) 0 [.float .f64 r3,.float .f64 r4]) _ _ from hHeld)
   obtain⟨wk,hwn⟩:∃ X,sets wk (w.heap.size+3) 0 [.float .f64 r3,.float .f64 r4]=X:=⟨_,rfl⟩
   rw [hwn] at hHeld
   simp only [sets] at hwn
   rw [hwn];clear hwn;refine wpAnyH_done (by kernel_rfl) ?_ _;have LL:=Hd hHeld;clear hHeld;obtain⟨hk4_0,hk4_1⟩:=(LL.out.blk 4 rfl).c2;obtain⟨hk5_0,hk5_1⟩:=(LL.out.blk 5 rfl).c2;go_wp2;refine bodyPost_ret (v:=.tuple #[Zf r1 r2,Zf r3 r4]) (by simp [results,Tryz.results38,go_sem,hk4_0,hk4_1,hk5_0,hk5_1]) rfl ?_
   exact⟨rfl,LL.out.b⟩
end
def PN(b1 b2:Int)(s1:Int)(x1:Rat)(s2:Int)(x2:Rat)(i j:Int):Int × Int:=
 (-(PF (-b2) (-b1) s1 x1 s2 x2 (-j) (-i)).2,-(PF (-b2) (-b1) s1 x1 s2 x2 (-j) (-i)).1)
section
open Go.RowKit
def prL(i1 j1 i2 j2:Int):Int × Int:=
 if j1<i1\/j2<i2 then ((M:Int),-(M:Int)) else
 if (i1<0/\0<j1)/\¬ (i2<=0/\0<=j2) then (if j2<0 then PF i1 j1 (es i2) (ex i2) (es j2) (ex j2) (-(M:Int)) M else PN i1 j1 (es i2) (ex i2) (es j2) (ex j2) (-(M:Int)) M) else mlr i1 j1 i2 j2 (-(M:Int)) M
def prU(i1 j1 i2 j2:Int):Int × Int:=
 if j1<i1\/j2<i2 then ((M:Int),-(M:Int)) else
 if (i1<0/\0<j1)/\¬ (i2<=0/\0<=j2) then (if j2<0 then PN i1 j1 (es i2) (ex i2) (es j2) (ex j2) (-(M:Int)) M else PF i1 j1 (es i2) (ex i2) (es j2) (ex j2) (-(M:Int)) M) else ((M:Int),-(M:Int))
theorem rd_entire:rd 18442240474082181120 9218868437227405312=(-(M:Int),(M:Int)):=by
 have hM:=M_val;have h:=rd_pat (i:=-(M:Int)) (j:=M) (.inl (by omega))
 rwa [pat_max,pat_min] at h
theorem ne_entire:Ne (-(M:Int)) M:=by
 have hM:=M_val;unfold Ne;omega
theorem mulpair_any(b1 b2 c1 c2:Nat)(w:World)(hb1:b1<18446744073709551616)(hb2:b2<18446744073709551616)(hc1:c1<18446744073709551616)(hc2:c2<18446744073709551616):
  Rt 38 #[Zf b1 b2,Zf c1 c2] (.tuple #[Zf (pat (prL (rd b1 b2).1 (rd b1 b2).2 (rd c1 c2).1 (rd c1 c2).2).1) (pat (prL (rd b1 b2).1 (rd b1 b2).2 (rd c1 c2).1 (rd c1 c2).2).2),Zf (pat (prU (rd b1 b2).1 (rd b1 b2).2 (rd c1 c2).1 (rd c1 c2).2).1) (pat (prU (rd b1 b2).1 (rd b1 b2).2 (rd c1 c2).1 (rd c1 c2).2).2)]) w:=by
 have hM:=M_val;have v1:=rd_iv b1 b2;have v2:=rd_iv c1 c2;have t1:=fun W=>readf b1 b2 W hb1 hb2;have t2:=fun W=>readf c1 c2 W hc1 hc2
 obtain⟨⟨i1,j1⟩,r1⟩:∃ z,rd b1 b2=z:=⟨_,rfl⟩
 obtain⟨⟨i2,j2⟩,r2⟩:∃ z,rd c1 c2=z:=⟨_,rfl⟩
 rw [r1] at v1 t1;rw [r2] at v2 t2;rw [r1,r2]
 dsimp only at *
 have m1:=em_idx v1;have m2:=em_idx v2;unfold prL prU
 by_cases hno:j1<i1\/j2<i2
 ·rw [if_pos hno,if_pos hno,pat_max,pat_min]
  exact mulpair_none _ _ _ _ _ _ _ _ _ _ w t1 m1 t2 m2 (by simpa using hno)
 ·rw [if_neg hno,if_neg hno];have n1:=ne_or v1 (by omega);have n2:=ne_or v2 (by omega);have hh:=fun W=>has_any i2 j2 W v2.lo v2.hi
  have hnn:(decide (j1<i1) || decide (j2<i2))=false:=by
   rw [decide_eq_false (by omega),decide_eq_false (by omega)];rfl
  have o1:=ord0 v1.lo;have o2:=ord0 v1.hi
  have hsp:(compare i1 0 == Ordering.lt && compare j1 0 == Ordering.gt && !decide (i2<=0/\0<=j2))=decide ((i1<0/\0<j1)/\¬ (i2<=0/\0<=j2)):=by
   have e1:(compare i1 0 == Ordering.lt)=decide (i1<0):=by
    by_cases h:i1<0
    ·rw [Int.compare_eq_lt.2 h,decide_eq_true h];rfl
    ·rw [decide_eq_false h,beq_eq_false_iff_ne];intro h';exact h (Int.compare_eq_lt.1 h')
   have e2:(compare j1 0 == Ordering.gt)=decide (0<j1):=by
    by_cases h:0<j1
    ·rw [Int.compare_eq_gt.2 h,decide_eq_true h];rfl
    ·rw [decide_eq_false h,beq_eq_false_iff_ne];intro h';exact h (Int.compare_eq_gt.1 h')
   rw [e1,e2]
   simp only [Bool.decide_and,decide_not]
  by_cases hs:(i1<0/\0<j1)/\¬ (i2<=0/\0<=j2)
  ·rw [decide_eq_true hs] at hsp;rw [if_pos hs,if_pos hs];have k:=numok_idx n2;have hq1:=fun W g1 A1 n1' k1 E1 g2 A2 n2' k2 E2 (e1:ExI W (es i2) g1 A1 n1' k1 E1 (ex i2)) (e2:ExI W (es j2) g2 A2 n2' k2 E2 (ex j2))=>positive_any (-j1) (-i1) (es i2) g1 A1 n1' k1 E1 (ex i2) (es j2) g2 A2 n2' k2 E2 (ex j2) (-(M:Int)) M W n1.neg.iv.lo n1.neg.iv.hi ne_entire.iv.lo ne_entire.iv.hi e1 e2;have hq2:=fun W g1 A1 n1' k1 E1 g2 A2 n2' k2 E2 (e1:ExI W (es i2) g1 A1 n1' k1 E1 (ex i2)) (e2:ExI W (es j2) g2 A2 n2' k2 E2 (ex j2))=>positive_any i1 j1 (es i2) g1 A1 n1' k1 E1 (ex i2) (es j2) g2 A2 n2' k2 E2 (ex j2) (-(M:Int)) M W n1.iv.lo n1.iv.hi ne_entire.iv.lo ne_entire.iv.hi e1 e2;rw [po_PF k n1.neg ne_entire,pat_max,pat_min] at hq1;rw [po_PF k n1 ne_entire,pat_max,pat_min] at hq2
   have ePN:PN i1 j1 (es i2) (ex i2) (es j2) (ex j2) (-(M:Int)) M=(-(PF (-j1) (-i1) (es i2) (ex i2) (es j2) (ex j2) (-(M:Int)) M).2,-(PF (-j1) (-i1) (es i2) (ex i2) (es j2) (ex j2) (-(M:Int)) M).1):=by
    unfold PN;rw [Int.neg_neg]
   have hm2:=fun W=>mirror_idx _ _ W (PF_iv k n1.neg (-(M:Int)) M ne_entire.iv);refine mulpair_split _ _ _ _ (pat i1) (pat j1) (pat i2) (pat j2) (pat (-j1)) (pat (-i1)) _ _ _ _ _ _ _ _ _ _ _ _ _ _ _ _ _ _ _ _ true w t1 m1 t2 m2 hnn o1 o2 hh hsp (ord0 v2.hi) ?_ (fun W=>point_gen i2 W v2.lo) (fun W=>point_gen j2 W v2.hi) (fun W=>mirror_idx i1 j1 W v1) hq1 hm2 hq2;rw [ePN]
   by_cases h:j2<0
   ·rw [if_pos h,if_pos h]
    exact .inl ⟨Int.compare_eq_lt.2 h,rfl,rfl,rfl,rfl⟩
   ·rw [if_neg h,if_neg h];refine .inr ⟨?_,rfl,rfl,rfl,rfl⟩
    by_cases h':j2=0
    ·exact .inl (Int.compare_eq_eq.2 h')
    ·exact .inr (Int.compare_eq_gt.2 (by omega))
  ·rw [decide_eq_false hs] at hsp;rw [if_neg hs,if_neg hs,pat_max,pat_min];refine mulpair_one _ _ _ _ (pat i1) (pat j1) (pat i2) (pat j2) _ _ _ _ _ _ _ true w t1 m1 t2 m2 hnn o1 o2 hh hsp fun W=>?_;have h:=mulrev_any (pat i1) (pat j1) (pat i2) (pat j2) 18442240474082181120 9218868437227405312 W (pat_lt v1.lo.1 v1.lo.2) (pat_lt v1.hi.1 v1.hi.2) (pat_lt v2.lo.1 v2.lo.2) (pat_lt v2.hi.1 v2.hi.2) (by omega) (by omega);rw [rd_pat v1,rd_pat v2,rd_entire] at h
   exact h
end
section
open Go.RowKit Ieee
theorem R_stay{r e:Int}(hr:Rep r){l:Nat}(h1:2^(54+l)<=r.natAbs)(h2:r.natAbs<2^(55+l))(he:e.natAbs*2^55<r.natAbs):R (r+e)=r:=by
 have p0:2^(55+l)=2^55*2^l:=Nat.pow_add 2 55 l;have p1:2^(54+l)=2^54*2^l:=Nat.pow_add 2 54 l
 have p2:2^(52+(l+1))=2^53*2^l:=by rw [show 52+(l+1)=53+l from by omega,Nat.pow_add]
 have p3:2^(l+1)=2*2^l:=by rw [Nat.pow_succ,Nat.mul_comm]
 have hl:0<2^l:=Nat.two_pow_pos l;have near:=R_nearest (n:=r+e) hr
 have he2:e.natAbs<2^l:=by
  have:e.natAbs*2^55<2^l*2^55:=by rw [Nat.mul_comm (2^l)];omega
  exact Nat.lt_of_mul_lt_mul_right this
 have hd:(R (r+e) - r).natAbs<2^(l+1):=by omega
 have k1:=rep_dvd (k:=l+1) hr (by omega);have k2:=rep_dvd (k:=l+1) (R_rep (r+e)) (by omega);obtain⟨a,ha⟩:=k1;obtain⟨b,hb⟩:=k2
 have e1:R (r+e) - r=2^(l+1)*(b - a):=by rw [hb];conv=>lhs;rw [ha]
                                         rw [Int.mul_sub]
 rw [e1,Int.natAbs_mul,Int.natAbs_pow] at hd
 have h0:(b - a).natAbs=0:=by
  rcases Nat.eq_zero_or_pos (b - a).natAbs with h | h
  ·exact h
  ·exfalso
   have:2^(l+1)*1<=2^(l+1)*(b - a).natAbs:=Nat.mul_le_mul_left _ h;have e2:(2:Int).natAbs=2:=rfl;rw [e2] at hd
   omega
 have:b=a:=by omega
 rw [this,Int.sub_self,Int.mul_zero] at e1
 omega
theorem R_stays{r e:Int}(hr:Rep r)(h1:2^54<=r.natAbs)(he:e.natAbs*2^55<r.natAbs):R (r+e)=r:=by
 have n0:r.natAbs≠0:=by have:=Nat.two_pow_pos 54;omega
 have a:=Nat.log2_self_le n0;have b:=@Nat.lt_log2_self r.natAbs;have c:54<=r.natAbs.log2:=(Nat.le_log2 n0).2 h1
 obtain⟨l,hl⟩:∃ l,r.natAbs.log2=54+l:=⟨_,(Nat.add_sub_cancel' c).symm⟩
 rw [hl] at a b
 exact R_stay hr a (by rw [show 54+l+1=55+l from by omega] at b;exact b) he
theorem add_nought{x y:Nat}{m:Int}(hx:Fl x m)(hy:Fl y 0):(∃ r,FloatKind.f64.format.add x y=some r/\Fl r m)/\∃ r,FloatKind.f64.format.add y x=some r/\Fl r m:=by
 have hM:M=9218868437227405312:=rfl;have h1:=idx_natAbs x;have hf:rungOf x<M:=hx.fin;have e:near (val (idx x)) 0=idx x:=near_val_zero (by omega) (by omega)
 have key:∀ r,Is r (idx x)->Fl r m:=fun r h=>by
  have h2:=idx_natAbs r;rw [h.idx] at h2
  exact⟨h.lt,by unfold fin;omega,by rw [h.idx,hx.val]⟩
 constructor
 ·obtain⟨r,hr,hi⟩:=add_fin hx.fin hy.fin;rw [hy.val,Int.add_zero,e] at hi
  exact⟨r,hr,key r hi⟩
 ·obtain⟨r,hr,hi⟩:=add_fin hy.fin hx.fin;rw [hy.val,Int.zero_add,e] at hi
  exact⟨r,hr,key r hi⟩
theorem fma_good{d:Int}(hd:d=-1\/d=1){s f e:Nat}{N P Z n:Int}(hn:n=P+Z)(fs:Fl s (R n))(ff:Fl f (n - R n))(fe:Fl e (N - P))(hc:N - P=0\/(n - R n=0/\2^54<=(R n).natAbs/\(N - P).natAbs*2^55<(R n).natAbs)):
  ∃ g,FloatKind.f64.format.add e f=some g/\rungOf g<=M/\nud d (idx s) (idx g)=rndI d (((N+Z:Int):Rat)*2^(-1074:Int)):=by
 rcases hc with h | ⟨h,h2,h3⟩
 ·rw [h] at fe;obtain⟨g,hg,fg⟩:=(add_nought ff fe).2
  have e1:N+Z=n:=by omega
  refine⟨g,hg,Nat.le_of_lt fg.fin,?_⟩;rw [e1]
  exact nud_n hd fs fg
 ·rw [h] at ff;obtain⟨g,hg,fg⟩:=(add_nought fe ff).1
  have e1:R (N+Z)=R n:=by
   rw [show N+Z=R n+(N - P) from by omega]
   exact R_stays (R_rep n) h2 h3
  refine⟨g,hg,Nat.le_of_lt fg.fin,?_⟩;rw [<- e1] at fs;rw [show N - P=N+Z - R (N+Z) from by rw [e1];omega] at fg
  exact nud_n hd fs fg
end
end Go.Proofs.YthlmlmfebpjgdaaGreatDoor
