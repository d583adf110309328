/-
Lemmas for the statement: GroR TwoT RndwP RndwT SubsT HullT FadT Fad2T AwT.
-/
import Derived.Test.YthlmlmfebpjgdaaGreatDoorM18
import Derived.Test.YthlmlmfebpjgdaaGreatDoorM13
import Derived.Test.YthlmlmfebpjgdaaGreatDoorM02
import Derived.Deep.DeepCutAuto
import Derived.Test.YthlmlmfebpjgdaaGreatDoorM17
import Derived.Test.YthlmlmfebpjgdaaGreatDoorM07
import Derived.Test.YthlmlmfebpjgdaaGreatDoorM08
import Derived.Test.YthlmlmfebpjgdaaGreatDoorM11
import Derived.Deep.CutRange
import Derived.Deep.CutBlock
import Derived.Test.YthlmlmfebpjgdaaGreatDoorM14
set_option linter.unusedSimpArgs false
set_option linter.unusedVariables false
set_option maxHeartbeats 12800000
namespace Go.Proofs.YthlmlmfebpjgdaaGreatDoor
theorem tw_gr{i j pd pu qd qu pd' pu' qd' qu':Int}(hj:-(M:Int)<=j/\j<=M)(hi:-(M:Int)<=i/\i<=M)(h1:pd'<=pd)(h2:pu'<=pu)(h3:qd<=qd')(h4:qu<=qu')(r1:pd'<=M)(r2:-(M:Int)<=qu'):Gr (tw i j pd pu qd qu) (tw i j pd' pu' qd' qu'):=by
 unfold tw;rw [ctO_false,ctO_false,ctO_false,ctO_false]
 exact (ct_gr hj.1 hi.2 h1 h2 h3 h4 r1 r2).hull (ct_gr hj.1 hi.2 (by omega) (by omega) (by omega) (by omega) (by omega) (by omega))
theorem abr_gr{i2 j2 i2' j2' i j:Int}(n2:Ne i2 j2)(n2':Ne i2' j2')(hx:Ne i j)(b:i2'<=i2/\j2<=j2'):Gr (abr i2 j2 i j) (abr i2' j2' i j):=by
 have hM:=M_val;have v:=(Cl.abr n2'.iv).iv _ _ hx.iv;unfold Ne at *
 by_cases c:j2<0
 ·have e:abr i2 j2 i j=((M:Int),-(M:Int)):=by unfold abr;rw [if_pos (by omega)]
  rw [e];exact Gr.none v
 ·have k:=tw_gr (i:=i) (j:=j) (pd:=max i2 0) (pu:=max i2 0) (qd:=j2) (qu:=j2) (pd':=max i2' 0) (pu':=max i2' 0) (qd':=j2') (qu':=j2') (by omega) (by omega) (by omega) (by omega) (by omega) (by omega) (by omega) (by omega);unfold tw at k;unfold abr;rw [if_neg (by omega),if_neg (by omega)]
  exact k
theorem sqt_gr{i2 j2 i2' j2' i j:Int}(n2:Ne i2 j2)(n2':Ne i2' j2')(hx:Ne i j)(b:i2'<=i2/\j2<=j2'):Gr (sqt i2 j2 i j) (sqt i2' j2' i j):=by
 have hM:=M_val;have v:=(Cl.sqt n2'.iv).iv _ _ hx.iv;unfold Ne at *
 by_cases c:j2<0
 ·have e:sqt i2 j2 i j=((M:Int),-(M:Int)):=by unfold sqt;rw [if_pos (by omega)]
  rw [e];exact Gr.none v
 ·have r1:=sq_rng (d:=-1) (i:=max i2' 0) (.inl rfl) (by omega);have r2:=sq_rng (d:=1) (i:=j2') (.inr rfl) (by omega);unfold sqt;rw [if_neg (by omega),if_neg (by omega),ctO_false,ctO_false]
  exact ct_gr (by omega) (by omega) (sq_mono (.inl rfl) (by omega) (by omega) (by omega)) (sq_mono (.inr rfl) (by omega) (by omega) (by omega)) (sq_mono (.inl rfl) (by omega) (by omega) (by omega)) (sq_mono (.inr rfl) (by omega) (by omega) (by omega)) r1.2 r2.1
theorem pwr_gr{n:Nat}(hn:1<=n)(hn2:n<=1024){i2 j2 i2' j2' i j:Int}(n2:Ne i2 j2)(n2':Ne i2' j2')(hx:Ne i j)(b:i2'<=i2/\j2<=j2'):Gr (pwr n i2 j2 i j) (pwr n i2' j2' i j):=by
 have hM:=M_val;have v:=(Cl.pwr hn hn2 n2'.iv).iv _ _ hx.iv;unfold Ne at *
 by_cases c:n % 2=0/\j2<0
 ·have e:pwr n i2 j2 i j=((M:Int),-(M:Int)):=by unfold pwr;rw [if_pos (by omega)]
  rw [e];exact Gr.none v
 ·have r2:=rti_rng2 (d:=1) (a:=j2') (n:=n) (.inr rfl) hn hn2 (by omega) (by omega)
  have z1:¬ (j2<i2\/j<i\/(n % 2=0/\j2<0)):=by omega
  have z2:¬ (j2'<i2'\/j<i\/(n % 2=0/\j2'<0)):=by omega
  by_cases hp:n % 2=0
  ·have r1:=rti_rng2 (d:=-1) (a:=max i2' 0) (n:=n) (.inl rfl) hn hn2 (by omega) (by omega);unfold pwr;rw [if_neg z1,if_neg z2,if_pos hp,if_pos hp]
   exact tw_gr (by omega) (by omega) (rti_mono2 (.inl rfl) hn hn2 (by omega) (by omega) (by omega)) (rti_mono2 (.inr rfl) hn hn2 (by omega) (by omega) (by omega)) (rti_mono2 (.inl rfl) hn hn2 (by omega) (by omega) (by omega)) (rti_mono2 (.inr rfl) hn hn2 (by omega) (by omega) (by omega)) r1.2.1 r2.1
  ·have r1:=rti_rng2 (d:=-1) (a:=i2') (n:=n) (.inl rfl) hn hn2 (by omega) (by omega);unfold pwr;rw [if_neg z1,if_neg z2,if_neg hp,if_neg hp,ctO_false,ctO_false]
   exact ct_gr (by omega) (by omega) (rti_mono2 (.inl rfl) hn hn2 (by omega) (by omega) (by omega)) (rti_mono2 (.inr rfl) hn hn2 (by omega) (by omega) (by omega)) (rti_mono2 (.inl rfl) hn hn2 (by omega) (by omega) (by omega)) (rti_mono2 (.inr rfl) hn hn2 (by omega) (by omega) (by omega)) r1.2.1 r2.1
theorem apt_gr{n:Nat}(hn:1<=n){i2 j2 i2' j2' i j:Int}(n2:Ne i2 j2)(n2':Ne i2' j2')(hx:Ne i j)(b:i2'<=i2/\j2<=j2'):Gr (apt n i2 j2 i j) (apt n i2' j2' i j):=by
 have hM:=M_val;have v:=(Cl.apt hn n2').iv _ _ hx.iv;unfold Ne at *
 by_cases c:j2<=0
 ·have e:apt n i2 j2 i j=((M:Int),-(M:Int)):=by unfold apt;rw [if_pos c]
  rw [e];exact Gr.none v
 ·have a:=ivd_anti (a:=j2) (b:=j2') (n:=n) (by omega) (by omega) (by omega) hn;have r1:=ivd_rng (d:=-1) (.inl rfl) (j:=j2') (by omega) (by omega) hn;have p:=ivd_pair j2 n
  have B:(if 0<i2 then ivd (-1) i2 n else (M:Int))<=(if 0<i2' then ivd (-1) i2' n else (M:Int))/\(if 0<i2 then ivd 1 i2 n else (M:Int))<=(if 0<i2' then ivd 1 i2' n else (M:Int)):=by
   by_cases k:0<i2'
   ·have k2:0<i2:=by omega
    rw [if_pos k,if_pos k2,if_pos k,if_pos k2]
    exact ivd_anti k (by omega) (by omega) hn
   ·rw [if_neg k,if_neg k]
    by_cases k2:0<i2
    ·rw [if_pos k2,if_pos k2]
     exact⟨(ivd_rng (.inl rfl) k2 (by omega) hn).2,(ivd_rng (.inr rfl) k2 (by omega) hn).2⟩
    ·rw [if_neg k2,if_neg k2];omega
  have Q:(if 0<i2 then ivd (-1) i2 n else (M:Int))<=(if 0<i2 then ivd 1 i2 n else (M:Int)):=by
   split
   ·exact ivd_pair i2 n
   ·exact Int.le_refl _
  have R:-(M:Int)<=(if 0<i2' then ivd 1 i2' n else (M:Int)):=by
   split
   ·rename_i k;have:=(ivd_rng (d:=1) (.inr rfl) k (show i2'<=M by omega) hn).1
    omega
   ·omega
  unfold apt;rw [if_neg c,if_neg (show ¬ j2'<=0 by omega)]
  exact ctO_gr (by omega) (by omega) (fun e=>e) a.1 a.2 B.1 B.2 p Q r1.2 R
theorem blw_gr{n:Nat}(hn:1<=n){i2 j2 i2' j2' i j:Int}(n2:Ne i2 j2)(n2':Ne i2' j2')(hx:Ne i j)(b:i2'<=i2/\j2<=j2'):Gr (blw n i2 j2 i j) (blw n i2' j2' i j):=by
 unfold blw
 by_cases hp:n % 2=0
 ·rw [if_pos hp,if_pos hp]
  exact (apt_gr hn n2 n2' hx b).hull (apt_gr hn n2 n2' hx.neg b).ng
 ·rw [if_neg hp,if_neg hp]
  exact (apt_gr hn n2 n2' hx b).hull (apt_gr hn n2.neg n2'.neg hx.neg (by omega)).ng
theorem pwz_gr(z:Int){i2 j2 i2' j2' i j:Int}(n2:Ne i2 j2)(n2':Ne i2' j2')(hx:Ne i j)(b:i2'<=i2/\j2<=j2'):Gr (pwz z i2 j2 i j) (pwz z i2' j2' i j):=by
 have hM:=M_val;have v:=(Cl.pwz z n2'.iv).iv _ _ hx.iv
 have e1:¬ (j2<i2\/j<i)/\¬ (j2'<i2'\/j<i):=by unfold Ne at *;omega
 by_cases far:z < -1024\/1024<z
 ·unfold pwz;rw [if_pos far,if_pos far]
  exact Gr.refl _
 by_cases z0:z=0
 ·unfold pwz at *;rw [if_neg far,if_neg e1.2,if_pos z0] at v;rw [if_neg far,if_neg far,if_neg e1.1,if_neg e1.2,if_pos z0,if_pos z0]
  by_cases k:i2<=4607182418800017408/\4607182418800017408<=j2
  ·rw [if_pos k,if_pos (by omega)]
   exact Gr.refl _
  ·rw [if_neg k]
   exact Gr.none v
 by_cases zn:z<0
 ·unfold pwz at *;rw [if_neg far,if_neg e1.2,if_neg z0,if_pos zn] at v;rw [if_neg far,if_neg far,if_neg e1.1,if_neg e1.2,if_neg z0,if_neg z0,if_pos zn,if_pos zn]
  by_cases k:z % 2=0/\j2<0
  ·rw [if_pos k]
   exact Gr.none v
  ·rw [if_neg k,if_neg (by omega)]
   exact blw_gr (by omega) n2 n2' hx b
 ·unfold pwz;rw [if_neg far,if_neg far,if_neg e1.1,if_neg e1.2,if_neg z0,if_neg z0,if_neg zn,if_neg zn]
  exact pwr_gr (by omega) (by omega) n2 n2' hx b
theorem floor_mono2{x y:Rat}(h:x<=y):x.floor<=y.floor:=Rat.le_floor_iff.2 (Rat.le_trans (Rat.floor_le x) h)
theorem ceil_mono2{x y:Rat}(h:x<=y):x.ceil<=y.ceil:=(ceil_le_iff _ _).2 (Rat.le_trans h ((ceil_le_iff y y.ceil).1 (Int.le_refl _)))
theorem wh_mono{w:Nat}(hw:w=1\/w=2){a b:Int}(h0:-(M:Int)<=a)(h:a<=b)(h1:b<=M):wh w a<=wh w b:=by
 have hM:=M_val;have ra:=wh_rng (w:=w) (i:=a) (by omega) (by omega);have rb:=wh_rng (w:=w) (i:=b) (by omega) (by omega)
 by_cases ka:a=-(M:Int)
 ·rw [ka,wh_min];exact rb.1
 ·by_cases kb:b=M
  ·rw [kb,wh_max];exact ra.2.1
  ·refine fl_le_iff.1 ?_;rw [(wh_fin (by omega) (by omega) (by omega)).1,(wh_fin (by omega) (by omega) (by omega)).1];refine Rat.intCast_le_intCast.2 ?_
   rcases hw with rfl | rfl
   ·exact floor_mono2 (fl_le_iff.2 h)
   ·exact ceil_mono2 (fl_le_iff.2 h)
theorem bL_mono{w:Nat}{A B:Int}(h:A<=B):bL w A<=bL w B:=by
 have e:(A:Rat)<=B:=Rat.intCast_le_intCast.2 h
 match w with
 | 0=>show (A:Rat) - 1/2<=(B:Rat) - 1/2;grind
 | 1=>show (A:Rat)<=(B:Rat);grind
 | 2=>show (A:Rat) - 1<=(B:Rat) - 1;grind
 | 3=>
  show (if 0<A then (A:Rat) else A - 1)<=(if 0<B then (B:Rat) else B - 1)
  by_cases a:0<A
  ·rw [if_pos a,if_pos (by omega)];grind
  ·rw [if_neg a]
   split<;>grind
 | 4=>show (A:Rat) - 1/2<=(B:Rat) - 1/2;grind
 | w+5=>show (A:Rat) - 1/2<=(B:Rat) - 1/2;grind
theorem bU_mono{w:Nat}{A B:Int}(h:A<=B):bU w A<=bU w B:=by
 have e:(A:Rat)<=B:=Rat.intCast_le_intCast.2 h
 match w with
 | 0=>show (A:Rat)+1/2<=(B:Rat)+1/2;grind
 | 1=>show (A:Rat)+1<=(B:Rat)+1;grind
 | 2=>show (A:Rat)<=(B:Rat);grind
 | 3=>
  show (if A<0 then (A:Rat) else A+1)<=(if B<0 then (B:Rat) else B+1)
  by_cases a:B<0
  ·rw [if_pos a,if_pos (by omega)];grind
  ·rw [if_neg a]
   split<;>grind
 | 4=>show (A:Rat)+1/2<=(B:Rat)+1/2;grind
 | w+5=>show (A:Rat)+1/2<=(B:Rat)+1/2;grind
theorem dn_rng{s:Int}{x:Rat}(h:s=0\/s=1\/s=-1):-(M:Int)<=dn s x/\dn s x<=M:=by
 have hM:=M_val;unfold dn
 split
 ·have:=rndI_down x;omega
 ·rcases h with rfl | rfl | rfl<;>omega
theorem up_rng{s:Int}{x:Rat}(h:s=0\/s=1\/s=-1):-(M:Int)<=up s x/\up s x<=M:=by
 have hM:=M_val;unfold up
 split
 ·have:=rndI_up x;omega
 ·rcases h with rfl | rfl | rfl<;>omega
theorem FL_mono(w:Nat){a b:Int}(h0:-(M:Int)<=a)(h:a<=b)(h1:b<=M):FL w a<=FL w b:=by
 have hM:=M_val;unfold FL
 by_cases ka:a=-(M:Int)
 ·have g:=(dn_rng (x:=bL w (ex b).floor) (es3 b)).1;rw [ka,es_min]
  have e:dn (-1) (bL w (ex (-(M:Int))).floor)=-(M:Int):=by unfold dn;rw [if_neg (by omega)];omega
  rw [e];exact g
 ·by_cases kb:b=M
  ·have g:=(dn_rng (x:=bL w (ex a).floor) (es3 a)).2;rw [kb,es_max]
   have e:dn 1 (bL w (ex (M:Int)).floor)=M:=by unfold dn;rw [if_neg (by omega)];omega
   rw [e];exact g
  ·have e:=es_mid (i:=a) (by omega) (by omega);have e':=es_mid (i:=b) (by omega) (by omega);rw [e,e',ex_zero e,ex_zero e',dn_zero,dn_zero]
   exact rndI_mono (.inl rfl) (bL_mono (floor_mono2 (fl_le_iff.2 h)))
theorem TU_mono(w:Nat){a b:Int}(h0:-(M:Int)<=a)(h:a<=b)(h1:b<=M):TU w a<=TU w b:=by
 have hM:=M_val;unfold TU
 by_cases ka:a=-(M:Int)
 ·have g:=(up_rng (x:=bU w (ex b).floor) (es3 b)).1;rw [ka,es_min]
  have e:up (-1) (bU w (ex (-(M:Int))).floor)=-(M:Int):=by unfold up;rw [if_neg (by omega)];omega
  rw [e];exact g
 ·by_cases kb:b=M
  ·have g:=(up_rng (x:=bU w (ex a).floor) (es3 a)).2;rw [kb,es_max]
   have e:up 1 (bU w (ex (M:Int)).floor)=M:=by unfold up;rw [if_neg (by omega)];omega
   rw [e];exact g
  ·have e:=es_mid (i:=a) (by omega) (by omega);have e':=es_mid (i:=b) (by omega) (by omega);rw [e,e',ex_zero e,ex_zero e',up_zero,up_zero]
   exact rndI_mono (.inr rfl) (bU_mono (floor_mono2 (fl_le_iff.2 h)))
theorem stp_gr{V F T:Int->Int}{c c':Int × Int}{i j:Int}(hx:Ne i j)(e:¬ c.2<c.1)(e':¬ c'.2<c'.1)(h1:wh 2 c'.1<=wh 2 c.1)(h2:wh 1 c.2<=wh 1 c'.2)(h3:F (wh 2 c'.1)<=F (wh 2 c.1))(h4:T (wh 1 c.2)<=T (wh 1 c'.2))(r1:F (wh 2 c'.1)<=M)(r2:-(M:Int)<=T (wh 1 c'.2)):Gr (stp V F T c (i,j)) (stp V F T c' (i,j)):=by
 have hM:=M_val;unfold Ne at hx
 have z1:¬ (c.2<c.1\/j<i):=by omega
 have z2:¬ (c'.2<c'.1\/j<i):=by omega
 unfold stp
 dsimp only
 rw [if_neg z1,if_neg z2];unfold Gr
 by_cases k:wh 1 c.2<wh 2 c.1\/wh 1 c.2<V i\/V j<wh 2 c.1
 ·rw [if_pos k]
  split<;>dsimp only<;>omega
 ·have k':¬ (wh 1 c'.2<wh 2 c'.1\/wh 1 c'.2<V i\/V j<wh 2 c'.1):=by omega
  rw [if_neg k,if_neg k']
  dsimp only;omega
theorem stq_gr{w:Nat}{i2 j2 i2' j2' i j:Int}(n2:Ne i2 j2)(n2':Ne i2' j2')(hx:Ne i j)(b:i2'<=i2/\j2<=j2'):Gr (stq w (i2,j2) (i,j)) (stq w (i2',j2') (i,j)):=by
 have hM:=M_val;have m2:=n2;have m2':=n2';unfold Ne at m2 m2';have r1:=wh_rng (w:=2) (i:=i2) (by omega) (by omega);have r2:=wh_rng (w:=1) (i:=j2) (by omega) (by omega);have r1':=wh_rng (w:=2) (i:=i2') (by omega) (by omega);have r2':=wh_rng (w:=1) (i:=j2') (by omega) (by omega);have a:=wh_mono (w:=2) (.inr rfl) (a:=i2') (b:=i2) (by omega) b.1 (by omega);have c:=wh_mono (w:=1) (.inl rfl) (a:=j2) (b:=j2') (by omega) b.2 (by omega);unfold stq;refine stp_gr hx (by dsimp only;omega) (by dsimp only;omega) a c (FL_mono w r1'.1 a r1.2.1) (TU_mono w r2.1 c r2'.2.1) ?_ ?_
 ·unfold FL;exact (dn_rng (es3 _)).2
 ·unfold TU;exact (up_rng (es3 _)).1
theorem sgq_gr{i2 j2 i2' j2' i j:Int}(n2:Ne i2 j2)(n2':Ne i2' j2')(hx:Ne i j)(b:i2'<=i2/\j2<=j2'):Gr (sgq (i2,j2) (i,j)) (sgq (i2',j2') (i,j)):=by
 have hM:=M_val;have v:=(Cl.sgq n2'.iv).iv _ _ hx.iv;unfold sgq at *
 dsimp only at *
 have m2:=n2;have m2':=n2';unfold Ne at m2 m2'
 by_cases c:min j2 4607182418800017408<max i2 (-4607182418800017408)
 ·have e:it i2 j2 (-4607182418800017408) 4607182418800017408=((M:Int),-(M:Int)):=by unfold it;rw [if_pos (by omega)]
  rw [e,stp_void _ _ _ _ _ _ (.inl (by dsimp only;omega))]
  exact Gr.none v
 ·have e:it i2 j2 (-4607182418800017408) 4607182418800017408=(max i2 (-4607182418800017408),min j2 4607182418800017408):=by unfold it;rw [if_neg (by omega)]
  have e':it i2' j2' (-4607182418800017408) 4607182418800017408=(max i2' (-4607182418800017408),min j2' 4607182418800017408):=by unfold it;rw [if_neg (by omega)]
  rw [e,e'];obtain⟨k1,a1,a2,a3,-⟩:=wh_unit (w:=2) (.inr rfl) (d:=max i2 (-4607182418800017408)) (by omega);obtain⟨k2,b1,b2,b3,-⟩:=wh_unit (w:=1) (.inl rfl) (d:=min j2 4607182418800017408) (by omega);obtain⟨k1',a1',a2',a3',-⟩:=wh_unit (w:=2) (.inr rfl) (d:=max i2' (-4607182418800017408)) (by omega);obtain⟨k2',b1',b2',b3',-⟩:=wh_unit (w:=1) (.inl rfl) (d:=min j2' 4607182418800017408) (by omega);have A:=wh_mono (w:=2) (.inr rfl) (a:=max i2' (-4607182418800017408)) (b:=max i2 (-4607182418800017408)) (by omega) (by omega) (by omega);have C:=wh_mono (w:=1) (.inl rfl) (a:=min j2 4607182418800017408) (b:=min j2' 4607182418800017408) (by omega) (by omega) (by omega)
  have u:∀ k:Int,-1<=k->k<=1->-4607182418800017408<=unI k/\unI k<=4607182418800017408:=fun k h h'=>by unfold unI;split;omega;split;omega;omega
  have u1:=u k1 a1 a2;have u2:=u k2 b1 b2;have u1':=u k1' a1' a2';have u2':=u k2' b1' b2';refine stp_gr hx (by dsimp only;omega) (by dsimp only;omega) A C ?_ ?_ ?_ ?_
  ·dsimp only at *
   unfold sgF
   split<;>split<;>omega
  ·dsimp only at *
   unfold sgT
   split<;>split<;>omega
  ·unfold sgF;split<;>omega
  ·unfold sgT;split<;>omega
noncomputable def opx(k:Nat)(b c:Int × Int)(s t i j:Int):Int × Int:=
 match k with
 | 0=>rar b.1 b.2 c.1 c.2 i j
 | 1=>rar (-b.2) (-b.1) c.1 c.2 i j
 | 2=>rar (-b.2) (-b.1) (-c.2) (-c.1) i j
 | 3=>mlr b.1 b.2 c.1 c.2 i j
 | 4=>dr1 b.1 b.2 c.1 c.2 i j
 | 5=>dr2 b.1 b.2 c.1 c.2 i j
 | 6=>rmr b.1 b.2 c.1 c.2 i j
 | 7=>rmx b c (i,j)
 | 8=>it (-c.2) (-c.1) i j
 | 9=>dr2 K1 K1 c.1 c.2 i j
 | 10=>pwr 2 c.1 c.2 i j
 | 11=>sqt c.1 c.2 i j
 | 12=>abr c.1 c.2 i j
 | 13=>sgq c (i,j)
 | 14=>stq 1 c (i,j)
 | 15=>stq 2 c (i,j)
 | 16=>stq 3 c (i,j)
 | 17=>stq 4 c (i,j)
 | 18=>stq 5 c (i,j)
 | 19=>pwz 3 c.1 c.2 i j
 | 20=>pwz (-2) c.1 c.2 i j
 | 21=>fmr b.1 b.2 c.1 c.2 s t i j
 | _=>fad b.1 b.2 c.1 c.2 s t i j
theorem Cl.opx(k:Nat){b c:Int × Int}{s t:Int}(hb:Iv b.1 b.2)(hc:Iv c.1 c.2)(hs:Iv s t):Cl fun i j=>Go.Proofs.YthlmlmfebpjgdaaGreatDoor.opx k b c s t i j:=by
 match k with
 | 0=>exact Cl.rar hb hc
 | 1=>exact Cl.rar hb.ng hc
 | 2=>exact Cl.rar hb.ng hc.ng
 | 3=>exact Cl.mlr hb hc
 | 4=>exact Cl.dr1 hb hc
 | 5=>exact Cl.dr2 hb hc
 | 6=>exact Cl.rmr hb hc
 | 7=>exact Cl.rmx hb hc
 | 8=>exact Cl.it hc.ng
 | 9=>exact Cl.dr2 K1_iv hc
 | 10=>exact Cl.pwr (by omega) (by omega) hc
 | 11=>exact Cl.sqt hc
 | 12=>exact Cl.abr hc
 | 13=>exact Cl.sgq hc
 | 14=>exact Cl.stq (by omega) hc
 | 15=>exact Cl.stq (by omega) hc
 | 16=>exact Cl.stq (by omega) hc
 | 17=>exact Cl.stq (by omega) hc
 | 18=>exact Cl.stq (by omega) hc
 | 19=>exact Cl.pwz 3 hc
 | 20=>exact Cl.pwz (-2) hc
 | 21=>exact Cl.fmr hb hc hs
 | k+22=>exact Cl.fad hb hc hs
noncomputable def opw(k:Nat)(b c:Int × Int)(i j:Int):Int × Int:=opx k b c i j i j
theorem K1_ne:Ne K1 K1:=by
 have hM:=M_val;unfold Ne K1
 omega
theorem opw_iv(k:Nat){b c:Int × Int}{i j:Int}(hb:Iv b.1 b.2)(hc:Iv c.1 c.2)(hx:Iv i j):Iv (opw k b c i j).1 (opw k b c i j).2:=(Cl.opx k hb hc hx).iv _ _ hx
theorem opw_gr(k:Nat){b c b' c':Int × Int}{i j i' j':Int}(hb:Iv b.1 b.2)(hc:Iv c.1 c.2)(hx:Iv i j)(hb':Iv b'.1 b'.2)(hc':Iv c'.1 c'.2)(hx':Iv i' j')(sb:Gr b b')(sc:Gr c c')(sx:i'<=i/\j<=j'):Gr (opw k b c i j) (opw k b' c' i' j'):=by
 have hM:=M_val;have cl:=Cl.opx k hb' hc' hx';have v':=cl.iv _ _ hx
 show Gr (opx k b c i j i j) (opx k b' c' i' j' i' j')
 have m:=cl.mono i j i' j' hx hx' sx.1 sx.2
 suffices q:Gr (opx k b c i j i j) (opx k b' c' i' j' i j) from q.trans m
 clear m cl
 by_cases ex:j<i
 ·rw [(Cl.opx k hb hc hx).empty hx ex];exact Gr.none v'
 have nx:=ne_or hx ex;have nx':Ne i' j':=ne_or hx' (by omega);unfold Gr at sb sc
 by_cases ec:c.2<c.1
 ·have e:opx k b c i j i j=((M:Int),-(M:Int)):=by
   obtain⟨c1,c2⟩:=c
   dsimp only at ec hc
   have hc0:c1=M/\c2=-(M:Int):=by unfold Iv at hc;omega
   obtain⟨rfl,rfl⟩:=hc0
   have lt:-(M:Int)<M:=by omega
   match k with
   | 0=>show rar b.1 b.2 _ _ i j=_;unfold rar;rw [if_pos (by omega)]
   | 1=>show rar (-b.2) (-b.1) _ _ i j=_;unfold rar;rw [if_pos (by omega)]
   | 2=>show rar (-b.2) (-b.1) _ _ i j=_;unfold rar;rw [if_pos (by dsimp only;omega)]
   | 3=>show mlr b.1 b.2 _ _ i j=_;unfold mlr;rw [if_pos (by omega)]
   | 4=>show dr1 b.1 b.2 _ _ i j=_;unfold dr1;rw [if_pos (by omega)]
   | 5=>show dr2 b.1 b.2 _ _ i j=_;unfold dr2;rw [if_pos (by omega)]
   | 6=>show rmr b.1 b.2 _ _ i j=_;unfold rmr;rw [if_pos (by omega)]
   | 7=>show rmx b _ (i,j)=_;unfold rmx rmr;rw [if_pos (by dsimp only;omega)];exact Prod.ext (by dsimp only;omega) rfl
   | 8=>show it _ _ i j=_;unfold it;rw [if_pos (by dsimp only;omega)]
   | 9=>show dr2 K1 K1 _ _ i j=_;unfold dr2;rw [if_pos (by omega)]
   | 10=>show pwr 2 _ _ i j=_;unfold pwr;rw [if_pos (by omega)]
   | 11=>show sqt _ _ i j=_;unfold sqt;rw [if_pos (by omega)]
   | 12=>show abr _ _ i j=_;unfold abr;rw [if_pos (by omega)]
   | 13=>show sgq _ (i,j)=_;unfold sgq;exact stp_void _ _ _ _ _ _ (.inl (by unfold it;rw [if_pos (by omega)];exact lt))
   | 14=>exact stp_void (wh 1) (FL 1) (TU 1) ((M:Int),-(M:Int)) i j (.inl lt)
   | 15=>exact stp_void (wh 2) (FL 2) (TU 2) ((M:Int),-(M:Int)) i j (.inl lt)
   | 16=>exact stp_void (wh 3) (FL 3) (TU 3) ((M:Int),-(M:Int)) i j (.inl lt)
   | 17=>exact stp_void (wh 4) (FL 4) (TU 4) ((M:Int),-(M:Int)) i j (.inl lt)
   | 18=>exact stp_void (wh 5) (FL 5) (TU 5) ((M:Int),-(M:Int)) i j (.inl lt)
   | 19=>show pwz 3 _ _ i j=_;unfold pwz;rw [if_neg (by omega),if_pos (by omega)]
   | 20=>show pwz (-2) _ _ i j=_;unfold pwz;rw [if_neg (by omega),if_pos (by omega)]
   | 21=>show fmr b.1 b.2 _ _ i j i j=_;unfold fmr;rw [if_pos (by omega)]
   | k+22=>show fad b.1 b.2 _ _ i j i j=_;unfold fad;rw [if_pos (by omega)]
  rw [e];exact Gr.none v'
 have nc:=ne_or hc ec;have nc':Ne c'.1 c'.2:=ne_or hc' (by omega)
 have scn:-c'.2<=-c.2/\-c.1<=-c'.1:=by omega
 by_cases k1:8<=k/\k<=20
 ·match k,k1.1,k1.2 with
  | 8,_,_=>exact it_gr hc'.ng nx scn
  | 9,_,_=>exact dr2_gr K1_ne nc K1_ne nc' nx ⟨Int.le_refl _,Int.le_refl _⟩ sc
  | 10,_,_=>exact pwr_gr (by omega) (by omega) nc nc' nx sc
  | 11,_,_=>exact sqt_gr nc nc' nx sc
  | 12,_,_=>exact abr_gr nc nc' nx sc
  | 13,_,_=>exact sgq_gr nc nc' nx sc
  | 14,_,_=>exact stq_gr nc nc' nx sc
  | 15,_,_=>exact stq_gr nc nc' nx sc
  | 16,_,_=>exact stq_gr nc nc' nx sc
  | 17,_,_=>exact stq_gr nc nc' nx sc
  | 18,_,_=>exact stq_gr nc nc' nx sc
  | 19,_,_=>exact pwz_gr 3 nc nc' nx sc
  | 20,_,_=>exact pwz_gr (-2) nc nc' nx sc
  | 0,h,_ | 1,h,_ | 2,h,_ | 3,h,_ | 4,h,_ | 5,h,_ | 6,h,_ | 7,h,_=>omega
  | k+21,_,h=>omega
 by_cases eb:b.2<b.1
 ·have e:opx k b c i j i j=((M:Int),-(M:Int)):=by
   match k with
   | 0=>show rar b.1 b.2 _ _ i j=_;unfold rar;rw [if_pos (by omega)]
   | 1=>show rar (-b.2) (-b.1) _ _ i j=_;unfold rar;rw [if_pos (by omega)]
   | 2=>show rar (-b.2) (-b.1) _ _ i j=_;unfold rar;rw [if_pos (by omega)]
   | 3=>show mlr b.1 b.2 _ _ i j=_;unfold mlr;rw [if_pos (by omega)]
   | 4=>show dr1 b.1 b.2 _ _ i j=_;unfold dr1;rw [if_pos (by omega)]
   | 5=>show dr2 b.1 b.2 _ _ i j=_;unfold dr2;rw [if_pos (by omega)]
   | 6=>show rmr b.1 b.2 _ _ i j=_;unfold rmr;rw [if_pos (by omega)]
   | 7=>show rmx b _ (i,j)=_;unfold rmx rmr;rw [if_pos (by dsimp only;omega)];exact Prod.ext (by dsimp only;omega) rfl
   | 8 | 9 | 10 | 11 | 12 | 13 | 14 | 15 | 16 | 17 | 18 | 19 | 20=>omega
   | 21=>show fmr b.1 b.2 _ _ i j i j=_;unfold fmr;rw [if_pos (by omega)]
   | k+22=>show fad b.1 b.2 _ _ i j i j=_;unfold fad;rw [if_pos (by omega)]
  rw [e];exact Gr.none v'
 have nb:=ne_or hb eb;have nb':Ne b'.1 b'.2:=ne_or hb' (by omega)
 have sbn:-b'.2<=-b.2/\-b.1<=-b'.1:=by omega
 match k with
 | 0=>exact rar_gr nb nc nb' nc' nx sb sc
 | 1=>exact rar_gr nb.neg nc nb'.neg nc' nx sbn sc
 | 2=>exact rar_gr nb.neg nc.neg nb'.neg nc'.neg nx sbn scn
 | 3=>exact mlr_gr nb nc nb' nc' nx sb sc
 | 4=>exact dr1_gr nb nc nb' nc' nx sb sc
 | 5=>exact dr2_gr nb nc nb' nc' nx sb sc
 | 6=>exact rmr_gr nb nc nb' nc' nx sb sc
 | 7=>exact (rmr_gr nb.neg nc.neg nb'.neg nc'.neg nx.neg sbn scn).ng
 | 8 | 9 | 10 | 11 | 12 | 13 | 14 | 15 | 16 | 17 | 18 | 19 | 20=>omega
 | 21=>exact fmr_gr nb nc nx nb' nc' nx' nx sb sc sx
 | k+22=>exact fad_gr nb nc nx nb' nc' nx' nx sb sc sx
section
open Go.RowKit
attribute [local go_sem] run_store_float
def twoC(k:Nat)(b1 b2 c1 c2 x1 x2 r1 r2:Nat)(W:World):Prop:=
 match k with
 | 0=>Rt 22 #[Zf b1 b2,Zf c1 c2,Zf x1 x2] (Zf r1 r2) W
 | 1=>Rt 23 #[Zf b1 b2,Zf c1 c2,Zf x1 x2] (Zf r1 r2) W
 | 2=>Rt 24 #[Zf b1 b2,Zf c1 c2,Zf x1 x2] (Zf r1 r2) W
 | 3=>Rt 25 #[Zf b1 b2,Zf c1 c2,Zf x1 x2] (Zf r1 r2) W
 | 4=>Rt 26 #[Zf b1 b2,Zf c1 c2,Zf x1 x2] (Zf r1 r2) W
 | 5=>Rt 27 #[Zf b1 b2,Zf c1 c2,Zf x1 x2] (Zf r1 r2) W
 | 6=>Rt 29 #[Zf b1 b2,Zf c1 c2,Zf x1 x2] (Zf r1 r2) W
 | 7=>Rt 30 #[Zf b1 b2,Zf c1 c2,Zf x1 x2] (Zf r1 r2) W
 | 8=>Rt 49 #[Zf c1 c2,Zf x1 x2] (Zf r1 r2) W
 | 9=>Rt 28 #[Zf c1 c2,Zf x1 x2] (Zf r1 r2) W
 | 10=>Rt 14 #[Zf c1 c2,Zf x1 x2] (Zf r1 r2) W
 | 11=>Rt 17 #[Zf c1 c2,Zf x1 x2] (Zf r1 r2) W
 | 12=>Rt 50 #[Zf c1 c2,Zf x1 x2] (Zf r1 r2) W
 | 13=>Rt 54 #[Zf c1 c2,Zf x1 x2] (Zf r1 r2) W
 | 14=>Rt 55 #[Zf c1 c2,Zf x1 x2] (Zf r1 r2) W
 | 15=>Rt 56 #[Zf c1 c2,Zf x1 x2] (Zf r1 r2) W
 | 16=>Rt 57 #[Zf c1 c2,Zf x1 x2] (Zf r1 r2) W
 | 17=>Rt 59 #[Zf c1 c2,Zf x1 x2] (Zf r1 r2) W
 | 18=>Rt 60 #[Zf c1 c2,Zf x1 x2] (Zf r1 r2) W
 | 19=>Rt 39 #[.int .i64 3,Zf c1 c2,Zf x1 x2] (Zf r1 r2) W
 | 20=>Rt 39 #[.int .i64 (-2),Zf c1 c2,Zf x1 x2] (Zf r1 r2) W
 | 21=>Rt 31 #[Zf b1 b2,Zf c1 c2,Zf x1 x2,Zf x1 x2] (Zf r1 r2) W
 | _=>Rt 32 #[Zf b1 b2,Zf c1 c2,Zf x1 x2,Zf x1 x2] (Zf r1 r2) W
set_option maxRecDepth 8000 in
theorem two_all(k:Nat)(hk:k<=22)(b1 b2 c1 c2 x1 x2 r1 r2:Nat)(w:World)(hF:∀ W,Tab W->twoC k b1 b2 c1 c2 x1 x2 r1 r2 W)(hT:Tab w):
  Rt 70 #[.int .i64 (k:Int),Zf b1 b2,Zf c1 c2,Zf x1 x2] (Zf r1 r2) w:=by
 have hs:k=0\/k=1\/k=2\/k=3\/k=4\/k=5\/k=6\/k=7\/k=8\/k=9\/k=10\/k=11\/k=12\/k=13\/k=14\/k=15\/k=16\/k=17\/k=18\/k=19\/k=20\/k=21\/k=22:=by omega
 clear hk
 rcases hs with rfl | rfl | rfl | rfl | rfl | rfl | rfl | rfl | rfl | rfl | rfl | rfl | rfl | rfl | rfl | rfl | rfl | rfl | rfl | rfl | rfl | rfl | rfl
 all_goals
  dsimp only [twoC] at hF
  have HF:=Hd hF;clear hF;have LL:=li4 w (Zv b1 b2) 28 (Zv c1 c2) 28 (Zv x1 x2) 28 (Zv 0 0) 28;have HT:=Hd (hT.below LL.out.b);clear hT
  go_enter Tryz.func70,Tryz.ntmps70
  obtain⟨q1_0,q1_1⟩:=(LL.out.blk 0 rfl).c2;obtain⟨q2_0,q2_1⟩:=(LL.out.blk 1 rfl).c2;obtain⟨q3_0,q3_1⟩:=(LL.out.blk 2 rfl).c2;go_wp2_with fail;refine cx (HF.out _ HT.out) fun wk hb=>?_;replace LL:=stL LL hb;replace HT:=Hd (HT.out.below hb);clear hb q1_0 q1_1 q2_0 q2_1 q3_0 q3_1;clear HT;replace LL:=Hd (LL.out.loose3 rfl);obtain⟨ha8_0,hf8_0,ha8_1,hf8_1⟩:=(LL.out.has 0 rfl).sf2;have LF:=Hd (LL.out.wr [.float .f64 r1,.float .f64 r2]);obtain⟨hk8_0,hk8_1⟩:=(LF.out.blk 3 rfl).c2
  simp [sets] at hk8_0 hk8_1
  clear LL;go_wp2;refine bodyPost_ret (v:=Zf r1 r2) (by simp [results,Tryz.results70,go_sem,hk8_0,hk8_1]) rfl ?_
  exact⟨rfl,LF.out.b⟩
end
section
open Go.RowKit Ieee
theorem and_high{a k:Nat}(ha:a<2^64)(hk:k<=64):a &&& (2^64 - 2^k)=a / 2^k*2^k:=by
 have e1:2^64 - 2^k=(2^(64 - k) - 1) <<< k:=by
  rw [Nat.shiftLeft_eq,Nat.sub_mul,<- Nat.pow_add,Nat.one_mul];congr 2;omega
 have e2:a / 2^k*2^k=(a >>> k) <<< k:=by rw [Nat.shiftLeft_eq,Nat.shiftRight_eq_div_pow]
 rw [e1,e2]
 apply Nat.eq_of_testBit_eq
 intro i;rw [Nat.testBit_and,Nat.testBit_shiftLeft,Nat.testBit_shiftLeft,Nat.testBit_shiftRight,Nat.testBit_two_pow_sub_one]
 by_cases c:k<=i
 ·rw [show k+(i - k)=i by omega]
  by_cases d:i<64
  ·simp [c,show i - k<64 - k by omega]
  ·have:a.testBit i=false:=Nat.testBit_lt_two_pow (Nat.lt_of_lt_of_le ha (Nat.pow_le_pow_right (by omega) (by omega)))
   simp [this]
 ·simp [c]
theorem wI_pos{q D H:Int}(hD:D=2*H)(hH:0<H)(hq:0<=q):wI q D=(q+H) / D:=by
 have h1:=Int.mul_ediv_add_emod q D;have h2:=Int.emod_nonneg q (show D≠0 by omega);have h3:=Int.emod_lt_of_pos q (show 0<D by omega);unfold wI;generalize q / D=Q at *;generalize q % D=r at *;rw [<- h1]
 by_cases c:H<=r
 ·rw [if_pos (by omega)]
  have:D*Q+r+H=(r+H - D)+D*(Q+1):=by rw [Int.mul_add];omega
  rw [this,Int.add_mul_ediv_left _ _ (by omega),Int.ediv_eq_zero_of_lt (by omega) (by omega)];omega
 ·rw [if_neg (by omega)]
  have:D*Q+r+H=(r+H)+D*Q:=by omega
  rw [this,Int.add_mul_ediv_left _ _ (by omega),Int.ediv_eq_zero_of_lt (by omega) (by omega)];omega
theorem wI_neg{q D H:Int}(hD:D=2*H)(hH:0<H)(hq:0<q):wI (-q) D=-((q+H) / D):=by
 rw [<- wI_pos hD hH (by omega)];obtain⟨a,b⟩:=neg_div (a:=q) (D:=D) (by omega);have h2:=Int.emod_nonneg q (show D≠0 by omega);have h3:=Int.emod_lt_of_pos q (show 0<D by omega);unfold wI;rw [a,b];generalize q / D=Q at *;generalize q % D=r at *
 by_cases c:r=0
 ·subst c
  simp only [if_true]
  rw [if_neg (by omega),if_neg (by omega)];omega
 ·rw [if_neg c,if_neg c]
  by_cases d:H<=r
  ·rw [if_neg (by omega),if_pos (by omega)];omega
  ·rw [if_pos (by omega),if_neg (by omega)];omega
theorem fl_inj{i j:Int}(h:fl i=fl j):i=j:=by
 have h1:=fl_le_iff (i:=i) (j:=j);have h2:=fl_le_iff (i:=j) (j:=i);have:=h1.1 (by rw [h];exact Rat.le_refl);have:=h2.1 (by rw [h];exact Rat.le_refl)
 omega
theorem wh_of{w:Nat}(hw:1<=w){i j:Int}(h0:-(M:Int)<i)(h1:i<M)(h:fl j=(rK w (fl i):Rat)):wh w i=j:=fl_inj ((wh_fin hw h0 h1).1.trans h.symm)
theorem fl_half':fl 4602678819172646912=1/2:=by decide +kernel
theorem fl_one':fl 4607182418800017408=1:=by decide +kernel
theorem away_small{x:Rat}(h0:-(1/2:Rat)<x)(h1:x<1/2):rK 5 x=0:=by
 have a:=(le_rK (w:=5) (by omega) 0 x).2 (.inl (by show (0:Rat) - 1/2<x;grind));have b:=(rK_le (w:=5) (by omega) 0 x).2 (.inl (by show x<(0:Rat)+1/2;grind))
 omega
theorem away_one{x:Rat}(h0:(1/2:Rat)<=x)(h1:x<1):rK 5 x=1:=by
 have a:=(le_rK (w:=5) (by omega) 1 x).2 (by
  show ((1:Rat) - 1/2<x\/x=(1:Rat) - 1/2/\decide ((1:Int)<=0)=false)
  by_cases c:x=1/2
  ·exact .inr ⟨by grind,rfl⟩
  ·exact .inl (by grind))
 have b:=(rK_le (w:=5) (by omega) 1 x).2 (.inl (by show x<(1:Rat)+1/2;grind))
 omega
theorem away_mone{x:Rat}(h0:x<=-(1/2:Rat))(h1:-1<x):rK 5 x=-1:=by
 have a:=(le_rK (w:=5) (by omega) (-1) x).2 (.inl (by show ((-1:Int):Rat) - 1/2<x;have:((-1:Int):Rat)=-1:=rfl;grind))
 have b:=(rK_le (w:=5) (by omega) (-1) x).2 (by
  show (x<((-1:Int):Rat)+1/2\/x=((-1:Int):Rat)+1/2/\decide ((0:Int)<=-1)=false)
  have e:((-1:Int):Rat)=-1:=rfl
  by_cases c:x=-(1/2)
  ·exact .inr ⟨by grind,rfl⟩
  ·exact .inl (by grind))
 omega
theorem away_mid{t k q D H:Nat}(hk:t=k*2^52+q)(hq:2^52<=q)(hq2:q<2^53)(hD:D=2*H)(hH:0<H)(hDk:D*2^k=2^1074)(hd:D ∣ 2^52):
  fl (((t+H) / D*D:Nat):Int)=(((q+H) / D:Nat):Rat)/\fl (t:Int)*(D:Int)=((q:Int):Rat):=by
 obtain⟨U,hU⟩:∃ U:Nat,U=1074:=⟨_,rfl⟩
 rw [<- hU] at hDk;obtain⟨c,hc⟩:=hd
 have hD0:0<D:=by omega
 have e1:(t+H) / D*D=k*2^52+(q+H) / D*D:=by
  have:t+H=q+H+D*(k*c):=by rw [hk,hc,show D*(k*c)=k*(D*c) by ac_rfl];omega
  rw [this,Nat.add_mul_div_left _ _ hD0,Nat.add_mul,hc]
  have:k*c*D=k*(D*c):=by ac_rfl
  omega
 have q1:2^52<=(q+H) / D*D:=by
  rw [hc,Nat.mul_comm D c];refine Nat.mul_le_mul_right _ ?_;rw [Nat.le_div_iff_mul_le hD0,Nat.mul_comm,<- hc];omega
 have q2:(q+H) / D*D<=2^53:=by
  have h53:2^53=(2*c)*D:=by
   have:(2:Nat)^53=2*2^52:=by rw [<- Nat.pow_succ']
   rw [this,hc];ac_rfl
  rw [h53];refine Nat.mul_le_mul_right _ ?_
  have h4:(q+H) / D<2*c+1:=by
   rw [Nat.div_lt_iff_lt_mul hD0,Nat.add_mul,<- h53];omega
  omega
 have m1:=mag_form k ((q+H) / D*D) (.inr q1) q2;have m2:=mag_form k q (.inr hq) (by omega);rw [<- e1] at m1;rw [<- hk] at m2
 constructor
 ·have f:=fl_mul hU (((t+H) / D*D:Nat):Int);rw [val_nat,m1,Nat.mul_assoc,hDk] at f
  have f2:fl (((t+H) / D*D:Nat):Int)*P2 U=(((q+H) / D:Nat):Rat)*P2 U:=by
   unfold P2;rw [f]
   push_cast
   rfl
  exact P2_cancel f2
 ·have f:=fl_mul hU (t:Int);rw [val_nat,m2,<- hDk] at f
  have f2:(fl (t:Int)*(D:Int))*P2 k=((q:Int):Rat)*P2 k:=by
   unfold P2
   have:(((D*2^k:Nat):Int):Rat)=((D:Int):Rat)*(((2^k:Nat):Int):Rat):=by push_cast;rfl
   rw [this] at f
   have g:(((q*2^k:Nat):Int):Rat)=((q:Int):Rat)*(((2^k:Nat):Int):Rat):=by push_cast;rfl
   rw [g] at f
   grind
  exact P2_cancel f2
end
section
open Go.RowKit Ieee
attribute [local go_sem] run_frombits run_bitsof
theorem wrap_id{b P:Nat}(h:b+P<18446744073709551616):((b:Int)+(P:Int)) % 18446744073709551616=((b+P:Nat):Int):=by omega
def rW(b:Nat):Nat:=
 if rungOf b / 4503599627370496<1022 then b / 9223372036854775808*9223372036854775808
 else if rungOf b / 4503599627370496=1022 then b / 9223372036854775808*9223372036854775808+4607182418800017408
 else if rungOf b / 4503599627370496<1075 then (b+2^(1074 - rungOf b / 4503599627370496)) / 2^(1075 - rungOf b / 4503599627370496)*2^(1075 - rungOf b / 4503599627370496)
 else b
set_option maxRecDepth 8000 in
theorem round_walk(b:Nat)(w:World)(hb:b<18446744073709551616):
  Calls Tryz.prog 136 #[.float .f64 b] w fun e w'=>e=.returned (.float .f64 (rW b))/\w=w':=by
 obtain⟨e,he⟩:∃ e,rungOf b / 4503599627370496=e:=⟨_,rfl⟩
 have he2:b / 4503599627370496 % 2048=e:=by rw [<- he];unfold rungOf;omega
 unfold rW;rw [he];clear he
 have m2:bits .and .u64 ((b:Int) / 4503599627370496) 2047=(e:Int):=by
  have h:=mask11_u64 (x:=b / 4503599627370496) (by omega);rw [he2,show ((b / 4503599627370496:Nat):Int)=(b:Int) / 4503599627370496 from by omega] at h
  exact h
 obtain⟨S,hS⟩:∃ S,b / 9223372036854775808*9223372036854775808=S:=⟨_,rfl⟩
 have m3:bits .and .u64 (b:Int) 9223372036854775808=(S:Int):=by
  have h:=u64_and_nat b 9223372036854775808 hb (by omega);rw [show (9223372036854775808:Nat)=2^64 - 2^63 by decide,and_high (k:=63) hb (by omega),show (2:Nat)^63=9223372036854775808 by decide,hS] at h
  exact h
 have m4:bits .or .u64 (S:Int) 4607182418800017408=((S+4607182418800017408:Nat):Int):=by
  have h:=or_join (i:=63) (x:=b / 9223372036854775808) (y:=4607182418800017408) (by omega) (by omega) (by omega);rw [show (2:Nat)^63=9223372036854775808 by decide,hS] at h
  exact h
 have ff:=fun W=>run_bitsof b W;rw [hS]
 by_cases c1:e<1022
 ·rw [if_pos c1]
  have g0:(e:Int)<1023:=by omega
  have g1:((e:Int) == 1022)=false:=by simp;omega
  clear m4 hS he2 c1 hb
  go_enter Tryz.func136,Tryz.ntmps136
  go_wp2
  go_ret
  exact⟨rfl,rfl⟩
 by_cases c2:e=1022
 ·rw [if_neg c1,if_pos c2];subst c2
  obtain⟨V,hV⟩:∃ V,S+4607182418800017408=V:=⟨_,rfl⟩
  rw [hV] at m4 ⊢;have fr:=fun W=>run_frombits V W;clear hS he2 c1 hb hV
  go_enter Tryz.func136,Tryz.ntmps136
  go_wp2
  go_ret
  exact⟨rfl,rfl⟩
 have g0:¬ (e:Int)<1023:=by omega
 by_cases c3:e<1075
 ·rw [if_neg c1,if_neg c2,if_pos c3]
  have g1:(e:Int)<1075:=by omega
  obtain⟨j,hj⟩:∃ j,e - 1023=j:=⟨_,rfl⟩
  have hj2:j<=51:=by omega
  have s1:(2251799813685248:Int) / 2 ^ j=((2^(51 - j):Nat):Int):=by
   have:(2251799813685248:Nat) / 2^j=2^(51 - j):=by
    rw [show (2251799813685248:Nat)=2^51 by decide,Nat.pow_div (by omega) (by omega)]
   rw [<- this];simp
  have s2:(4503599627370495:Int) / 2 ^ j=((2^(52 - j) - 1:Nat):Int):=by
   have h52:2^52=2^j*2^(52 - j):=by rw [<- Nat.pow_add];congr 1;omega
   have hp:=Nat.two_pow_pos j;have hp2:=Nat.two_pow_pos (52 - j)
   have:(4503599627370495:Nat) / 2^j=2^(52 - j) - 1:=by
    have hd:(4503599627370495:Nat)=2^j*(2^(52 - j) - 1)+(2^j - 1):=by
     rw [Nat.mul_sub,Nat.mul_one,<- h52];have:2^j<=2^52:=Nat.pow_le_pow_right (by omega) (by omega)
     omega
    rw [hd,Nat.mul_add_div hp,Nat.div_eq_of_lt (by omega)];omega
   rw [<- this];simp
  obtain⟨r,hr⟩:∃ r,(b+2^(1074 - e)) / 2^(1075 - e)*2^(1075 - e)=r:=⟨_,rfl⟩
  have e51:51 - j=1074 - e:=by omega
  have e52:52 - j=1075 - e:=by omega
  have hle:2^(51 - j)<=2^51:=Nat.pow_le_pow_right (by omega) (by omega)
  have hlt:b+2^(51 - j)<18446744073709551616:=by
   have:b % 9223372036854775808<1075*4503599627370496:=by omega
   omega
  have hX:bits .andNot .u64 (IntKind.u64.wrap ((b:Int)+2251799813685248 / 2 ^ (e - 1023))) (4503599627370495 / 2 ^ (e - 1023))=(r:Int):=by
   rw [hj,s1,s2,IntKind.wrap_u64,wrap_id hlt];have hp2:=Nat.two_pow_pos (52 - j);have hp3:2^(52 - j)<=2^64:=Nat.pow_le_pow_right (by omega) (by omega);have h:=u64_andNot_nat (b+2^(51 - j)) (2^(52 - j) - 1) hlt (by omega);rw [show (18446744073709551615 - (2^(52 - j) - 1):Nat)=2^64 - 2^(52 - j) by omega,and_high hlt (by omega)] at h;rw [h,e51,e52,hr]
  rw [hr];clear hr s1 s2 hle hlt hj hj2 e51 e52 c1 c2 c3 m3 m4 hS hb he2
  go_enter Tryz.func136,Tryz.ntmps136
  go_wp2
  go_ret
  exact⟨rfl,rfl⟩
 ·rw [if_neg c1,if_neg c2,if_neg c3]
  have g1:¬ (e:Int)<1075:=by omega
  have fr:=fun W=>run_frombits b W;clear c1 c2 c3 m3 m4 hS hb he2
  go_enter Tryz.func136,Tryz.ntmps136
  go_wp2
  go_ret
  exact⟨rfl,rfl⟩
theorem is_parts{S t:Nat}(hS:S=0\/S=9223372036854775808)(ht:t<=M):Is (S+t) (if S=0 then (t:Int) else -(t:Int)):=by
 have hM:=M_val;have c:=pat_cases (b:=S+t) (by omega);refine⟨by omega,by unfold real;omega,?_⟩
 rcases hS with rfl | rfl
 ·rw [if_pos rfl];omega
 ·rw [if_neg (by omega)];omega
theorem fl_parts2(S t:Nat):fl (if S=0 then (t:Int) else -(t:Int))=if S=0 then fl (t:Int) else - fl (t:Int):=by split<;>simp [fl_neg]
theorem rung_sum{t n q:Nat}(he:t / 4503599627370496=n+1)(hq:q=4503599627370496+t % 4503599627370496):n*2^52+q=t:=by
 rw [show (2:Nat)^52=4503599627370496 by decide]
 omega
theorem rW_is{b:Nat}(hb:b<18446744073709551616)(h:real b):Is (rW b) (wh 5 (idx b)):=by
 have hM:=M_val;have hpc:=pat_cases hb
 obtain⟨t,ht⟩:∃ t,rungOf b=t:=⟨_,rfl⟩
 obtain⟨S,hS⟩:∃ S,b / 9223372036854775808*9223372036854775808=S:=⟨_,rfl⟩
 have htM:t<=M:=by rw [<- ht];exact h
 have hS2:S=0\/S=9223372036854775808:=by omega
 have hbS:b=S+t:=by omega
 have hi:idx b=if S=0 then (t:Int) else -(t:Int):=by split<;>omega
 unfold rW;rw [ht,hS,hi];clear hpc ht hi hb h
 have rng:t<M->-(M:Int)<(if S=0 then (t:Int) else -(t:Int))/\(if S=0 then (t:Int) else -(t:Int))<M:=fun h=>by split<;>omega
 have fin:∀ t2:Nat,t2<=M->t<M->fl (t2:Int)=(rK 5 (fl (t:Int)):Rat)->- fl (t2:Int)=(rK 5 (- fl (t:Int)):Rat)->Is (S+t2) (wh 5 (if S=0 then (t:Int) else -(t:Int))):=fun t2 h2 h1 a b=>by
  have e:=wh_of (w:=5) (by omega) (rng h1).1 (rng h1).2 (j:=if S=0 then (t2:Int) else -(t2:Int)) (by
   rw [fl_parts2,fl_parts2]
   split
   ·exact a
   ·exact b)
  rw [e]
  exact is_parts hS2 h2
 have f0:(0:Rat)<=fl (t:Int):=by rw [<- fl_zero];exact fl_le_iff.2 (by omega)
 by_cases c1:t / 4503599627370496<1022
 ·rw [if_pos c1]
  have f1:fl (t:Int)<1/2:=by rw [<- fl_half'];exact fl_lt_iff.2 (by omega)
  refine fin 0 (by omega) (by omega) ?_ ?_
  ·rw [away_small (by grind) f1];exact fl_zero
  ·rw [away_small (by grind) (by grind)];rw [show ((0:Nat):Int)=0 from rfl,fl_zero];grind
 by_cases c2:t / 4503599627370496=1022
 ·rw [if_neg c1,if_pos c2]
  have f1:(1/2:Rat)<=fl (t:Int):=by rw [<- fl_half'];exact fl_le_iff.2 (by omega)
  have f2:fl (t:Int)<1:=by rw [<- fl_one'];exact fl_lt_iff.2 (by omega)
  refine fin 4607182418800017408 (by omega) (by omega) ?_ ?_
  ·rw [away_one f1 f2];exact fl_one'
  ·rw [away_mone (by grind) (by grind)];exact congrArg Neg.neg fl_one'
 by_cases c3:t / 4503599627370496<1075
 ·rw [if_neg c1,if_neg c2,if_pos c3]
  obtain⟨e,he⟩:∃ e,t / 4503599627370496=e:=⟨_,rfl⟩
  rw [he] at c1 c2 c3 ⊢
  obtain⟨k,rfl⟩:∃ k,e=k+1:=⟨e - 1,by omega⟩
  obtain⟨H,hH⟩:∃ H,2^(1074 - (k+1))=H:=⟨_,rfl⟩
  obtain⟨D,hD⟩:∃ D,2^(1075 - (k+1))=D:=⟨_,rfl⟩
  have hH0:0<H:=by rw [<- hH];exact Nat.two_pow_pos _
  have hHl:H<=4503599627370496:=by
   rw [<- hH,show (4503599627370496:Nat)=2^52 by decide];exact Nat.pow_le_pow_right (by omega) (by omega)
  have hDH:D=2*H:=by rw [<- hH,<- hD,<- Nat.pow_succ'];congr 1;omega
  have hDk:D*2^k=2^1074:=by rw [<- hD,<- Nat.pow_add];congr 1;omega
  have hd52:D ∣ 2^52:=by rw [<- hD];exact Nat.pow_dvd_pow 2 (by omega)
  have hd63:D ∣ S:=by
   have:D ∣ 9223372036854775808:=by rw [<- hD,show (9223372036854775808:Nat)=2^63 by decide];exact Nat.pow_dvd_pow 2 (by omega)
   rcases hS2 with rfl | rfl
   ·exact Nat.dvd_zero D
   ·exact this
  rw [hH,hD]
  obtain⟨q,hq⟩:∃ q,q=4503599627370496+t % 4503599627370496:=⟨_,rfl⟩
  obtain⟨a1,a2⟩:=away_mid (t:=t) (k:=k) (q:=q) (by rw [show (2:Nat)^52=4503599627370496 by decide];omega) (by rw [show (2:Nat)^52=4503599627370496 by decide];omega) (by rw [show (2:Nat)^53=9007199254740992 by decide];omega) hDH hH0 hDk hd52
  have hD0:0<D:=by omega
  have er:(b+H) / D*D=S+(t+H) / D*D:=by
   obtain⟨c,hc⟩:=hd63;rw [hbS,hc,show D*c+t+H=t+H+D*c by omega,Nat.add_mul_div_left _ _ hD0,Nat.add_mul,Nat.mul_comm c D,Nat.add_comm]
  have hle:(t+H) / D*D<=t+H:=Nat.div_mul_le_self _ _
  have ei:(((q+H) / D:Nat):Int)=((q:Int)+(H:Int)) / (D:Int):=by push_cast;rfl
  have w1:=wI_rK (x:=fl (t:Int)) (a:=(q:Int)) (D:=(D:Int)) (by omega) a2;have w2:=wI_rK (x:=- fl (t:Int)) (a:=-(q:Int)) (D:=(D:Int)) (by omega) (by rw [Rat.intCast_neg,<- a2];grind);rw [wI_pos (H:=(H:Int)) (by omega) (by omega) (by omega),<- ei] at w1;rw [wI_neg (H:=(H:Int)) (by omega) (by omega) (by omega),<- ei] at w2;rw [er];refine fin _ (by omega) (by omega) ?_ ?_
  ·rw [a1,<- w1];rfl
  ·rw [a1,<- w2,Rat.intCast_neg];rfl
 ·rw [if_neg c1,if_neg c2,if_neg c3,hbS]
  by_cases hm:t=M
  ·subst hm
   have e:wh 5 (if S=0 then ((M:Nat):Int) else -((M:Nat):Int))=if S=0 then ((M:Nat):Int) else -((M:Nat):Int):=by
    split
    ·exact wh_max 5
    ·exact wh_min 5
   rw [e]
   exact is_parts hS2 htM
  ·obtain⟨e,he⟩:∃ e,t / 4503599627370496=e:=⟨_,rfl⟩
   rw [he] at c1 c2 c3
   obtain⟨U,hU⟩:∃ U:Nat,U=1074:=⟨_,rfl⟩
   obtain⟨k,hk⟩:∃ k,e=k+U+1:=⟨e - 1 - U,by omega⟩
   obtain⟨q,hq⟩:∃ q,q=4503599627370496+t % 4503599627370496:=⟨_,rfl⟩
   have hmag:=mag_form (k+U) q (.inr (by rw [show (2:Nat)^52=4503599627370496 by decide];omega)) (by rw [show (2:Nat)^53=9007199254740992 by decide];omega);rw [rung_sum (he.trans hk) hq] at hmag
   have hz:fl (t:Int)=(((q*2^k:Nat):Int):Rat):=by
    have f:=fl_mul hU (t:Int);rw [val_nat,hmag] at f
    have f2:fl (t:Int)*P2 U=(((q*2^k:Nat):Int):Rat)*P2 U:=by
     unfold P2;rw [f,<- Rat.intCast_mul,<- Int.natCast_mul,Nat.mul_assoc,<- Nat.pow_add]
    exact P2_cancel f2
   refine fin t htM (by omega) ?_ ?_
   ·rw [hz,rK_int (by omega)]
   ·rw [hz,<- Rat.intCast_neg,rK_int (by omega)]
theorem val_away(w:World):ValFn w 136 rW:=.inl ⟨enters_of Tryz.func136 (by kernel_rfl) rfl,fun i h0 h1 W _=>calls_below (round_walk (pat i) W (is_pat ⟨h0,h1⟩).lt)⟩
theorem rW_idx(i:Int)(h0:-(M:Int)<=i)(h1:i<=M):Is (rW (pat i)) (wh 5 i):=by
 have h:=rW_is (is_pat ⟨h0,h1⟩).lt (is_pat ⟨h0,h1⟩).real
 rwa [idx_pat h0 h1] at h
theorem awayrev_any(c1 c2 x y:Nat)(w:World)(hc1:c1<18446744073709551616)(hc2:c2<18446744073709551616)(hx:x<18446744073709551616)(hy:y<18446744073709551616):
  Rt 60 #[Zf c1 c2,Zf x y] (Zf (pat (stq 5 (rd c1 c2) (rd x y)).1) (pat (stq 5 (rd c1 c2) (rd x y)).2)) w:=
 away_walk c1 c2 x y _ _ w fun W B0 B1 h0 h1=>step_idx _ _ _ _ _ _ _ _ _ c1 c2 x y W hc1 hc2 hx hy rW_idx (val_away W)
  ⟨enters_of Tryz.func197 (by kernel_rfl) rfl,enters_of Tryz.func194 (by kernel_rfl) rfl,ahead_fn 5 (b:=4602678819172646912) (by have:=M_val;omega) (fun A=>by rw [fl_half];rfl) h0,behind_fn 5 (b:=4602678819172646912) (by have:=M_val;omega) (fun A=>by rw [fl_half];rfl) h1⟩
end
section
open Go.RowKit
attribute [local go_sem] run_store_float
set_option maxRecDepth 8000 in
theorem subset_none1(u1 u2 v1 v2 p1 p2 q1 q2:Nat)(w:World)(hB:∀ W,Rt 138 #[Zf u1 u2,Zf v1 v2] (.tuple #[Zf p1 p2,Zf q1 q2,.int .i64 1]) W):Rt 66 #[Zf u1 u2,Zf v1 v2] (.bool true) w:=by
 have ok:bits .and .i64 1 1=1:=by decide
 have HB:=Hd hB;clear hB;have LL:=li2 w (Zv u1 u2) 28 (Zv v1 v2) 28
 go_enter Tryz.func66,Tryz.ntmps66
 obtain⟨q1_0,q1_1⟩:=(LL.out.blk 0 rfl).c2;obtain⟨q2_0,q2_1⟩:=(LL.out.blk 1 rfl).c2;go_wp2_with fail;refine cx (HB.out _) fun wk hb=>?_;replace LL:=stL LL hb;clear hb q1_0 q1_1 q2_0 q2_1;obtain⟨q3_0,q3_1⟩:=(LL.out.blk 0 rfl).c2;obtain⟨q4_0,q4_1⟩:=(LL.out.blk 1 rfl).c2;have fz20:=(LL.out.blk 0 rfl).frozen 0;have fz21:=(LL.out.blk 0 rfl).frozen 1;have fz30:=(LL.out.blk 1 rfl).frozen 0;have fz31:=(LL.out.blk 1 rfl).frozen 1
 go_upto_region 2 with fail
 clear q3_0 q3_1 q4_0 q4_1 fz20 fz21 fz30 fz31;replace LL:=Hd (LL.out.part 0 rfl 0 [.float .f64 p1,.float .f64 p2] (by omega) (by simp<;>omega) (by simp<;>omega))
 simp only [List.eraseIdx,laid,List.cons_append,List.nil_append,List.setIfInBounds_toArray,List.set_cons_zero,List.set_cons_succ,Nat.zero_add,Nat.reduceAdd] at LL
 replace LL:=Hd (LL.out.part 0 rfl 0 [.float .f64 q1,.float .f64 q2] (by omega) (by simp<;>omega) (by simp<;>omega))
 simp only [List.eraseIdx,laid,List.cons_append,List.nil_append,List.setIfInBounds_toArray,List.set_cons_zero,List.set_cons_succ,Nat.zero_add,Nat.reduceAdd] at LL
 obtain⟨wn,hwn⟩:∃ X,(sets (sets wk w.heap.size 0 [.float .f64 p1,.float .f64 p2]) (w.heap.size+1) 0 [.float .f64 q1,.float .f64 q2])=X:=⟨_,rfl⟩
 rw [hwn] at LL
 simp only [sets,Nat.reduceAdd] at hwn
 rw [hwn];clear hwn;obtain⟨q5_0,q5_1⟩:=(LL.out.blk 0 rfl).c2;obtain⟨q6_0,q6_1⟩:=(LL.out.blk 1 rfl).c2;go_wp2
 go_ret
 exact⟨rfl,LL.out.b⟩
set_option maxRecDepth 8000 in
theorem subset_none3(u1 u2 v1 v2 p1 p2 q1 q2:Nat)(w:World)(hB:∀ W,Rt 138 #[Zf u1 u2,Zf v1 v2] (.tuple #[Zf p1 p2,Zf q1 q2,.int .i64 3]) W):Rt 66 #[Zf u1 u2,Zf v1 v2] (.bool true) w:=by
 have ok:bits .and .i64 3 1=1:=by decide
 have HB:=Hd hB;clear hB;have LL:=li2 w (Zv u1 u2) 28 (Zv v1 v2) 28
 go_enter Tryz.func66,Tryz.ntmps66
 obtain⟨q1_0,q1_1⟩:=(LL.out.blk 0 rfl).c2;obtain⟨q2_0,q2_1⟩:=(LL.out.blk 1 rfl).c2;go_wp2_with fail;refine cx (HB.out _) fun wk hb=>?_;replace LL:=stL LL hb;clear hb q1_0 q1_1 q2_0 q2_1;obtain⟨q3_0,q3_1⟩:=(LL.out.blk 0 rfl).c2;obtain⟨q4_0,q4_1⟩:=(LL.out.blk 1 rfl).c2;have fz20:=(LL.out.blk 0 rfl).frozen 0;have fz21:=(LL.out.blk 0 rfl).frozen 1;have fz30:=(LL.out.blk 1 rfl).frozen 0;have fz31:=(LL.out.blk 1 rfl).frozen 1
 go_upto_region 2 with fail
 clear q3_0 q3_1 q4_0 q4_1 fz20 fz21 fz30 fz31;replace LL:=Hd (LL.out.part 0 rfl 0 [.float .f64 p1,.float .f64 p2] (by omega) (by simp<;>omega) (by simp<;>omega))
 simp only [List.eraseIdx,laid,List.cons_append,List.nil_append,List.setIfInBounds_toArray,List.set_cons_zero,List.set_cons_succ,Nat.zero_add,Nat.reduceAdd] at LL
 replace LL:=Hd (LL.out.part 0 rfl 0 [.float .f64 q1,.float .f64 q2] (by omega) (by simp<;>omega) (by simp<;>omega))
 simp only [List.eraseIdx,laid,List.cons_append,List.nil_append,List.setIfInBounds_toArray,List.set_cons_zero,List.set_cons_succ,Nat.zero_add,Nat.reduceAdd] at LL
 obtain⟨wn,hwn⟩:∃ X,(sets (sets wk w.heap.size 0 [.float .f64 p1,.float .f64 p2]) (w.heap.size+1) 0 [.float .f64 q1,.float .f64 q2])=X:=⟨_,rfl⟩
 rw [hwn] at LL
 simp only [sets,Nat.reduceAdd] at hwn
 rw [hwn];clear hwn;obtain⟨q5_0,q5_1⟩:=(LL.out.blk 0 rfl).c2;obtain⟨q6_0,q6_1⟩:=(LL.out.blk 1 rfl).c2;go_wp2
 go_ret
 exact⟨rfl,LL.out.b⟩
set_option maxRecDepth 8000 in
theorem subset_some(u1 u2 v1 v2 p1 p2 q1 q2:Nat)(o1 o2:Ordering)(w:World)(hB:∀ W,Rt 138 #[Zf u1 u2,Zf v1 v2] (.tuple #[Zf p1 p2,Zf q1 q2,.int .i64 0]) W)(h1:FloatKind.f64.format.order q1 p1=some o1)(h2:FloatKind.f64.format.order p2 q2=some o2)(k1:o1=.lt\/o1=.eq)(k2:o2=.lt\/o2=.eq):Rt 66 #[Zf u1 u2,Zf v1 v2] (.bool true) w:=by
 have ok:bits .and .i64 0 1=0:=by decide
 have HB:=Hd hB;clear hB
 rcases k1 with rfl | rfl<;>rcases k2 with rfl | rfl
 all_goals
  have LL:=li2 w (Zv u1 u2) 28 (Zv v1 v2) 28
  go_enter Tryz.func66,Tryz.ntmps66
  obtain⟨q1_0,q1_1⟩:=(LL.out.blk 0 rfl).c2;obtain⟨q2_0,q2_1⟩:=(LL.out.blk 1 rfl).c2;go_wp2_with fail;refine cx (HB.out _) fun wk hb=>?_;replace LL:=stL LL hb;clear hb q1_0 q1_1 q2_0 q2_1;obtain⟨q3_0,q3_1⟩:=(LL.out.blk 0 rfl).c2;obtain⟨q4_0,q4_1⟩:=(LL.out.blk 1 rfl).c2;have fz20:=(LL.out.blk 0 rfl).frozen 0;have fz21:=(LL.out.blk 0 rfl).frozen 1;have fz30:=(LL.out.blk 1 rfl).frozen 0;have fz31:=(LL.out.blk 1 rfl).frozen 1
  go_upto_region 2 with fail
  clear q3_0 q3_1 q4_0 q4_1 fz20 fz21 fz30 fz31;replace LL:=Hd (LL.out.part 0 rfl 0 [.float .f64 p1,.float .f64 p2] (by omega) (by simp<;>omega) (by simp<;>omega))
  simp only [List.eraseIdx,laid,List.cons_append,List.nil_append,List.setIfInBounds_toArray,List.set_cons_zero,List.set_cons_succ,Nat.zero_add,Nat.reduceAdd] at LL
  replace LL:=Hd (LL.out.part 0 rfl 0 [.float .f64 q1,.float .f64 q2] (by omega) (by simp<;>omega) (by simp<;>omega))
  simp only [List.eraseIdx,laid,List.cons_append,List.nil_append,List.setIfInBounds_toArray,List.set_cons_zero,List.set_cons_succ,Nat.zero_add,Nat.reduceAdd] at LL
  obtain⟨wn,hwn⟩:∃ X,(sets (sets wk w.heap.size 0 [.float .f64 p1,.float .f64 p2]) (w.heap.size+1) 0 [.float .f64 q1,.float .f64 q2])=X:=⟨_,rfl⟩
  rw [hwn] at LL
  simp only [sets,Nat.reduceAdd] at hwn
  rw [hwn];clear hwn;obtain⟨q5_0,q5_1⟩:=(LL.out.blk 0 rfl).c2;obtain⟨q6_0,q6_1⟩:=(LL.out.blk 1 rfl).c2;go_wp2
  go_ret
  exact⟨rfl,LL.out.b⟩
theorem subset_in(a1 a2 x1 x2:Nat)(w:World)(ha1:a1<18446744073709551616)(ha2:a2<18446744073709551616)(hx1:x1<18446744073709551616)(hx2:x2<18446744073709551616)(hs:(rd x1 x2).1<=(rd a1 a2).1)(ht:(rd a1 a2).2<=(rd x1 x2).2):
  Rt 66 #[Zf a1 a2,Zf x1 x2] (.bool true) w:=by
 have hM:=M_val;have v1:=rd_iv a1 a2;have v2:=rd_iv x1 x2;have t1:=fun W=>readf a1 a2 W ha1 ha2;have t2:=fun W=>readf x1 x2 W hx1 hx2;have m1:=em_idx v1;have m2:=em_idx v2;have B:=fun W=>both_gen a1 a2 x1 x2 _ _ _ _ _ _ W t1 t2 m1 m2
 by_cases c1:(rd a1 a2).2<(rd a1 a2).1
 ·rw [decide_eq_true c1] at B
  by_cases c2:(rd x1 x2).2<(rd x1 x2).1
  ·rw [decide_eq_true c2] at B
   exact subset_none3 _ _ _ _ _ _ _ _ w B
  ·rw [decide_eq_false c2] at B
   exact subset_none1 _ _ _ _ _ _ _ _ w B
 ·rw [decide_eq_false c1,decide_eq_false (show ¬ (rd x1 x2).2<(rd x1 x2).1 by omega)] at B;refine subset_some _ _ _ _ _ _ _ _ _ _ w B (order_pat v2.lo.1 v2.lo.2 v1.lo.1 v1.lo.2) (order_pat v1.hi.1 v1.hi.2 v2.hi.1 v2.hi.2) ?_ ?_
  ·rcases Int.lt_or_eq_of_le hs with h | h
   ·exact .inl (Int.compare_eq_lt.2 h)
   ·exact .inr (Int.compare_eq_eq.2 h)
  ·rcases Int.lt_or_eq_of_le ht with h | h
   ·exact .inl (Int.compare_eq_lt.2 h)
   ·exact .inr (Int.compare_eq_eq.2 h)
end
section
open Go.RowKit
attribute [local go_sem] run_store_float
theorem hull_raw(u1 u2 v1 v2 p1 p2 q1 q2 a b:Nat)(k:Int)(w:World)(hB:∀ W,Rt 138 #[Zf u1 u2,Zf v1 v2] (.tuple #[Zf p1 p2,Zf q1 q2,.int .i64 k]) W)
  (m1:∀ W ts t,(Builtin.min_ ts t (Zv p1 q1)).run Tryz.prog W=.ok (.float .f64 a) W)(m2:∀ W ts t,(Builtin.max_ ts t (Zv p2 q2)).run Tryz.prog W=.ok (.float .f64 b) W):
  Rt 63 #[Zf u1 u2,Zf v1 v2] (Zf a b) w:=by
 have HB:=Hd hB;have M1:=Hd m1;have M2:=Hd m2;clear hB m1 m2;obtain⟨LB0,LG0_0,LG1_0,LR⟩:=bx3 w (Zv u1 u2) 28 (Zv v1 v2) 28 (Zv 0 0) 28;have LR0:=Hd (HasBlk.of (n:=2) LR.out rfl rfl);clear LR
 go_enter Tryz.func63,Tryz.ntmps63
 obtain⟨q0_0,q0_1⟩:=LG0_0.out.c2;obtain⟨q1_0,q1_1⟩:=LG1_0.out.c2;go_wp2_with fail;refine cx (HB.out _) fun w1 hb1=>?_;have LB1:=stB LB0 hb1 LB0.out.size;have LR1:=stR LR0 hb1;have LG0_1:=stG LG0_0 hb1;have LG1_1:=stG LG1_0 hb1;clear LB0 LR0 LG0_0 LG1_0;clear hb1 HB q0_0 q0_1 q1_0 q1_1;obtain⟨q0_0,q0_1⟩:=LG0_1.out.c2;obtain⟨q1_0,q1_1⟩:=LG1_1.out.c2;have f00:=LG0_1.out.frozen 0;have f01:=LG0_1.out.frozen 1;have f10:=LG1_1.out.frozen 0;have f11:=LG1_1.out.frozen 1
 go_upto_region 2 with fail
 clear q0_0 q0_1 q1_0 q1_1 f00 f01 f10 f11;have LB2:=Hd (below_sets (w0:=w) (show w.heap.size<=w.heap.size by omega) [.float .f64 p1,.float .f64 p2] 0 w1 LB1.out);have LR2:=Hd (LR1.out.other (r:=w.heap.size) (by omega) 0 [.float .f64 p1,.float .f64 p2]);have LG0_2:=Hd (show Blk (sets w1 w.heap.size 0 [.float .f64 p1,.float .f64 p2]) w.heap.size 28 (Zv p1 p2) from by have hbs:=Blk.sets [.float .f64 p1,.float .f64 p2] 0 w1 _ LG0_1.out;simpa [laid] using hbs);have LG1_2:=Hd (LG1_1.out.other (r:=w.heap.size) (by omega) 0 [.float .f64 p1,.float .f64 p2]);clear LB1 LR1 LG0_1 LG1_1;have LB3:=Hd (below_sets (w0:=w) (show w.heap.size<=(w.heap.size+1) by omega) [.float .f64 q1,.float .f64 q2] 0 (sets w1 w.heap.size 0 [.float .f64 p1,.float .f64 p2]) LB2.out);have LR3:=Hd (LR2.out.other (r:=(w.heap.size+1)) (by omega) 0 [.float .f64 q1,.float .f64 q2]);have LG0_3:=Hd (LG0_2.out.other (r:=(w.heap.size+1)) (by omega) 0 [.float .f64 q1,.float .f64 q2]);have LG1_3:=Hd (show Blk (sets (sets w1 w.heap.size 0 [.float .f64 p1,.float .f64 p2]) (w.heap.size+1) 0 [.float .f64 q1,.float .f64 q2]) (w.heap.size+1) 28 (Zv q1 q2) from by have hbs:=Blk.sets [.float .f64 q1,.float .f64 q2] 0 (sets w1 w.heap.size 0 [.float .f64 p1,.float .f64 p2]) _ LG1_2.out;simpa [laid] using hbs);clear LB2 LR2 LG0_2 LG1_2
 obtain⟨W2,hW2⟩:∃ W,sets (sets w1 w.heap.size 0 [.float .f64 p1,.float .f64 p2]) (w.heap.size+1) 0 [.float .f64 q1,.float .f64 q2]=W:=⟨_,rfl⟩
 rw [hW2] at LB3 LR3 LG0_3 LG1_3
 simp only [sets] at hW2
 rw [hW2];clear hW2;obtain⟨q0_0,q0_1⟩:=LG0_3.out.c2;obtain⟨q1_0,q1_1⟩:=LG1_3.out.c2;have m1:=M1.out;have m2:=M2.out;obtain⟨ha0,hf0,ha1,hf1⟩:=LR3.out.sf2;obtain⟨hk0,hk1⟩:=LR3.out.sc2 (.float .f64 a) (.float .f64 b);have F:=Hd (below_sets (w0:=w) (r:=(w.heap.size+2)) (by omega) [.float .f64 a,.float .f64 b] 0 _ LB3.out)
 simp [sets] at hk0 hk1
 go_wp2;refine bodyPost_ret (v:=Zf a b) (by simp [results,Tryz.results63,go_sem,hk0,hk1]) rfl ?_
 exact⟨rfl,F.out⟩
theorem hull_any(b1 b2 c1 c2:Nat)(w:World)(hb1:b1<18446744073709551616)(hb2:b2<18446744073709551616)(hc1:c1<18446744073709551616)(hc2:c2<18446744073709551616):
  Rt 63 #[Zf b1 b2,Zf c1 c2] (Zf (pat (min (rd b1 b2).1 (rd c1 c2).1)) (pat (max (rd b1 b2).2 (rd c1 c2).2))) w:=by
 have h:=rd_iv b1 b2;have h':=rd_iv c1 c2
 exact hull_raw _ _ _ _ _ _ _ _ _ _ _ w (fun W=>both_gen _ _ _ _ _ _ _ _ _ _ W (fun W=>readf b1 b2 W hb1 hb2) (fun W=>readf c1 c2 W hc1 hc2) (em_idx h) (em_idx h')) (fun W ts t=>run_minf h.lo h'.lo W ts t) (fun W ts t=>run_maxf h.hi h'.hi W ts t)
end
section
open Go.RowKit
attribute [local go_sem] run_store_float
set_option maxRecDepth 8000 in
theorem fmaadd_none(a1 a2 b1 b2 c1 c2 y1 y2 A1 A2 B1 B2 C1 C2 x1 x2:Nat)(d1 d2 d3 d4:Bool)(w:World)(t1:∀ W,Rt 102 #[Zf a1 a2] (Zf A1 A2) W)(m1:Em d1 A1 A2)(t2:∀ W,Rt 102 #[Zf b1 b2] (Zf B1 B2) W)(m2:Em d2 B1 B2)(t3:∀ W,Rt 102 #[Zf c1 c2] (Zf C1 C2) W)(m3:Em d3 C1 C2)(t4:∀ W,Rt 102 #[Zf y1 y2] (Zf x1 x2) W)(m4:Em d4 x1 x2)(hnn:(d1 || d2 || d3 || d4)=true):
  Rt 32 #[Zf a1 a2,Zf b1 b2,Zf c1 c2,Zf y1 y2] (Zf 9218868437227405312 18442240474082181120) w:=by
 have HE:=Hd emptyf;have HRD:=readL54 w (Zv 0 0) 28 t1 m1 t2 m2 t3 m3 t4 m4 hnn;clear t1 m1 t2 m2 t3 m3 t4 m4 hnn
 go_enter Tryz.func32,Tryz.ntmps32
 go_wp2_with fail;refine HRD.out.mono ?_;rintro e wk ⟨rfl,hl⟩;have LL:=Hd hl;clear hl HRD;go_wp2_with fail;refine cx (HE.out _) fun wk hb=>?_;replace LL:=stL LL hb;clear hb;replace LL:=Hd (LL.out.loose 4 rfl rfl)
 simp only [List.eraseIdx,List.size_toArray,List.length_cons,List.length_nil,Nat.zero_add,Nat.reduceAdd] at LL
 obtain⟨ha8_0,hf8_0,ha8_1,hf8_1⟩:=(LL.out.has 0 rfl).sf2;have LF:=Hd (LL.out.wr [.float .f64 9218868437227405312,.float .f64 18442240474082181120]);obtain⟨hk8_0,hk8_1⟩:=(LF.out.blk 4 rfl).c2
 simp [sets] at hk8_0 hk8_1
 clear LL;go_wp2;refine bodyPost_ret (v:=Zf 9218868437227405312 18442240474082181120) (by simp [results,Tryz.results32,go_sem,hk8_0,hk8_1]) rfl ?_
 exact⟨rfl,LF.out.b⟩
set_option maxRecDepth 8000 in
theorem fmaadd_some(a1 a2 b1 b2 c1 c2 y1 y2 A1 A2 B1 B2 C1 C2 x1 x2 r1 r2:Nat)(us vs Pd Pu Qd Qu:Nat->Nat)(ld lu gd gu:Nat->Nat->Nat)(d1 d2 d3 d4:Bool)(w:World)(t1:∀ W,Rt 102 #[Zf a1 a2] (Zf A1 A2) W)(m1:Em d1 A1 A2)(t2:∀ W,Rt 102 #[Zf b1 b2] (Zf B1 B2) W)(m2:Em d2 B1 B2)(t3:∀ W,Rt 102 #[Zf c1 c2] (Zf C1 C2) W)(m3:Em d3 C1 C2)(t4:∀ W,Rt 102 #[Zf y1 y2] (Zf x1 x2) W)(m4:Em d4 x1 x2)(hnn:(d1 || d2 || d3 || d4)=false)
  (hu:us 0=A1/\us 1=A2)(hv:vs 0=B1/\vs 1=B2)(hp:Pd 0=9218868437227405312/\Pu 0=9218868437227405312)(hq:Qd 0=18442240474082181120/\Qu 0=18442240474082181120)
  (hl:∀ i j:Nat,i<2->j<2->∀ W,Rt 92 #[.float .f64 C1,.float .f64 (us i),.float .f64 (vs j)] (.agg #[.float .f64 (ld i j),.float .f64 (lu i j)]) W)(hh:∀ i j:Nat,i<2->j<2->∀ W,Rt 92 #[.float .f64 C2,.float .f64 (us i),.float .f64 (vs j)] (.agg #[.float .f64 (gd i j),.float .f64 (gu i j)]) W)
  (na:∀ i j:Nat,i<2->j<2->∀ W ts t,(Builtin.min_ ts t #[.float .f64 (Pd (2*i+j)),.float .f64 (ld i j)]).run Tryz.prog W=.ok (.float .f64 (Pd (2*i+j+1))) W)(nb:∀ i j:Nat,i<2->j<2->∀ W ts t,(Builtin.min_ ts t #[.float .f64 (Pu (2*i+j)),.float .f64 (lu i j)]).run Tryz.prog W=.ok (.float .f64 (Pu (2*i+j+1))) W)(xa:∀ i j:Nat,i<2->j<2->∀ W ts t,(Builtin.max_ ts t #[.float .f64 (Qd (2*i+j)),.float .f64 (gd i j)]).run Tryz.prog W=.ok (.float .f64 (Qd (2*i+j+1))) W)(xb:∀ i j:Nat,i<2->j<2->∀ W ts t,(Builtin.max_ ts t #[.float .f64 (Qu (2*i+j)),.float .f64 (gu i j)]).run Tryz.prog W=.ok (.float .f64 (Qu (2*i+j+1))) W)
  (hcut:∀ W,Rt 77 #[Zf x1 x2,.agg #[.float .f64 (Pd (4)),.float .f64 (Pu (4))],.agg #[.float .f64 (Qd (4)),.float .f64 (Qu (4))],.bool false] (Zf r1 r2) W):
  Rt 32 #[Zf a1 a2,Zf b1 b2,Zf c1 c2,Zf y1 y2] (Zf r1 r2) w:=by
 have HI:=Hd fun W=>inf_pos W;have HJ:=Hd fun W=>inf_neg W;have HT:=Hd fun W=>at_any 9218868437227405312 W;have HS:=Hd fun W=>at_any 18442240474082181120 W
 have IXA:=Hd (show ∀ i:Nat,i<2->∀ W,(Instr.index 99 (Zf A1 A2) (.int .i64 (i:Int))).run Tryz.prog W=.ok (.float .f64 (us i)) W from fun i hi=>by
  match i,hi with
  | 0,_=>rw [hu.1];exact fun _=>by kernel_rfl
  | 1,_=>rw [hu.2];exact fun _=>by kernel_rfl)
 have IXB:=Hd (show ∀ i:Nat,i<2->∀ W,(Instr.index 99 (Zf B1 B2) (.int .i64 (i:Int))).run Tryz.prog W=.ok (.float .f64 (vs i)) W from fun i hi=>by
  match i,hi with
  | 0,_=>rw [hv.1];exact fun _=>by kernel_rfl
  | 1,_=>rw [hv.2];exact fun _=>by kernel_rfl)
 have HL:=Hd hl;have HH:=Hd hh;have NA:=Hd na;have NB:=Hd nb;have XA:=Hd xa;have XB:=Hd xb;have HCUT:=Hd hcut;have HP:=Hd hp;have HQ:=Hd hq;clear hl hh na nb xa xb hcut hp hq;clear hu hv;have HRD:=readL54 w (Zv 0 0) 28 t1 m1 t2 m2 t3 m3 t4 m4 hnn;clear t1 m1 t2 m2 t3 m3 t4 m4 hnn
 go_enter Tryz.func32,Tryz.ntmps32
 go_wp2_with fail;refine HRD.out.mono ?_;rintro e wk ⟨rfl,hl⟩;have LL:=Hd hl;clear hl HRD;go_wp2_with fail;refine (HI.out _).mono ?_;rintro e wk ⟨rfl,rfl⟩;go_wp2_with fail;refine cx (HT.out _) fun wk hb=>?_;replace LL:=stL LL hb;clear hb;go_wp2_with fail;refine (HJ.out _).mono ?_;rintro e wk ⟨rfl,rfl⟩;go_wp2_with fail;refine cx (HS.out _) fun wk hb=>?_;replace LL:=stL LL hb;clear hb
 go_upto_region 4 with fail
 clear HI HJ HT HS;have hl_j9:=LL.out.lts;generalize hwm:World.alloc wk _=wm;replace LL:=Hd (LL.out.newE hwm)
 have hz:wm.heap.size=wk.heap.size+1:=by rw [<- hwm];simp
 clear hwm;generalize hwn:World.alloc wm _=wn;replace LL:=Hd (LL.out.newE hwn);rw [hz] at LL
 simp only [List.cons_append,List.nil_append] at LL
 simp only [List.mem_cons,List.not_mem_nil,or_false,forall_eq_or_imp,forall_eq,false_imp_iff,implies_true,and_true] at hl_j9
 clear hwn hz;generalize wk.heap.size=j9 at LL hl_j9 ⊢;have LL0:=Hd (show Lies w wn [(w.heap.size,28,(Zv A1 A2)),((w.heap.size+1),28,(Zv B1 B2)),((w.heap.size+2),28,(Zv C1 C2)),((w.heap.size+3),28,(Zv x1 x2)),((w.heap.size+4),28,(Zv 0 0)),(j9,78,#[.float .f64 (Pd (2*0)),.float .f64 (Pu (2*0))]),((j9+1),78,#[.float .f64 (Qd (2*0)),.float .f64 (Qu (2*0))])] [] from by rw [HP.out.1,HP.out.2,HQ.out.1,HQ.out.2];exact LL.out);clear LL HP HQ;have LL:=LL0;clear LL0;obtain⟨q1_0,q1_1⟩:=(LL.out.blk 0 rfl).c2;go_wp2;clear q1_0 q1_1
 go_loopw [12,29] (fun _ iv wr=>∃ i:Nat,iv=.int .i64 (i:Int)/\i<=2/\Lies w wr [(w.heap.size,28,(Zv A1 A2)),((w.heap.size+1),28,(Zv B1 B2)),((w.heap.size+2),28,(Zv C1 C2)),((w.heap.size+3),28,(Zv x1 x2)),((w.heap.size+4),28,(Zv 0 0)),(j9,78,#[.float .f64 (Pd (2*i)),.float .f64 (Pu (2*i))]),((j9+1),78,#[.float .f64 (Qd (2*i)),.float .f64 (Qu (2*i))])] []) (fun _ iv _=>2 - (intOf iv).toNat)
 case atStart=>exact⟨0,rfl,by omega,LL.out⟩
 case round=>
  clear LL;obtain⟨i,rfl,hi,hl⟩:=hrel;have LL:=Hd hl;clear hl
  by_cases hlt:i<2
  ·skip
   obtain⟨wo,rfl⟩:∃ wo:World,wo=wr:=⟨_,rfl⟩
   have ixi:=IXA.out i hlt;obtain⟨q2_0,q2_1⟩:=(LL.out.blk 1 rfl).c2;go_wp2;clear ixi q2_0 q2_1
   go_loopw [14,37] (fun _ iv wr=>∃ j:Nat,iv=.int .i64 (j:Int)/\j<=2/\Lies w wr [(w.heap.size,28,(Zv A1 A2)),((w.heap.size+1),28,(Zv B1 B2)),((w.heap.size+2),28,(Zv C1 C2)),((w.heap.size+3),28,(Zv x1 x2)),((w.heap.size+4),28,(Zv 0 0)),(j9,78,#[.float .f64 (Pd (2*i+j)),.float .f64 (Pu (2*i+j))]),((j9+1),78,#[.float .f64 (Qd (2*i+j)),.float .f64 (Qu (2*i+j))])] []) (fun _ iv _=>2 - (intOf iv).toNat)
   case atStart=>exact⟨0,rfl,by omega,LL.out⟩
   case round=>
    clear LL;obtain⟨j,rfl,hj,hl⟩:=hrel;have LL:=Hd hl;clear hl
    by_cases hlt2:j<2
    ·skip;have ixj:=IXB.out j hlt2;have HLk:=Hd (HL.out i j hlt hlt2);have HHk:=Hd (HH.out i j hlt hlt2)
     go_upto_region 10 with fail
     clear ixj
     go_cut [15,16,30,38] from 40 to 49 (fun s15 s16 s30 s38 wx=>∃ j15 j16:Nat,s30=.bool (decide ((i:Int)<2))/\s15=.pointer (some ⟨j15,0,none⟩)/\s16=.pointer (some ⟨j16,0,none⟩)/\(w.heap.size+4<j15/\w.heap.size+4<j16/\j9+1<j15/\j9+1<j16/\j15≠j16)/\Lies w wx [(w.heap.size,28,(Zv A1 A2)),((w.heap.size+1),28,(Zv B1 B2)),((w.heap.size+2),28,(Zv C1 C2)),((w.heap.size+3),28,(Zv x1 x2)),((w.heap.size+4),28,(Zv 0 0)),(j9,78,#[.float .f64 (Pd (2*i+j)),.float .f64 (Pu (2*i+j))]),((j9+1),78,#[.float .f64 (Qd (2*i+j)),.float .f64 (Qu (2*i+j))]),(j15,78,#[.float .f64 (ld i j),.float .f64 (lu i j)]),(j16,78,#[.float .f64 (gd i j),.float .f64 (gu i j)])] [])
     case first=>
      clear HL HH NA NB XA XB HCUT IXA IXB hlt2 hi hj;refine regL LL (fun hHeld=>?_);clear LL;generalize World.drew _=wk at hHeld  ⊢;refine tks 0 ?_;refine tkb 1 (fun _ h=>(h.blk 2 rfl).c2) ?_;refine tks 2 ?_;refine tks 3 ?_;refine tks 5 ?_;refine tkb 6 (fun _ h=>(h.blk 2 rfl).c2) ?_;refine tks 7 ?_;refine tks 8 ?_
      repeat' first
       | (have hx:=hC4;clear hx;go_simp;refine (HLk.out _).mono ?_;rintro e wk ⟨rfl,hb1⟩;go_wp2_with fail;refine hC4.out _ _ (hHeld.keep hb1) (fun _=>?_);clear hC4 KK hHeld;rename_i hHeld;(try simp only [Act.put,lay]);(try replace B_j15:=B_j15.keep hb1);(try replace B_j16:=B_j16.keep hb1);clear hb1;have mk4:=True.intro)
       | (have hx:=hC9;clear hx;go_simp;refine (HHk.out _).mono ?_;rintro e wk ⟨rfl,hb2⟩;go_wp2_with fail;refine hC9.out _ _ (hHeld.keep hb2) (fun _=>?_);clear hC9 KK hHeld;rename_i hHeld;(try simp only [Act.put,lay]);(try replace B_j15:=B_j15.keep hb2);(try replace B_j16:=B_j16.keep hb2);clear hb2;have mk9:=True.intro)
       | (have hx:=hA10;clear hx;go_simp;have hl_j15:=hHeld.lts;refine hA10.out _ _ (hHeld.alloc _) (fun _=>?_);clear hA10 KK hHeld;rename_i hHeld;(try simp only [Act.put,lay]);generalize hwn:World.alloc wk _=wn at hHeld ⊢;have B_j15:=Blk.newE hwn;(try (have hx_j15:=B_j16.lt;replace B_j16:=B_j16.keep (below_allocE hwn)));simp only [List.mem_cons,List.not_mem_nil,or_false,forall_eq_or_imp,forall_eq,false_imp_iff,implies_true,and_true] at hl_j15;clear hwn;generalize hg:wk.heap.size=j15 at B_j15 hl_j15 ⊢;(try rw [hg] at hx_j15);clear hg;obtain⟨wk,rfl⟩:∃ X,X=wn:=⟨_,rfl⟩;have mk10:=True.intro)
       | (have hx:=hA11;clear hx;go_simp;have hl_j16:=hHeld.lts;refine hA11.out _ _ (hHeld.alloc _) (fun _=>?_);clear hA11 KK hHeld;rename_i hHeld;(try simp only [Act.put,lay]);generalize hwn:World.alloc wk _=wn at hHeld ⊢;have B_j16:=Blk.newE hwn;(try (have hx_j16:=B_j15.lt;replace B_j15:=B_j15.keep (below_allocE hwn)));simp only [List.mem_cons,List.not_mem_nil,or_false,forall_eq_or_imp,forall_eq,false_imp_iff,implies_true,and_true] at hl_j16;clear hwn;generalize hg:wk.heap.size=j16 at B_j16 hl_j16 ⊢;(try rw [hg] at hx_j16);clear hg;obtain⟨wk,rfl⟩:∃ X,X=wn:=⟨_,rfl⟩;have mk11:=True.intro)
       | (have hx:=hS12;clear hx;have qz0:=B_j15.ce 0 rfl;have fz0:=B_j15.frozen 0;have qz1:=B_j15.ce 1 rfl;have fz1:=B_j15.frozen 1;go_simp;have hsx:=hHeld.far [.float .f64 (ld i j),.float .f64 (lu i j)] 0 (g:=j15) (by omega) (by simp<;>omega) (by simp<;>omega);generalize hwn:sets wk j15 0 _=wn at hsx;refine hS12.out _ _ (by have e:=hwn;simp only [sets,Nat.reduceAdd] at e;rw [e];exact hsx) (fun _=>?_);clear hS12 KK hHeld hsx;rename_i hHeld;(try simp only [Act.put,lay]);(try replace B_j16:=B_j16.otherE hwn (by omega));replace B_j15:=B_j15.setsE hwn;simp only [laid,lay,Nat.reduceAdd] at B_j15;simp only [sets,Nat.reduceAdd] at hwn;rw [hwn] at hHeld ⊢;clear hwn qz0 fz0 qz1 fz1;obtain⟨wk,rfl⟩:∃ X,X=wn:=⟨_,rfl⟩;have mk12:=True.intro)
       | (have hx:=hS13;clear hx;have qz0:=B_j16.ce 0 rfl;have fz0:=B_j16.frozen 0;have qz1:=B_j16.ce 1 rfl;have fz1:=B_j16.frozen 1;go_simp;have hsx:=hHeld.far [.float .f64 (gd i j),.float .f64 (gu i j)] 0 (g:=j16) (by omega) (by simp<;>omega) (by simp<;>omega);generalize hwn:sets wk j16 0 _=wn at hsx;refine hS13.out _ _ (by have e:=hwn;simp only [sets,Nat.reduceAdd] at e;rw [e];exact hsx) (fun _=>?_);clear hS13 KK hHeld hsx;rename_i hHeld;(try simp only [Act.put,lay]);(try replace B_j15:=B_j15.otherE hwn (by omega));replace B_j16:=B_j16.setsE hwn;simp only [laid,lay,Nat.reduceAdd] at B_j16;simp only [sets,Nat.reduceAdd] at hwn;rw [hwn] at hHeld ⊢;clear hwn qz0 fz0 qz1 fz1;obtain⟨wk,rfl⟩:∃ X,X=wn:=⟨_,rfl⟩;have mk13:=True.intro)
       | (have hx:=mk4;have hx:=mk9;have hx:=mk10;have hx:=mk11;have hx:=mk12;have hx:=mk13;refine wpAnyH_done (by kernel_rfl) ?_ _;clear hx mk4 mk9 mk10 mk11 mk12 mk13;go_wp2_with fail;go_meet;exact⟨j15,j16,by (first | rfl | (simp<;>omega)),rfl,rfl,⟨by omega,by omega,by omega,by omega,by omega⟩,(hHeld.put B_j15).put B_j16⟩)
       | (have hx:=mk4;have hx:=mk9;have hx:=mk10;have hx:=mk11;have hx:=mk12;refine rdy 13 (fun KK hS13=>?_))
       | (have hx:=mk4;have hx:=mk9;have hx:=mk10;have hx:=mk11;refine rdy 12 (fun KK hS12=>?_))
       | (have hx:=mk4;have hx:=mk10;have hx:=mk11;refine rdy 9 (fun KK hC9=>?_))
       | (have hx:=mk4;have hx:=mk9;have hx:=mk11;refine rdy 10 (fun KK hA10=>?_))
       | (have hx:=mk4;have hx:=mk9;have hx:=mk10;refine rdy 11 (fun KK hA11=>?_))
       | (have hx:=mk10;have hx:=mk11;refine rdy 4 (fun KK hC4=>?_))
       | (have hx:=mk4;have hx:=mk11;refine rd2 9 10 (fun KK hC9=>?_) (fun KK hA10=>?_))
       | (have hx:=mk4;have hx:=mk10;refine rd2 9 11 (fun KK hC9=>?_) (fun KK hA11=>?_))
       | (have hx:=mk4;have hx:=mk9;refine rd2 10 11 (fun KK hA10=>?_) (fun KK hA11=>?_))
       | (have hx:=mk11;refine rd2 4 10 (fun KK hC4=>?_) (fun KK hA10=>?_))
       | (have hx:=mk10;refine rd2 4 11 (fun KK hC4=>?_) (fun KK hA11=>?_))
       | (have hx:=mk4;refine rd3 9 10 11 (fun KK hC9=>?_) (fun KK hA10=>?_) (fun KK hA11=>?_))
       | (refine rd3 4 10 11 (fun KK hC4=>?_) (fun KK hA10=>?_) (fun KK hA11=>?_))
     case rest=>
     obtain⟨j15,j16,rfl,rfl,rfl,hgs,hcl⟩:=hcut;rename World=>wx;clear LL;have LL:=Hd hcl;clear hcl;obtain⟨q3_0,q3_1⟩:=(LL.out.blk 5 rfl).c2;obtain⟨q4_0,q4_1⟩:=(LL.out.blk 7 rfl).c2;have fz0:=(LL.out.blk 5 rfl).frozen 0;have fz1:=(LL.out.blk 5 rfl).frozen 1;have ma:=NA.out i j hlt hlt2;have mb:=NB.out i j hlt hlt2
     go_upto_region 12 with fail
     clear ma mb q3_0 q3_1 q4_0 q4_1 fz0 fz1;replace LL:=Hd (LL.out.part 5 rfl 0 [.float .f64 (Pd (2*i+j+1)),.float .f64 (Pu (2*i+j+1))] (by omega) (by simp<;>omega) (by simp<;>omega))
     simp only [List.eraseIdx,laid,List.cons_append,List.nil_append,List.setIfInBounds_toArray,List.set_cons_zero,List.set_cons_succ,Nat.zero_add,Nat.reduceAdd] at LL
     obtain⟨wn,hwn⟩:∃ X,(sets wx j9 0 [.float .f64 (Pd (2*i+j+1)),.float .f64 (Pu (2*i+j+1))])=X:=⟨_,rfl⟩
     rw [hwn] at LL
     simp only [sets,Nat.reduceAdd] at hwn
     rw [hwn];clear hwn;obtain⟨q5_0,q5_1⟩:=(LL.out.blk 5 rfl).c2;obtain⟨q6_0,q6_1⟩:=(LL.out.blk 7 rfl).c2;have fz0:=(LL.out.blk 5 rfl).frozen 0;have fz1:=(LL.out.blk 5 rfl).frozen 1;have ma:=XA.out i j hlt hlt2;have mb:=XB.out i j hlt hlt2
     go_upto_region 13 with fail
     clear ma mb q5_0 q5_1 q6_0 q6_1 fz0 fz1;replace LL:=Hd (LL.out.part 5 rfl 0 [.float .f64 (Qd (2*i+j+1)),.float .f64 (Qu (2*i+j+1))] (by omega) (by simp<;>omega) (by simp<;>omega))
     simp only [List.eraseIdx,laid,List.cons_append,List.nil_append,List.setIfInBounds_toArray,List.set_cons_zero,List.set_cons_succ,Nat.zero_add,Nat.reduceAdd] at LL
     obtain⟨wn,hwn⟩:∃ X,(sets wn (j9+1) 0 [.float .f64 (Qd (2*i+j+1)),.float .f64 (Qu (2*i+j+1))])=X:=⟨_,rfl⟩
     rw [hwn] at LL
     simp only [sets,Nat.reduceAdd] at hwn
     rw [hwn];clear hwn;go_wp2
     go_roundw
     case rel=>exact⟨j+1,by go_num,by omega,LL.out.perm (by simp [Nat.add_assoc]) (by simp)⟩
     case measure=>simp [intOf];omega
    ·skip
     obtain rfl:j=2:=by omega
     go_wp2
     go_roundw
     case rel=>exact⟨i+1,by go_num,by omega,by rw [show 2*(i+1)=2*i+2 from by omega];exact LL.out⟩
     case measure=>simp [intOf];omega
  ·skip
   obtain rfl:i=2:=by omega
   obtain⟨q3_0,q3_1⟩:=(LL.out.blk 3 rfl).c2;obtain⟨q4_0,q4_1⟩:=(LL.out.blk 5 rfl).c2;obtain⟨q5_0,q5_1⟩:=(LL.out.blk 6 rfl).c2;go_wp2_with fail;refine cx (HCUT.out _) fun wk hb=>?_;replace LL:=stL LL hb;clear hb q3_0 q3_1 q4_0 q4_1 q5_0 q5_1;replace LL:=Hd (LL.out.loose 4 rfl rfl)
   simp only [List.eraseIdx,List.size_toArray,List.length_cons,List.length_nil,Nat.zero_add,Nat.reduceAdd] at LL
   obtain⟨ha8_0,hf8_0,ha8_1,hf8_1⟩:=(LL.out.has 0 rfl).sf2;have LF:=Hd (LL.out.wr [.float .f64 r1,.float .f64 r2]);obtain⟨hk8_0,hk8_1⟩:=(LF.out.blk 6 rfl).c2
   simp [sets] at hk8_0 hk8_1
   clear LL;go_wp2;refine bodyPost_ret (v:=Zf r1 r2) (by simp [results,Tryz.results32,go_sem,hk8_0,hk8_1]) rfl ?_
   exact⟨rfl,LF.out.b⟩
end
section
open Go.RowKit
def ul(a b:Int)(i:Nat):Int:=if i=0 then a else b
def mnk(f:Nat->Nat->Int):Nat->Int
 | 0=>M
 | k+1=>min (mnk f k) (f (k / 2) (k % 2))
def mxk(f:Nat->Nat->Int):Nat->Int
 | 0=>-(M:Int)
 | k+1=>max (mxk f k) (f (k / 2) (k % 2))
theorem mnk_rng{f:Nat->Nat->Int}(h:∀ i j,-(M:Int)<=f i j/\f i j<=M)(k:Nat):-(M:Int)<=mnk f k/\mnk f k<=M:=by
 have hM:=M_val
 induction k with
 | zero=>show -(M:Int)<=(M:Int)/\(M:Int)<=M;omega
 | succ k ih=>have:=h (k / 2) (k % 2);show -(M:Int)<=min _ _/\min _ _<=(M:Int);omega
theorem mxk_rng{f:Nat->Nat->Int}(h:∀ i j,-(M:Int)<=f i j/\f i j<=M)(k:Nat):-(M:Int)<=mxk f k/\mxk f k<=M:=by
 have hM:=M_val
 induction k with
 | zero=>show -(M:Int)<=-(M:Int)/\-(M:Int)<=M;omega
 | succ k ih=>have:=h (k / 2) (k % 2);show -(M:Int)<=max _ _/\max _ _<=(M:Int);omega
theorem mnk_step(f:Nat->Nat->Int)(i j:Nat)(hj:j<2):min (mnk f (2*i+j)) (f i j)=mnk f (2*i+j+1):=by
 show _=min (mnk f (2*i+j)) (f ((2*i+j) / 2) ((2*i+j) % 2))
 rw [show (2*i+j) / 2=i by omega,show (2*i+j) % 2=j by omega]
theorem mxk_step(f:Nat->Nat->Int)(i j:Nat)(hj:j<2):max (mxk f (2*i+j)) (f i j)=mxk f (2*i+j+1):=by
 show _=max (mxk f (2*i+j)) (f ((2*i+j) / 2) ((2*i+j) % 2))
 rw [show (2*i+j) / 2=i by omega,show (2*i+j) % 2=j by omega]
theorem ul_rng{i j:Int}(h:Iv i j)(k:Nat):-(M:Int)<=ul i j k/\ul i j k<=M:=by
 unfold ul
 split
 ·exact h.lo
 ·exact h.hi
theorem ctO_fd(i j a b c d:Int):ctO false i j a b c d=ct i j a b c d:=by
 unfold ctO ct
 by_cases h:c<i\/j<b
 ·rw [if_pos h,if_pos h]
 ·rw [if_neg h,if_neg h,if_neg (by rintro⟨h,-⟩;cases h)]
theorem fad_k(i1 j1 i2 j2 c1 c2 i j:Int):fad i1 j1 i2 j2 c1 c2 i j=if j1<i1\/j2<i2\/c2<c1\/j<i then ((M:Int),-(M:Int)) else
  ct i j (mnk (fun k l=>(wt c1 (ul i1 j1 k) (ul i2 j2 l)).1) 4) (mnk (fun k l=>(wt c1 (ul i1 j1 k) (ul i2 j2 l)).2) 4) (mxk (fun k l=>(wt c2 (ul i1 j1 k) (ul i2 j2 l)).1) 4) (mxk (fun k l=>(wt c2 (ul i1 j1 k) (ul i2 j2 l)).2) 4):=rfl
theorem fmaadd_any(a1 a2 b1 b2 c1 c2 x y:Nat)(w:World)(ha1:a1<18446744073709551616)(ha2:a2<18446744073709551616)(hb1:b1<18446744073709551616)(hb2:b2<18446744073709551616)(hc1:c1<18446744073709551616)(hc2:c2<18446744073709551616)(hx:x<18446744073709551616)(hy:y<18446744073709551616):
  Rt 32 #[Zf a1 a2,Zf b1 b2,Zf c1 c2,Zf x y] (Zf (pat (fad (rd a1 a2).1 (rd a1 a2).2 (rd b1 b2).1 (rd b1 b2).2 (rd c1 c2).1 (rd c1 c2).2 (rd x y).1 (rd x y).2).1) (pat (fad (rd a1 a2).1 (rd a1 a2).2 (rd b1 b2).1 (rd b1 b2).2 (rd c1 c2).1 (rd c1 c2).2 (rd x y).1 (rd x y).2).2)) w:=by
 have hM:=M_val;have v1:=rd_iv a1 a2;have v2:=rd_iv b1 b2;have v3:=rd_iv c1 c2;have v4:=rd_iv x y;have t1:=fun W=>readf a1 a2 W ha1 ha2;have t2:=fun W=>readf b1 b2 W hb1 hb2;have t3:=fun W=>readf c1 c2 W hc1 hc2;have t4:=fun W=>readf x y W hx hy
 obtain⟨⟨i1,j1⟩,r1⟩:∃ z,rd a1 a2=z:=⟨_,rfl⟩
 obtain⟨⟨i2,j2⟩,r2⟩:∃ z,rd b1 b2=z:=⟨_,rfl⟩
 obtain⟨⟨i3,j3⟩,r3⟩:∃ z,rd c1 c2=z:=⟨_,rfl⟩
 obtain⟨⟨i4,j4⟩,r4⟩:∃ z,rd x y=z:=⟨_,rfl⟩
 rw [r1] at v1 t1;rw [r2] at v2 t2;rw [r3] at v3 t3;rw [r4] at v4 t4;rw [r1,r2,r3,r4]
 dsimp only at *
 have m1:=em_idx v1;have m2:=em_idx v2;have m3:=em_idx v3;have m4:=em_idx v4;rw [fad_k]
 by_cases hno:j1<i1\/j2<i2\/j3<i3\/j4<i4
 ·rw [if_pos hno,pat_max,pat_min]
  exact fmaadd_none _ _ _ _ _ _ _ _ _ _ _ _ _ _ _ _ _ _ _ _ w t1 m1 t2 m2 t3 m3 t4 m4 (by simp;omega)
 ·rw [if_neg hno];have g1:=fun i j=>wt_rng (c:=i3) (u:=ul i1 j1 i) (v:=ul i2 j2 j) v3.lo;have g2:=fun i j=>wt_rng (c:=j3) (u:=ul i1 j1 i) (v:=ul i2 j2 j) v3.hi;have q1:=mnk_rng (f:=fun k l=>(wt i3 (ul i1 j1 k) (ul i2 j2 l)).1) (fun i j=>(g1 i j).1);have q2:=mnk_rng (f:=fun k l=>(wt i3 (ul i1 j1 k) (ul i2 j2 l)).2) (fun i j=>(g1 i j).2);have q3:=mxk_rng (f:=fun k l=>(wt j3 (ul i1 j1 k) (ul i2 j2 l)).1) (fun i j=>(g2 i j).1);have q4:=mxk_rng (f:=fun k l=>(wt j3 (ul i1 j1 k) (ul i2 j2 l)).2) (fun i j=>(g2 i j).2)
  refine fmaadd_some a1 a2 b1 b2 c1 c2 x y _ _ _ _ _ _ _ _ _ _ (fun i=>pat (ul i1 j1 i)) (fun i=>pat (ul i2 j2 i)) (fun k=>pat (mnk (fun k l=>(wt i3 (ul i1 j1 k) (ul i2 j2 l)).1) k)) (fun k=>pat (mnk (fun k l=>(wt i3 (ul i1 j1 k) (ul i2 j2 l)).2) k)) (fun k=>pat (mxk (fun k l=>(wt j3 (ul i1 j1 k) (ul i2 j2 l)).1) k)) (fun k=>pat (mxk (fun k l=>(wt j3 (ul i1 j1 k) (ul i2 j2 l)).2) k))
   (fun i j=>pat (wt i3 (ul i1 j1 i) (ul i2 j2 j)).1) (fun i j=>pat (wt i3 (ul i1 j1 i) (ul i2 j2 j)).2) (fun i j=>pat (wt j3 (ul i1 j1 i) (ul i2 j2 j)).1) (fun i j=>pat (wt j3 (ul i1 j1 i) (ul i2 j2 j)).2) _ _ _ _ w t1 m1 t2 m2 t3 m3 t4 m4 (by simp;omega) ⟨rfl,rfl⟩ ⟨rfl,rfl⟩ ⟨pat_max,pat_max⟩ ⟨pat_min,pat_min⟩
   (fun i j _ _ W=>without_any i3 _ _ W v3.lo (ul_rng v1 i) (ul_rng v2 j)) (fun i j _ _ W=>without_any j3 _ _ W v3.hi (ul_rng v1 i) (ul_rng v2 j)) (fun i j _ hj W ts t=>?_) (fun i j _ hj W ts t=>?_) (fun i j _ hj W ts t=>?_) (fun i j _ hj W ts t=>?_) (fun W=>?_)
  ·rw [<- mnk_step _ i j hj]
   exact run_minf (q1 _) (g1 i j).1 W ts t
  ·rw [<- mnk_step _ i j hj]
   exact run_minf (q2 _) (g1 i j).2 W ts t
  ·rw [<- mxk_step _ i j hj]
   exact run_maxf (q3 _) (g2 i j).1 W ts t
  ·rw [<- mxk_step _ i j hj]
   exact run_maxf (q4 _) (g2 i j).2 W ts t
  ·rw [<- ctO_fd]
   exact rcut2_any false i4 j4 _ _ _ _ W v4.lo v4.hi (q1 4) (q2 4) (q3 4) (q4 4)
end
section
open Go.RowKit
attribute [local go_sem] run_store_float run_negf run_eqf
theorem ret2{a b r1 r2:Nat}{e:Ending}{P:Prop}(h:e=.returned (Zf a b)/\P)(h1:a=r1)(h2:b=r2):e=.returned (Zf r1 r2)/\P:=by
 subst h1 h2;exact h
theorem rti_exact{d i j:Int}{n:Nat}(hd:d=-1\/d=1)(hj:0<j)(hj2:j<M)(hi:0<i)(hi2:i<M)(hn:0<n)(h:fl j ^ n=fl i):rti d i n=j:=by
 have hM:=M_val
 have p:0<fl j:=by have:=fl_lt_iff.2 hj;rwa [fl_zero] at this
 have ok:RtOk i n (fl j):=by
  refine⟨p,fun k hk=>?_⟩
  have pk:0<=fl k:=by have:=fl_le_iff.2 hk;rwa [fl_zero] at this
  rw [<- h]
  constructor
  ·constructor
   ·exact fun c=>rpow_le pk c n
   ·intro c
    by_cases q:fl k<=fl j
    ·exact q
    ·have:=rpow_lt (Rat.le_of_lt p) (show fl j<fl k by grind) n hn;grind
  ·constructor
   ·exact fun c=>rpow_le (Rat.le_of_lt p) c n
   ·intro c
    by_cases q:fl j<=fl k
    ·exact q
    ·have:=rpow_lt pk (show fl k<fl j by grind) n hn;grind
 unfold rti;rw [if_neg (by omega),rt1_of hd ok (by omega) (by omega)]
 exact rndI_fl hd (by omega) hj2
theorem sqr_known(W:World):Rt 14 #[Zf 4616189618054758400 4621256167635550208,Zf 0 4612811918334230528] (Zf 4611686018427387904 4612811918334230528) W:=by
 have h:=sqrrev_any 4616189618054758400 4621256167635550208 0 4612811918334230528 W (by decide) (by decide) (by decide) (by decide)
 have r1:rd 4616189618054758400 4621256167635550208=(4616189618054758400,4621256167635550208):=by decide +kernel
 have r2:rd 0 4612811918334230528=(0,4612811918334230528):=by decide +kernel
 have q1:=fun d (hd:d=-1\/d=1)=>rti_exact (d:=d) (i:=4616189618054758400) (j:=4611686018427387904) (n:=2) hd (by decide) (by decide +kernel) (by decide) (by decide +kernel) (by decide) (by decide +kernel);have q2:=fun d (hd:d=-1\/d=1)=>rti_exact (d:=d) (i:=4621256167635550208) (j:=4613937818241073152) (n:=2) hd (by decide) (by decide +kernel) (by decide) (by decide +kernel) (by decide) (by decide +kernel)
 have e:pwr 2 4616189618054758400 4621256167635550208 0 4612811918334230528=(4611686018427387904,4612811918334230528):=by
  unfold pwr;rw [if_neg (by decide),if_pos (by decide),show max (4616189618054758400:Int) 0=4616189618054758400 from by decide,q1 _ (.inl rfl),q1 _ (.inr rfl),q2 _ (.inl rfl),q2 _ (.inr rfl)]
  decide +kernel
 rw [r1,r2,e] at h
 have p1:pat 4611686018427387904=4611686018427387904:=by decide +kernel
 have p2:pat 4612811918334230528=4612811918334230528:=by decide +kernel
 rw [p1,p2] at h
 exact h
theorem add_known(W:World):Rt 22 #[Zf 4607182418800017408 4611686018427387904,Zf 4617315517961601024 4617315517961601024,Zf 13844628204490326016 4621256167635550208] (Zf 4613937818241073152 4616189618054758400) W:=
 (revadd_any 4607182418800017408 4611686018427387904 4617315517961601024 4617315517961601024 13844628204490326016 4621256167635550208 W (by decide) (by decide) (by decide) (by decide) (by decide) (by decide)).mono fun e w' h=>ret2 h (by decide +kernel) (by decide +kernel)
set_option maxRecDepth 8000 in
theorem of_law(a b:Nat)(w:World):Calls Tryz.prog 20 (Zv a b) w fun e w'=>e=.returned (Zf a b)/\Below w.heap.size w w':=by
 have LL:=li1 w (Zv 0 0) 28
 go_enter Tryz.func20,Tryz.ntmps20
 replace LL:=Hd (LL.out.loose0 rfl);obtain⟨ha4_0,hf4_0,ha4_1,hf4_1⟩:=(LL.out.has 0 rfl).sf2;have LF:=Hd (LL.out.wr [.float .f64 a,.float .f64 b]);obtain⟨hk4_0,hk4_1⟩:=(LF.out.blk 0 rfl).c2
 simp [sets] at hk4_0 hk4_1
 clear LL;go_wp2;refine bodyPost_ret (v:=Zf a b) (by simp [results,Tryz.results20,go_sem,hk4_0,hk4_1]) rfl ?_
 exact⟨rfl,below_alloc w _⟩
set_option maxRecDepth 8000 in
theorem awake_any(w:World):Rt 21 #[] (.bool true) w:=by
 have HO:=Hd of_law;have HS:=Hd sqr_known;have HD:=Hd add_known
 have o4613937818241073152:FloatKind.f64.format.order 4613937818241073152 4613937818241073152=some .eq:=by kernel_rfl
 have o4616189618054758400:FloatKind.f64.format.order 4616189618054758400 4616189618054758400=some .eq:=by kernel_rfl
 have o4611686018427387904:FloatKind.f64.format.order 4611686018427387904 4611686018427387904=some .eq:=by kernel_rfl
 have o4612811918334230528:FloatKind.f64.format.order 4612811918334230528 4612811918334230528=some .eq:=by kernel_rfl
 have LL:=Hd (show Lies w w [] [] from⟨Below.refl _ _,by simp,by simp⟩)
 go_enter Tryz.func21,Tryz.ntmps21
 go_wp2_with fail;refine cx (HO.out _ _ _) fun wk hb=>?_;replace LL:=stL LL hb;clear hb;go_wp2_with fail;refine cx (HO.out _ _ _) fun wk hb=>?_;replace LL:=stL LL hb;clear hb;go_wp2_with fail;refine cx (HO.out _ _ _) fun wk hb=>?_;replace LL:=stL LL hb;clear hb;go_wp2_with fail;refine cx (HD.out _) fun wk hb=>?_;replace LL:=stL LL hb;clear hb;go_wp2_with fail;refine cx (HO.out _ _ _) fun wk hb=>?_;replace LL:=stL LL hb;clear hb;go_wp2_with fail;refine cx (HO.out _ _ _) fun wk hb=>?_;replace LL:=stL LL hb;clear hb;go_wp2_with fail;refine cx (HO.out _ _ _) fun wk hb=>?_;replace LL:=stL LL hb;clear hb;go_wp2_with fail;refine cx (HS.out _) fun wk hb=>?_;replace LL:=stL LL hb;clear hb;go_wp2_with fail;refine cx (HO.out _ _ _) fun wk hb=>?_;replace LL:=stL LL hb;clear hb;go_wp2
 go_ret
 exact⟨rfl,LL.out.b⟩
end
end Go.Proofs.YthlmlmfebpjgdaaGreatDoor
