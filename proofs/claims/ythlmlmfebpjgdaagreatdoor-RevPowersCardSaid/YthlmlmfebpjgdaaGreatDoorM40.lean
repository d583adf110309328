/-
Lemmas for the statement: BelT BelI DvqI RpzT RpoT RpoI.
-/
import Derived.Test.YthlmlmfebpjgdaaGreatDoorM10
import Derived.Test.YthlmlmfebpjgdaaGreatDoorPCut2T
import Derived.Test.YthlmlmfebpjgdaaGreatDoorPRoot2T
import Derived.Deep.DeepCutAuto
import Derived.Test.YthlmlmfebpjgdaaGreatDoorM39
import Derived.Test.YthlmlmfebpjgdaaGreatDoorM24
import Derived.Test.YthlmlmfebpjgdaaGreatDoorPDiv2T
import Derived.Test.YthlmlmfebpjgdaaGreatDoorM26
import Derived.Test.YthlmlmfebpjgdaaGreatDoorM12
import Derived.Test.YthlmlmfebpjgdaaGreatDoorM05
set_option linter.unusedSimpArgs false
set_option linter.unusedVariables false
set_option maxHeartbeats 12800000
namespace Go.Proofs.YthlmlmfebpjgdaaGreatDoor
section
open Go.RowKit
attribute [local go_sem] run_store_float
set_option maxRecDepth 8000 in
theorem below_even(n c1 c2 x y u1 u2 v1 v2 x3 y3 v3 v4 r1 r2:Nat)(w:World)(hn:n % 2=0)(hA1:∀ W,Tab W→Calls Tryz.prog 172 #[.int .i64 (n:Int),.agg #[.float .f64 c1,.float .f64 c2],.agg #[.float .f64 x,.float .f64 y]] W fun e w'=>e=.returned (.agg #[.float .f64 u1,.float .f64 u2])∧Below W.heap.size W w')(hMx:∀ W,Calls Tryz.prog 85 #[.agg #[.float .f64 x,.float .f64 y]] W fun e w'=>e=.returned (.agg #[.float .f64 x3,.float .f64 y3])∧Below W.heap.size W w')(hA2:∀ W,Tab W→Calls Tryz.prog 172 #[.int .i64 (n:Int),.agg #[.float .f64 c1,.float .f64 c2],.agg #[.float .f64 x3,.float .f64 y3]] W fun e w'=>e=.returned (.agg #[.float .f64 v1,.float .f64 v2])∧Below W.heap.size W w')(hM3:∀ W,Calls Tryz.prog 85 #[.agg #[.float .f64 v1,.float .f64 v2]] W fun e w'=>e=.returned (.agg #[.float .f64 v3,.float .f64 v4])∧Below W.heap.size W w')(hH:∀ W,Calls Tryz.prog 63 #[.agg #[.float .f64 u1,.float .f64 u2],.agg #[.float .f64 v3,.float .f64 v4]] W fun e w'=>e=.returned (.agg #[.float .f64 r1,.float .f64 r2])∧Below W.heap.size W w')(hT:Tab w):
  Calls Tryz.prog 103 #[.int .i64 (n:Int),.agg #[.float .f64 c1,.float .f64 c2],.agg #[.float .f64 x,.float .f64 y]] w fun e w'=>e=.returned (.agg #[.float .f64 r1,.float .f64 r2])∧Below w.heap.size w w':=by
 have e1:(n:Int) % 2=0:=by omega
 have e2:(n:Int).tmod 2=0:=by rw [Int.tmod_eq_emod_of_nonneg (by omega)];omega
 have HA1:=Hd hA1;have HMX:=Hd hMx;have HA2:=Hd hA2;have HM3:=Hd hM3;have HH:=Hd hH;clear hA1 hMx hA2 hM3 hH;have LL:=li3 w #[.float .f64 c1,.float .f64 c2] 28 #[.float .f64 x,.float .f64 y] 28 #[.float .f64 0,.float .f64 0] 28;have HT:=Hd (hT.below LL.out.b);clear hT hn
 go_enter Tryz.func103,Tryz.ntmps103
 obtain⟨q1_0,q1_1⟩:=(LL.out.blk 0 rfl).c2;obtain⟨q2_0,q2_1⟩:=(LL.out.blk 1 rfl).c2;go_wp2_with fail;refine (HA1.out _ HT.out).mono ?_;rintro e wk ⟨rfl,hb⟩;replace LL:=stL LL hb;replace HT:=Hd (HT.out.below hb);clear hb q1_0 q1_1 q2_0 q2_1 HA1
 go_upto_region 2 with fail
 have hl_j7:=LL.out.lts;generalize hwn:World.alloc wk _=wn;replace HT:=Hd (HT.out.below (below_allocE hwn));replace LL:=Hd (LL.out.newE hwn)
 simp only [List.cons_append,List.nil_append] at LL
 simp only [List.mem_cons,List.not_mem_nil,or_false,forall_eq_or_imp,forall_eq,false_imp_iff,implies_true,and_true] at hl_j7
 clear hwn;generalize wk.heap.size=j7 at LL hl_j7 ⊢;go_wp2_with fail;replace LL:=Hd (LL.out.loose 2 rfl rfl)
 simp only [List.eraseIdx,List.size_toArray,List.length_cons,List.length_nil,Nat.zero_add,Nat.reduceAdd] at LL
 refine regL LL (fun hHeld=>?_);clear LL;replace HT:=Hd (HT.out.below (Below.refl _ _).drew);generalize World.drew _=wk at hHeld HT ⊢;refine tk 0 ?_ (hv:=by intro W2 hSw;obtain⟨q0,q1⟩:=(hSw.blk 2 rfl).c2;go_simp;(try with_reducible rfl));(try simp only [Act.put,lay]);refine tk 1 ?_;(try simp only [Act.put,lay]);refine tk 2 ?_ (hv:=by intro W2 hSw;obtain⟨q0,q1⟩:=(hSw.blk 0 rfl).c2;go_simp;(try with_reducible rfl));(try simp only [Act.put,lay]);refine tk 3 ?_ (hv:=by intro W2 hSw;obtain⟨q0,q1⟩:=(hSw.blk 1 rfl).c2;go_simp;(try with_reducible rfl));(try simp only [Act.put,lay]);refine rdy 4 (fun KK hKK=>?_);go_simp;refine (HMX.out _).mono ?_;rintro e wk ⟨rfl,hb2⟩;go_wp2_with fail;refine hKK.out _ _ (hHeld.keep hb2) (fun _=>?_);clear hKK KK hHeld;rename_i hHeld;(try simp only [Act.put,lay]);(try replace HT:=Hd (HT.out.below hb2));clear hb2;refine rdy 5 (fun KK hKK=>?_);go_simp;refine (HA2.out _ HT.out).mono ?_;rintro e wk ⟨rfl,hb3⟩;go_wp2_with fail;refine hKK.out _ _ (hHeld.keep hb3) (fun _=>?_);clear hKK KK hHeld;rename_i hHeld;(try simp only [Act.put,lay]);(try replace HT:=Hd (HT.out.below hb3));clear hb3;refine rdy 6 (fun KK hKK=>?_);go_simp;refine (HM3.out _).mono ?_;rintro e wk ⟨rfl,hb4⟩;go_wp2_with fail;refine hKK.out _ _ (hHeld.keep hb4) (fun _=>?_);clear hKK KK hHeld;rename_i hHeld;(try simp only [Act.put,lay]);(try replace HT:=Hd (HT.out.below hb4));clear hb4;refine rdy 7 (fun KK hKK=>?_);go_simp;refine (HH.out _).mono ?_;rintro e wk ⟨rfl,hb5⟩;go_wp2_with fail
 refine hKK.out _ _ (hHeld.keep hb5) (fun _=>?_);clear hKK KK hHeld;rename_i hHeld;(try simp only [Act.put,lay]);(try replace HT:=Hd (HT.out.below hb5));clear hb5;refine rdy 8 (fun KK hKK=>?_);obtain⟨ha0,hf0,ha1,hf1⟩:=(hHeld.has 0 rfl).sf2;obtain⟨csx,hbx,-,hcx⟩:=hHeld.has 0 rfl;(try clear HT);clear hbx hcx;go_simp;have HS_0:=(hHeld.has 0 rfl).laid [.float .f64 r1,.float .f64 r2] rfl;refine hKK.out _ _ (hHeld.over 0 rfl [.float .f64 r1,.float .f64 r2] rfl rfl (by first | omega | exact hHeld.le_of 0 rfl) (by simp<;>omega) (by simp<;>omega)) (fun _=>?_);clear hKK KK hHeld;rename_i hHeld;(try simp only [Act.put,lay]);refine wpAnyH_done (by kernel_rfl) ?_ _;have LB:=Hd hHeld.b;clear hHeld;obtain⟨hk6_0,hk6_1⟩:=HS_0.c2;clear HS_0
 simp [sets] at hk6_0 hk6_1
 go_wp2;refine bodyPost_ret (v:=.agg #[.float .f64 r1,.float .f64 r2]) (by simp [results,Tryz.results103,go_sem,hk6_0,hk6_1]) rfl ?_
 exact⟨rfl,LB.out⟩
set_option maxRecDepth 8000 in
theorem below_odd(n c1 c2 x y u1 u2 v1 v2 x3 y3 c3 c4 v3 v4 r1 r2:Nat)(w:World)(hn:n % 2=1)(hA1:∀ W,Tab W→Calls Tryz.prog 172 #[.int .i64 (n:Int),.agg #[.float .f64 c1,.float .f64 c2],.agg #[.float .f64 x,.float .f64 y]] W fun e w'=>e=.returned (.agg #[.float .f64 u1,.float .f64 u2])∧Below W.heap.size W w')(hMx:∀ W,Calls Tryz.prog 85 #[.agg #[.float .f64 x,.float .f64 y]] W fun e w'=>e=.returned (.agg #[.float .f64 x3,.float .f64 y3])∧Below W.heap.size W w')(hMc:∀ W,Calls Tryz.prog 85 #[.agg #[.float .f64 c1,.float .f64 c2]] W fun e w'=>e=.returned (.agg #[.float .f64 c3,.float .f64 c4])∧Below W.heap.size W w')(hA2:∀ W,Tab W→Calls Tryz.prog 172 #[.int .i64 (n:Int),.agg #[.float .f64 c3,.float .f64 c4],.agg #[.float .f64 x3,.float .f64 y3]] W fun e w'=>e=.returned (.agg #[.float .f64 v1,.float .f64 v2])∧Below W.heap.size W w')(hM3:∀ W,Calls Tryz.prog 85 #[.agg #[.float .f64 v1,.float .f64 v2]] W fun e w'=>e=.returned (.agg #[.float .f64 v3,.float .f64 v4])∧Below W.heap.size W w')(hH:∀ W,Calls Tryz.prog 63 #[.agg #[.float .f64 u1,.float .f64 u2],.agg #[.float .f64 v3,.float .f64 v4]] W fun e w'=>e=.returned (.agg #[.float .f64 r1,.float .f64 r2])∧Below W.heap.size W w')(hT:Tab w):
  Calls Tryz.prog 103 #[.int .i64 (n:Int),.agg #[.float .f64 c1,.float .f64 c2],.agg #[.float .f64 x,.float .f64 y]] w fun e w'=>e=.returned (.agg #[.float .f64 r1,.float .f64 r2])∧Below w.heap.size w w':=by
 have e1:(n:Int) % 2=1:=by omega
 have e2:(n:Int).tmod 2=1:=by rw [Int.tmod_eq_emod_of_nonneg (by omega)];omega
 have HA1:=Hd hA1;have HMX:=Hd hMx;have HA2:=Hd hA2;have HM3:=Hd hM3;have HH:=Hd hH;have HMC:=Hd hMc;clear hA1 hMx hA2 hM3 hH hMc;have LL:=li3 w #[.float .f64 c1,.float .f64 c2] 28 #[.float .f64 x,.float .f64 y] 28 #[.float .f64 0,.float .f64 0] 28;have HT:=Hd (hT.below LL.out.b);clear hT hn
 go_enter Tryz.func103,Tryz.ntmps103
 obtain⟨q1_0,q1_1⟩:=(LL.out.blk 0 rfl).c2;obtain⟨q2_0,q2_1⟩:=(LL.out.blk 1 rfl).c2;go_wp2_with fail;refine (HA1.out _ HT.out).mono ?_;rintro e wk ⟨rfl,hb⟩;replace LL:=stL LL hb;replace HT:=Hd (HT.out.below hb);clear hb q1_0 q1_1 q2_0 q2_1 HA1
 go_upto_region 2 with fail
 have hl_j7:=LL.out.lts;generalize hwn:World.alloc wk _=wn;replace HT:=Hd (HT.out.below (below_allocE hwn));replace LL:=Hd (LL.out.newE hwn)
 simp only [List.cons_append,List.nil_append] at LL
 simp only [List.mem_cons,List.not_mem_nil,or_false,forall_eq_or_imp,forall_eq,false_imp_iff,implies_true,and_true] at hl_j7
 clear hwn;generalize wk.heap.size=j7 at LL hl_j7 ⊢;go_wp2_with fail;replace LL:=Hd (LL.out.loose 2 rfl rfl)
 simp only [List.eraseIdx,List.size_toArray,List.length_cons,List.length_nil,Nat.zero_add,Nat.reduceAdd] at LL
 refine regL LL (fun hHeld=>?_);clear LL;replace HT:=Hd (HT.out.below (Below.refl _ _).drew);generalize World.drew _=wk at hHeld HT ⊢;refine tk 0 ?_ (hv:=by intro W2 hSw;obtain⟨q0,q1⟩:=(hSw.blk 2 rfl).c2;go_simp;(try with_reducible rfl));(try simp only [Act.put,lay]);refine tk 1 ?_;(try simp only [Act.put,lay]);refine tk 2 ?_ (hv:=by intro W2 hSw;obtain⟨q0,q1⟩:=(hSw.blk 0 rfl).c2;go_simp;(try with_reducible rfl));(try simp only [Act.put,lay]);refine tk 4 ?_ (hv:=by intro W2 hSw;obtain⟨q0,q1⟩:=(hSw.blk 1 rfl).c2;go_simp;(try with_reducible rfl));(try simp only [Act.put,lay]);refine rdy 3 (fun KK hKK=>?_);go_simp;refine (HMC.out _).mono ?_;rintro e wk ⟨rfl,hb1⟩;go_wp2_with fail;refine hKK.out _ _ (hHeld.keep hb1) (fun _=>?_);clear hKK KK hHeld;rename_i hHeld;(try simp only [Act.put,lay]);(try replace HT:=Hd (HT.out.below hb1));clear hb1;refine rdy 5 (fun KK hKK=>?_);go_simp;refine (HMX.out _).mono ?_;rintro e wk ⟨rfl,hb2⟩;go_wp2_with fail;refine hKK.out _ _ (hHeld.keep hb2) (fun _=>?_);clear hKK KK hHeld;rename_i hHeld;(try simp only [Act.put,lay]);(try replace HT:=Hd (HT.out.below hb2));clear hb2;refine rdy 6 (fun KK hKK=>?_);go_simp;refine (HA2.out _ HT.out).mono ?_;rintro e wk ⟨rfl,hb3⟩;go_wp2_with fail;refine hKK.out _ _ (hHeld.keep hb3) (fun _=>?_);clear hKK KK hHeld;rename_i hHeld;(try simp only [Act.put,lay]);(try replace HT:=Hd (HT.out.below hb3));clear hb3;refine rdy 7 (fun KK hKK=>?_);go_simp;refine (HM3.out _).mono ?_;rintro e wk ⟨rfl,hb4⟩;go_wp2_with fail
 refine hKK.out _ _ (hHeld.keep hb4) (fun _=>?_);clear hKK KK hHeld;rename_i hHeld;(try simp only [Act.put,lay]);(try replace HT:=Hd (HT.out.below hb4));clear hb4;refine rdy 8 (fun KK hKK=>?_);go_simp;refine (HH.out _).mono ?_;rintro e wk ⟨rfl,hb5⟩;go_wp2_with fail;refine hKK.out _ _ (hHeld.keep hb5) (fun _=>?_);clear hKK KK hHeld;rename_i hHeld;(try simp only [Act.put,lay]);(try replace HT:=Hd (HT.out.below hb5));clear hb5;refine rdy 9 (fun KK hKK=>?_);obtain⟨ha0,hf0,ha1,hf1⟩:=(hHeld.has 0 rfl).sf2;obtain⟨csx,hbx,-,hcx⟩:=hHeld.has 0 rfl;(try clear HT);clear hbx hcx;go_simp;have HS_0:=(hHeld.has 0 rfl).laid [.float .f64 r1,.float .f64 r2] rfl;refine hKK.out _ _ (hHeld.over 0 rfl [.float .f64 r1,.float .f64 r2] rfl rfl (by first | omega | exact hHeld.le_of 0 rfl) (by simp<;>omega) (by simp<;>omega)) (fun _=>?_);clear hKK KK hHeld;rename_i hHeld;(try simp only [Act.put,lay]);refine wpAnyH_done (by kernel_rfl) ?_ _;have LB:=Hd hHeld.b;clear hHeld;obtain⟨hk6_0,hk6_1⟩:=HS_0.c2;clear HS_0
 simp [sets] at hk6_0 hk6_1
 go_wp2;refine bodyPost_ret (v:=.agg #[.float .f64 r1,.float .f64 r2]) (by simp [results,Tryz.results103,go_sem,hk6_0,hk6_1]) rfl ?_
 exact⟨rfl,LB.out⟩
end
section
open Go.RowKit
theorem ivd_lt{j:Int}(h0:0<j){n:Nat}:ivd (-1) j n<M:=by
 have hM:=M_val;unfold ivd
 split
 ·omega
 ·have:=rndI_down (rtx j n);omega
theorem ivd_pair(j:Int)(n:Nat):ivd (-1) j n≤ivd 1 j n:=by
 unfold ivd
 split
 ·omega
 ·exact rndI_le _
theorem ivd_anti{a b:Int}(h0:0<a)(hab:a≤b)(hb:b≤M){n:Nat}(hn:1≤n):ivd (-1) b n≤ivd (-1) a n∧ivd 1 b n≤ivd 1 a n:=by
 have hM:=M_val;have ra:=ivd_rng (d:=-1) (.inl rfl) h0 (by omega:a≤M) hn;have ra':=ivd_rng (d:=1) (.inr rfl) h0 (by omega:a≤M) hn
 by_cases c:b=M
 ·have e1:ivd (-1) b n=0:=by unfold ivd;rw [if_pos c]
  have e2:ivd 1 b n=0:=by unfold ivd;rw [if_pos c]
  omega
 ·have eb:∀ d,ivd d b n=rndI d (rtx b n):=fun d=>by unfold ivd;rw [if_neg c]
  have ea:∀ d,ivd d a n=rndI d (rtx a n):=fun d=>by unfold ivd;rw [if_neg (by omega)]
  rw [eb,eb,ea,ea];rw [ea] at ra ra';have qa:=rtx_ok h0 hn;have qb:=rtx_ok (j:=b) (by omega) hn;have pa:=recip_pos h0
  have hX:1 / fl b≤1 / fl a:=by
   have fa:=fl_pos' h0;have fb:=fl_pos' (k:=b) (by omega);have hle:fl a≤fl b:=fl_le_iff.2 hab
   have e:1 / (1 / fl a)=fl a:=by grind
   have:=(one_div_flip (a:=1 / fl a) (b:=fl b) pa fb).2
   exact this.2 (by rw [e];exact hle)
  have key:∀ i:Int,0≤i→fl i≤rtx b n→fl i≤rtx a n:=fun i hi h=>(qa.2 i hi).1.2 (Rat.le_trans ((qb.2 i hi).1.1 h) hX);have key2:∀ i:Int,0≤i→rtx a n≤fl i→rtx b n≤fl i:=fun i hi h=>(qb.2 i hi).2.2 (Rat.le_trans hX ((qa.2 i hi).2.1 h));have db:=rndI_down (rtx b n);have da:=rndI_down (rtx a n);have ub:=rndI_up (rtx b n);have ua:=rndI_up (rtx a n);have rb:=ivd_rng (d:=-1) (.inl rfl) (j:=b) (by omega) hb hn;rw [eb] at rb
  constructor
  ·exact (da.2.2 _ (by omega) (by omega)).2 (key _ rb.1 ((db.2.2 _ (by omega) (by omega)).1 (Int.le_refl _)))
  ·by_cases z:rndI 1 (rtx a n)=M
   ·omega
   ·exact (ub.2.2 _ (by omega) (by omega)).2 (key2 _ ra'.1 ((ua.2.2 _ (by omega) (by omega)).1 (Int.le_refl _)))
theorem apt_iv{n:Nat}{i2 j2 i j:Int}(hn:1≤n)(hc:i2≤j2∧j2≤M∧i2<M)(hx:-(M:Int)≤i∧i≤j∧j≤M∧i<M∧-(M:Int)<j):Iv (apt n i2 j2 i j).1 (apt n i2 j2 i j).2:=by
 have hM:=M_val;unfold apt
 by_cases c:j2≤0
 ·rw [if_pos c];exact Iv.none
 ·rw [if_neg c];have a1:=ivd_rng (d:=-1) (.inl rfl) (j:=j2) (by omega) hc.2.1 hn;have a2:=ivd_rng (d:=1) (.inr rfl) (j:=j2) (by omega) hc.2.1 hn;have a3:=ivd_lt (j:=j2) (by omega) (n:=n);have a4:=ivd_pair j2 n
  obtain⟨qd,hqd⟩:∃ q,(if 0<i2 then ivd (-1) i2 n else (M:Int))=q:=⟨_,rfl⟩
  obtain⟨qu,hqu⟩:∃ q,(if 0<i2 then ivd 1 i2 n else (M:Int))=q:=⟨_,rfl⟩
  have hq:0≤qd∧qd≤qu∧ivd (-1) j2 n≤qu:=by
   by_cases k:0<i2
   ·rw [if_pos k] at hqd hqu;have b1:=ivd_rng (d:=-1) (.inl rfl) (j:=i2) k (by omega) hn;have b4:=ivd_pair i2 n;have b5:=ivd_anti k hc.1 hc.2.1 hn
    omega
   ·rw [if_neg k] at hqd hqu
    omega
  rw [hqd,hqu];unfold ctO
  by_cases c1:qd<i∨j<ivd 1 j2 n
  ·rw [if_pos c1];exact Iv.none
  ·rw [if_neg c1]
   split
   ·exact Iv.none
   ·unfold Iv
    dsimp only
    omega
noncomputable def blw(n:Nat)(i2 j2 i j:Int):Int × Int:=
 (min (apt n i2 j2 i j).1 (-(if n % 2=0 then apt n i2 j2 (-j) (-i) else apt n (-j2) (-i2) (-j) (-i)).2),max (apt n i2 j2 i j).2 (-(if n % 2=0 then apt n i2 j2 (-j) (-i) else apt n (-j2) (-i2) (-j) (-i)).1))
theorem mirror_pat{i j:Int}(h:Iv i j)(w:World):Calls Tryz.prog 85 #[.agg #[.float .f64 (pat i),.float .f64 (pat j)]] w fun e w'=>e=.returned (.agg #[.float .f64 (pat (-j)),.float .f64 (pat (-i))])∧Below w.heap.size w w':=by
 have m:=mirrorf (pat i) (pat j) w (pat_lt h.lo.1 h.lo.2) (pat_lt h.hi.1 h.hi.2);rw [rd_pat h] at m
 exact m
theorem neg_iv'{i j:Int}(h:Iv i j):Iv (-j) (-i):=by
 have hM:=M_val;unfold Iv at *
 omega
theorem below_any(n:Nat)(i2 j2 i j:Int)(w:World)(hn:1≤n)(hn2:n≤1024)(hc:-(M:Int)≤i2∧i2≤j2∧j2≤M∧i2<M∧-(M:Int)<j2)(hx:-(M:Int)≤i∧i≤j∧j≤M∧i<M∧-(M:Int)<j)(hT:Tab w):
  Calls Tryz.prog 103 #[.int .i64 (n:Int),.agg #[.float .f64 (pat i2),.float .f64 (pat j2)],.agg #[.float .f64 (pat i),.float .f64 (pat j)]] w fun e w'=>e=.returned (.agg #[.float .f64 (pat (blw n i2 j2 i j).1),.float .f64 (pat (blw n i2 j2 i j).2)])∧Below w.heap.size w w':=by
 have hM:=M_val;have hu:=apt_iv (n:=n) hn (i2:=i2) (j2:=j2) (by omega) hx;have A1:=fun W (t:Tab W)=>apart_any n i2 j2 i j W hn hn2 (by omega) (by omega) t;have MX:=fun W=>mirror_pat (i:=i) (j:=j) (.inl hx) W;unfold blw
 rcases Nat.mod_two_eq_zero_or_one n with hp | hp
 ·rw [if_pos hp];have hv:=apt_iv (n:=n) hn (i2:=i2) (j2:=j2) (i:=-j) (j:=-i) (by omega) (by omega)
  exact below_even n _ _ _ _ _ _ _ _ _ _ _ _ _ _ w hp A1 MX (fun W t=>apart_any n i2 j2 (-j) (-i) W hn hn2 (by omega) (by omega) t) (fun W=>mirror_pat hv W) (fun W=>hullf _ _ _ _ W hu (neg_iv' hv)) hT
 ·rw [if_neg (by omega)];have hv:=apt_iv (n:=n) hn (i2:=-j2) (j2:=-i2) (i:=-j) (j:=-i) (by omega) (by omega)
  exact below_odd n _ _ _ _ _ _ _ _ _ _ _ _ _ _ _ _ w hp A1 MX (fun W=>mirror_pat (i:=i2) (j:=j2) (.inl hc) W) (fun W t=>apart_any n (-j2) (-i2) (-j) (-i) W hn hn2 (by omega) (by omega) t) (fun W=>mirror_pat hv W) (fun W=>hullf _ _ _ _ W hu (neg_iv' hv)) hT
end
section
open Go.RowKit
noncomputable def dqA(n:Nat)(j2:Int):Rat × Bool:=if j2<M then (rtx j2 n,false) else (0,true)
noncomputable def dqB(n:Nat)(i2:Int):Int × Rat × Bool:=if 0<i2 then (0,rtx i2 n,false) else (1,0,true)
noncomputable def FDq(n:Nat)(i2 j2 i j:Int):Int × Int:=
 if j2≤0 then ((M:Int),-(M:Int)) else pf 0 (dqA n j2).1 (dqA n j2).2 (dqB n i2).1 (dqB n i2).2.1 (dqB n i2).2.2 i j
theorem dqA_kind{n:Nat}(hn:1≤n){j2:Int}(h:0<j2):((dqA n j2).1=0∧(dqA n j2).2=true)∨(0<(dqA n j2).1∧(dqA n j2).2=false):=by
 unfold dqA
 by_cases c:j2<M
 ·rw [if_pos c];exact .inr ⟨(rtx_ok h hn).1,rfl⟩
 ·rw [if_neg c];exact .inl ⟨rfl,rfl⟩
theorem dqB_kind{n:Nat}(hn:1≤n)(i2:Int):((dqB n i2).1=1∧(dqB n i2).2.1=0∧(dqB n i2).2.2=true)∨((dqB n i2).1=0∧0<(dqB n i2).2.1∧(dqB n i2).2.2=false):=by
 unfold dqB
 by_cases c:0<i2
 ·rw [if_pos c];exact .inr ⟨rfl,(rtx_ok c hn).1,rfl⟩
 ·rw [if_neg c];exact .inl ⟨rfl,rfl,rfl⟩
theorem dqA_ivd{n:Nat}{j2:Int}(hj:j2≤M):dn 0 (dqA n j2).1=ivd (-1) j2 n∧up 0 (dqA n j2).1=ivd 1 j2 n:=by
 have hM:=M_val;unfold dqA ivd;rw [dn_zero,up_zero]
 by_cases c:j2<M
 ·rw [if_pos c,if_neg (by omega),if_neg (by omega)];exact⟨rfl,rfl⟩
 ·rw [if_neg c,if_pos (by omega),if_pos (by omega)];exact⟨rndI_zero (.inl rfl),rndI_zero (.inr rfl)⟩
theorem dqB_ivd{n:Nat}{i2:Int}(hi:i2<M):dn (dqB n i2).1 (dqB n i2).2.1=(if 0<i2 then ivd (-1) i2 n else (M:Int))∧up (dqB n i2).1 (dqB n i2).2.1=(if 0<i2 then ivd 1 i2 n else (M:Int)):=by
 have hM:=M_val;unfold dqB ivd
 by_cases c:0<i2
 ·rw [if_pos c,if_pos c,if_pos c,if_neg (by omega),if_neg (by omega)];exact⟨dn_zero _,up_zero _⟩
 ·rw [if_neg c,if_neg c,if_neg c];exact⟨dn10,up10⟩
theorem dq_le{n:Nat}(hn:1≤n){i2 j2:Int}(h:i2≤j2)(h0:0<j2)(hj:j2≤M)(hi:i2<M):dn 0 (dqA n j2).1≤up (dqB n i2).1 (dqB n i2).2.1:=by
 have hM:=M_val;rw [(dqA_ivd hj).1,(dqB_ivd hi).2];have r:=ivd_rng (d:=-1) (.inl rfl) h0 hj hn
 by_cases c:0<i2
 ·rw [if_pos c];have:=ivd_anti c h hj hn;have:=ivd_pair i2 n
  omega
 ·rw [if_neg c];omega
theorem FDq_iv{n:Nat}(hn:1≤n){i2 j2:Int}(h:Iv i2 j2)(i j:Int)(hx:Iv i j):Iv (FDq n i2 j2 i j).1 (FDq n i2 j2 i j).2:=by
 have hM:=M_val;unfold FDq
 by_cases c:j2≤0
 ·rw [if_pos c];exact Iv.none
 ·rw [if_neg c]
  rcases h with h | h
  ·refine pf_iv (.inl rfl) ?_ (dq_le hn (by omega) (by omega) (by omega) (by omega)) i j hx
   rcases dqB_kind hn i2 with k | k<;>omega
  ·omega
theorem apt_FDq{n:Nat}(hn:1≤n){i2 j2 i j:Int}(h2:Ne i2 j2)(hx:Ne i j):apt n i2 j2 i j=FDq n i2 j2 i j:=by
 have hM:=M_val;unfold Ne at h2;unfold apt FDq
 by_cases c:j2≤0
 ·rw [if_pos c,if_pos c]
 ·rw [if_neg c,if_neg c];have z1:=rndI_zero (d:=-1) (.inl rfl);have z2:=rndI_zero (d:=1) (.inr rfl);have eA:=dqA_ivd (n:=n) (j2:=j2) (by omega);have eB:=dqB_ivd (n:=n) (i2:=i2) (by omega);rw [← eA.1,← eA.2,← eB.1,← eB.2];have a:=dqA_kind hn (j2:=j2) (by omega);have b:=dqB_kind hn i2;clear eA eB
  obtain⟨⟨xa,fa⟩,ea⟩:∃ z,dqA n j2=z:=⟨_,rfl⟩
  obtain⟨⟨sb,xb,fb⟩,eb⟩:∃ z,dqB n i2=z:=⟨_,rfl⟩
  rw [ea] at a;rw [eb] at b;rw [ea,eb]
  dsimp only at *
  refine ct_tail hx (.inl rfl) (by rcases b with b | b<;>omega) ?_ ?_ ?_ ?_
  ·intro h;rcases a with ⟨a1,-⟩ | ⟨-,a1⟩
   ·exact .inr ⟨rfl,a1⟩
   ·rw [a1] at h;cases h
  ·intro h;rcases b with ⟨b1,-,-⟩ | ⟨-,-,b1⟩
   ·exact .inl b1
   ·rw [b1] at h;cases h
  ·rw [dn_zero,up_zero]
   rcases a with ⟨a1,a2⟩ | ⟨a1,a2⟩
   ·rw [a1,a2,z1,z2];simp
   ·constructor
    ·rintro⟨-,-,h⟩;have:=rndI_pos a1;omega
    ·rintro⟨-,h,-⟩;exfalso;grind
  ·rcases b with ⟨b1,b2,b3⟩ | ⟨b1,b2,b3⟩
   ·rw [b1]
    constructor
    ·rintro⟨-,h,-⟩;unfold dn at h;rw [if_neg (by omega)] at h;omega
    ·rintro⟨h,-⟩;omega
   ·rw [b1,up_zero]
    constructor
    ·rintro⟨-,-,h⟩;have:=rndI_pos b2;omega
    ·rintro⟨-,h,-⟩;exfalso;grind
theorem K1_rng:0<K1∧K1<M:=by
 have hM:=M_val;unfold K1
 omega
theorem divisors_q(n:Nat)(hn:1≤n)(hn2:n≤1024)(u v:Value)(i2 j2:Int)(w:World)(hu:SetOf w u K1 K1)(hv:SetOf w v i2 j2):
  Calls Tryz.prog 110 #[u,v] w (NewPcX w n (FDq n i2 j2)):=by
 have hM:=M_val;have k1:=K1_rng;have z0:Rtp n 0 0:=.inl ⟨rfl,rfl⟩
 rcases divisors_v u v K1 K1 i2 j2 w hu hv with ⟨h0,H⟩ | ⟨-,h0,-,h2,H⟩
 ·have e:FDq n i2 j2=fun _ _=>((M:Int),-(M:Int)):=by funext a b;unfold FDq;rw [if_pos (by omega)]
  rw [e]
  exact H.mono fun _ _ h=>newPcX_nothing h (by omega) (by omega) (by omega)
 ·unfold Ne at h2
  have e:FDq n i2 j2=pf 0 (dqA n j2).1 (dqA n j2).2 (dqB n i2).1 (dqB n i2).2.1 (dqB n i2).2.2:=by funext a b;unfold FDq;rw [if_neg (by omega)]
  rw [e];have le:=dq_le (n:=n) hn h2.2.1 h0 (by omega) (by omega)
  have ks:(dqB n i2).1=0∨(dqB n i2).1=1:=by rcases dqB_kind hn i2 with k | k<;>omega
  have a:(dvA K1 j2).1=0∧Rtp n (dvA K1 j2).2.1 (dqA n j2).1∧(dvA K1 j2).2.2=(dqA n j2).2:=by
   unfold dvA dqA
   by_cases c:j2<M
   ·rw [if_pos ⟨k1.1,c⟩,if_pos c,fl_K1];exact⟨rfl,.inr (.inl ⟨recip_pos h0,rtx_ok h0 hn⟩),rfl⟩
   ·rw [if_neg (by omega),if_neg c];exact⟨rfl,z0,rfl⟩
  have b:(dvB K1 i2).1=(dqB n i2).1∧Rtp n (dvB K1 i2).2.1 (dqB n i2).2.1∧(dvB K1 i2).2.2=(dqB n i2).2.2:=by
   unfold dvB dqB
   by_cases c:0<i2
   ·rw [if_pos ⟨k1.2,c⟩,if_pos c,fl_K1];exact⟨rfl,.inr (.inl ⟨recip_pos c,rtx_ok c hn⟩),rfl⟩
   ·rw [if_neg (by omega),if_neg c];exact⟨rfl,z0,rfl⟩
  rw [a.1,a.2.2,b.1,b.2.2] at H
  exact H.mono fun _ _ h=>newPcX_one h (by omega) hn2 a.2.1 b.2.1 (by omega) (by omega) (.inl rfl) ks le
theorem pwz_even{n:Nat}(hn:1≤n)(hn2:n≤1024)(hp:n % 2=0){i2 j2 i j:Int}(h2:Iv i2 j2)(hx:Iv i j):
  zg i j (L2 (FDq n i2 j2) (ngF (FDq n i2 j2))) 2=(if j2<i2∨j<i then ((M:Int),-(M:Int)) else if j2<0 then ((M:Int),-(M:Int)) else blw n i2 j2 i j):=by
 have hM:=M_val;have f1:=FDq_iv hn h2 i j hx;have f2:=ngF_iv (F:=FDq n i2 j2) (fun a b h=>FDq_iv hn h2 a b h) i j hx;rw [zg2 f1 f2]
 by_cases c0:j2≤0
 ·have e:∀ a b,FDq n i2 j2 a b=((M:Int),-(M:Int)):=fun a b=>by unfold FDq;rw [if_pos c0]
  have e2:∀ a b,apt n i2 j2 a b=((M:Int),-(M:Int)):=fun a b=>by unfold apt;rw [if_pos c0]
  unfold ngF blw;rw [if_pos hp,e,e,e2,e2]
  simp
 ·have hne:Ne i2 j2∨j2<i2:=by
   by_cases c:j2<i2
   ·exact .inr c
   ·exact .inl (ne_or h2 c)
  rcases hne with hne | hne
  ·by_cases d:j<i
   ·rw [if_pos (.inr d)]
    have e:∀ a b,b<a→FDq n i2 j2 a b=((M:Int),-(M:Int)):=fun a b hab=>by
     unfold FDq pf;rw [if_neg c0,if_pos hab]
    unfold ngF;rw [e _ _ d,e _ _ (by omega)]
    simp
   ·unfold Ne at hne;rw [if_neg (by omega),if_neg (by omega)];have k:=ne_or hx d;unfold ngF blw;rw [if_pos hp,← apt_FDq hn hne k,← apt_FDq hn hne (by unfold Ne at k ⊢;omega)]
  ·rcases h2 with h | h<;>omega
theorem pwz_odd{n:Nat}(hn:1≤n)(hn2:n≤1024)(hp:n % 2=1){i2 j2 i j:Int}(h2:Iv i2 j2)(hx:Iv i j):
  zg i j (L2 (FDq n i2 j2) (ngF (FDq n (-j2) (-i2)))) 2=(if j2<i2∨j<i then ((M:Int),-(M:Int)) else blw n i2 j2 i j):=by
 have hM:=M_val;have h2':=neg_iv' h2;have f1:=FDq_iv hn h2 i j hx;have f2:=ngF_iv (F:=FDq n (-j2) (-i2)) (fun a b h=>FDq_iv hn h2' a b h) i j hx;rw [zg2 f1 f2]
 by_cases c:j2<i2
 ·rw [if_pos (.inl c)]
  have e1:∀ a b,FDq n i2 j2 a b=((M:Int),-(M:Int)):=fun a b=>by unfold FDq;rw [if_pos (by rcases h2 with h | h<;>omega)]
  have e2:∀ a b,FDq n (-j2) (-i2) a b=((M:Int),-(M:Int)):=fun a b=>by unfold FDq;rw [if_pos (by rcases h2 with h | h<;>omega)]
  unfold ngF;rw [e1,e2]
  simp
 ·have hne:=ne_or h2 c
  by_cases d:j<i
  ·rw [if_pos (.inr d)]
   have e:∀ i2 j2 a b,b<a→FDq n i2 j2 a b=((M:Int),-(M:Int)):=fun i2 j2 a b hab=>by
    unfold FDq
    split
    ·rfl
    ·unfold pf;rw [if_pos hab]
   unfold ngF;rw [e _ _ _ _ d,e _ _ _ _ (by omega)]
   simp
  ·rw [if_neg (by omega)];have k:=ne_or hx d;unfold ngF blw;rw [if_neg (by omega),← apt_FDq hn hne k,← apt_FDq hn (by unfold Ne at hne ⊢;omega) (by unfold Ne at k ⊢;omega)]
end
section
open Go.RowKit
set_option maxRecDepth 8000 in
theorem refpownz_lo(z:Int)(f1 f2 x1 x2 r1 r2:Nat)(w:World)(hz:z < -1024)(hR:∀ W,Calls Tryz.prog 106 #[.agg #[.int .u64 (x1:Int),.int .u64 (x2:Int)]] W fun e w'=>e=.returned (.agg #[.int .u64 (r1:Int),.int .u64 (r2:Int)])∧Below W.heap.size W w'):
  Calls Tryz.prog 40 #[.int .i64 z,.agg #[.int .u64 (f1:Int),.int .u64 (f2:Int)],.agg #[.int .u64 (x1:Int),.int .u64 (x2:Int)]] w fun e w'=>e=.returned (.agg #[.int .u64 (r1:Int),.int .u64 (r2:Int)])∧Below w.heap.size w w':=by
 have HR:=Hd hR;clear hR;have LL:=li3 w #[.int .u64 (f1:Int),.int .u64 (f2:Int)] 24 #[.int .u64 (x1:Int),.int .u64 (x2:Int)] 24 #[.int .u64 0,.int .u64 0] 24
 go_enter Tryz.func40,Tryz.ntmps40
 obtain⟨q1_0,q1_1⟩:=(LL.out.blk 1 rfl).c2;go_wp2_with fail;refine (HR.out _).mono ?_;rintro e wk ⟨rfl,hb⟩;replace LL:=stL LL hb;clear hb q1_0 q1_1;replace LL:=Hd (LL.out.loose 2 rfl rfl)
 simp only [List.eraseIdx,List.size_toArray,List.length_cons,List.length_nil,Nat.zero_add,Nat.reduceAdd] at LL
 obtain⟨ha6_0,hf6_0,ha6_1,hf6_1⟩:=(LL.out.has 0 rfl).sf2;have LF:=Hd (LL.out.write [.int .u64 (r1:Int),.int .u64 (r2:Int)] rfl (by omega) (by simp<;>omega) (by simp<;>omega));obtain⟨hk6_0,hk6_1⟩:=(LF.out.blk 2 rfl).c2
 simp [sets] at hk6_0 hk6_1
 clear LL;go_wp2;refine bodyPost_ret (v:=.agg #[.int .u64 (r1:Int),.int .u64 (r2:Int)]) (by simp [results,Tryz.results40,go_sem,hk6_0,hk6_1]) rfl ?_
 exact⟨rfl,LF.out.b⟩
set_option maxRecDepth 8000 in
theorem refpownz_hi(z:Int)(f1 f2 x1 x2 r1 r2:Nat)(w:World)(hz:1024<z)(hR:∀ W,Calls Tryz.prog 106 #[.agg #[.int .u64 (x1:Int),.int .u64 (x2:Int)]] W fun e w'=>e=.returned (.agg #[.int .u64 (r1:Int),.int .u64 (r2:Int)])∧Below W.heap.size W w'):
  Calls Tryz.prog 40 #[.int .i64 z,.agg #[.int .u64 (f1:Int),.int .u64 (f2:Int)],.agg #[.int .u64 (x1:Int),.int .u64 (x2:Int)]] w fun e w'=>e=.returned (.agg #[.int .u64 (r1:Int),.int .u64 (r2:Int)])∧Below w.heap.size w w':=by
 have hz2:¬ z < -1024:=by omega
 have HR:=Hd hR;clear hR;have LL:=li3 w #[.int .u64 (f1:Int),.int .u64 (f2:Int)] 24 #[.int .u64 (x1:Int),.int .u64 (x2:Int)] 24 #[.int .u64 0,.int .u64 0] 24
 go_enter Tryz.func40,Tryz.ntmps40
 obtain⟨q1_0,q1_1⟩:=(LL.out.blk 1 rfl).c2;go_wp2_with fail;refine (HR.out _).mono ?_;rintro e wk ⟨rfl,hb⟩;replace LL:=stL LL hb;clear hb q1_0 q1_1;replace LL:=Hd (LL.out.loose 2 rfl rfl)
 simp only [List.eraseIdx,List.size_toArray,List.length_cons,List.length_nil,Nat.zero_add,Nat.reduceAdd] at LL
 obtain⟨ha6_0,hf6_0,ha6_1,hf6_1⟩:=(LL.out.has 0 rfl).sf2;have LF:=Hd (LL.out.write [.int .u64 (r1:Int),.int .u64 (r2:Int)] rfl (by omega) (by simp<;>omega) (by simp<;>omega));obtain⟨hk6_0,hk6_1⟩:=(LF.out.blk 2 rfl).c2
 simp [sets] at hk6_0 hk6_1
 clear LL;go_wp2;refine bodyPost_ret (v:=.agg #[.int .u64 (r1:Int),.int .u64 (r2:Int)]) (by simp [results,Tryz.results40,go_sem,hk6_0,hk6_1]) rfl ?_
 exact⟨rfl,LF.out.b⟩
set_option maxRecDepth 8000 in
theorem refpownz_in(f1 f2 x1 x2 r1 r2:Nat)(i2 j2:Int)(w:World)(hO:∀ W,Calls Tryz.prog 83 #[.agg #[.int .u64 (f1:Int),.int .u64 (f2:Int)]] W (NewSetI W i2 j2))(hI:∀ W,Calls Tryz.prog 51 #[.int .i64 1] W (NewRatS W 1 1))(hH:∀ W (g1:Bool) (A1:Option Addr) (n1 c1:Nat) (B1:Option Addr) (m1 d1:Nat),RatV W 1 g1 (.slice A1 n1 c1) (.slice B1 m1 d1) 1→Calls Tryz.prog 34 #[.agg #[.int .u64 (f1:Int),.int .u64 (f2:Int)],.agg #[.bool g1,.slice A1 n1 c1,.slice B1 m1 d1]] W fun e w'=>e=.returned (.bool true)∧Below W.heap.size W w')(hR:∀ W,Calls Tryz.prog 106 #[.agg #[.int .u64 (x1:Int),.int .u64 (x2:Int)]] W fun e w'=>e=.returned (.agg #[.int .u64 (r1:Int),.int .u64 (r2:Int)])∧Below W.heap.size W w'):
  Calls Tryz.prog 40 #[.int .i64 0,.agg #[.int .u64 (f1:Int),.int .u64 (f2:Int)],.agg #[.int .u64 (x1:Int),.int .u64 (x2:Int)]] w fun e w'=>e=.returned (.agg #[.int .u64 (r1:Int),.int .u64 (r2:Int)])∧Below w.heap.size w w':=by
 have HE:=Hd empty6;have HO:=Hd hO;have HI:=Hd hI;have HH:=Hd hH;have HR:=Hd hR;clear hO hI hH hR;have LL:=li3 w #[.int .u64 (f1:Int),.int .u64 (f2:Int)] 24 #[.int .u64 (x1:Int),.int .u64 (x2:Int)] 24 #[.int .u64 0,.int .u64 0] 24
 go_enter Tryz.func40,Tryz.ntmps40
 obtain⟨q1_0,q1_1⟩:=(LL.out.blk 0 rfl).c2;go_wp2_with fail;refine (HO.out _).mono ?_;rintro e wk ⟨o2,s2,g2,A2,n2,c2,B2,m2,d2,s52,g52,A52,n52,c52,B52,m52,d52,rfl,hs2,hb⟩;replace LL:=stL LL hb;clear hb q1_0 q1_1;clear hs2
 go_upto_region 4 with fail
 have hl_j7:=LL.out.lts;generalize hwn:World.alloc wk _=wn;replace LL:=Hd (LL.out.newE hwn)
 simp only [List.cons_append,List.nil_append] at LL
 simp only [List.mem_cons,List.not_mem_nil,or_false,forall_eq_or_imp,forall_eq,false_imp_iff,implies_true,and_true] at hl_j7
 clear hwn;generalize wk.heap.size=j7 at LL hl_j7 ⊢
 go_upto_region 5 with fail
 refine regL LL (fun hHeld=>?_);clear LL;generalize World.drew _=wk at hHeld  ⊢;refine tk 0 ?_ (hv:=by intro W2 hSw;obtain⟨q0,q1⟩:=(hSw.blk 0 rfl).c2;go_simp;(try with_reducible rfl));(try simp only [Act.put,lay]);refine rdy 1 (fun KK hKK=>?_);go_simp;refine (HI.out _).mono ?_;rintro e wk ⟨g1,A1,n1,c1,B1,m1,d1,rfl,hr1,hb1⟩;go_wp2_with fail;refine hKK.out _ _ (hHeld.keep hb1) (fun _=>?_);clear hKK KK hHeld;rename_i hHeld;(try simp only [Act.put,lay]);have HR1:=Hd hr1;clear hr1;clear hb1;refine rdy 2 (fun KK hKK=>?_);go_simp;refine (HH.out _ _ _ _ _ _ _ _ HR1.out).mono ?_;rintro e wk ⟨rfl,hb2⟩;go_wp2_with fail;refine hKK.out _ _ (hHeld.keep hb2) (fun _=>?_);clear hKK KK hHeld;rename_i hHeld;(try simp only [Act.put,lay]);(try replace HR1:=Hd (HR1.out.below hb2));clear hb2;refine wpAnyH_done (by kernel_rfl) ?_ _;have LL:=Hd hHeld;clear hHeld;clear HR1;obtain⟨q2_0,q2_1⟩:=(LL.out.blk 1 rfl).c2;go_wp2_with fail;refine (HR.out _).mono ?_;rintro e wk ⟨rfl,hb⟩;replace LL:=stL LL hb;clear hb q2_0 q2_1;replace LL:=Hd (LL.out.loose 2 rfl rfl)
 simp only [List.eraseIdx,List.size_toArray,List.length_cons,List.length_nil,Nat.zero_add,Nat.reduceAdd] at LL
 obtain⟨ha6_0,hf6_0,ha6_1,hf6_1⟩:=(LL.out.has 0 rfl).sf2;have LF:=Hd (LL.out.write [.int .u64 (r1:Int),.int .u64 (r2:Int)] rfl (by omega) (by simp<;>omega) (by simp<;>omega));obtain⟨hk6_0,hk6_1⟩:=(LF.out.blk 3 rfl).c2
 simp [sets] at hk6_0 hk6_1
 clear LL;go_wp2;refine bodyPost_ret (v:=.agg #[.int .u64 (r1:Int),.int .u64 (r2:Int)]) (by simp [results,Tryz.results40,go_sem,hk6_0,hk6_1]) rfl ?_
 exact⟨rfl,LF.out.b⟩
set_option maxRecDepth 8000 in
theorem refpownz_out(f1 f2 x1 x2:Nat)(i2 j2:Int)(w:World)(hO:∀ W,Calls Tryz.prog 83 #[.agg #[.int .u64 (f1:Int),.int .u64 (f2:Int)]] W (NewSetI W i2 j2))(hI:∀ W,Calls Tryz.prog 51 #[.int .i64 1] W (NewRatS W 1 1))(hH:∀ W (g1:Bool) (A1:Option Addr) (n1 c1:Nat) (B1:Option Addr) (m1 d1:Nat),RatV W 1 g1 (.slice A1 n1 c1) (.slice B1 m1 d1) 1→Calls Tryz.prog 34 #[.agg #[.int .u64 (f1:Int),.int .u64 (f2:Int)],.agg #[.bool g1,.slice A1 n1 c1,.slice B1 m1 d1]] W fun e w'=>e=.returned (.bool false)∧Below W.heap.size W w'):
  Calls Tryz.prog 40 #[.int .i64 0,.agg #[.int .u64 (f1:Int),.int .u64 (f2:Int)],.agg #[.int .u64 (x1:Int),.int .u64 (x2:Int)]] w fun e w'=>e=.returned (.agg #[.int .u64 9218868437227405312,.int .u64 18442240474082181120])∧Below w.heap.size w w':=by
 have HE:=Hd empty6;have HO:=Hd hO;have HI:=Hd hI;have HH:=Hd hH;clear hO hI hH;have LL:=li3 w #[.int .u64 (f1:Int),.int .u64 (f2:Int)] 24 #[.int .u64 (x1:Int),.int .u64 (x2:Int)] 24 #[.int .u64 0,.int .u64 0] 24
 go_enter Tryz.func40,Tryz.ntmps40
 obtain⟨q1_0,q1_1⟩:=(LL.out.blk 0 rfl).c2;go_wp2_with fail;refine (HO.out _).mono ?_;rintro e wk ⟨o2,s2,g2,A2,n2,c2,B2,m2,d2,s52,g52,A52,n52,c52,B52,m52,d52,rfl,hs2,hb⟩;replace LL:=stL LL hb;clear hb q1_0 q1_1;clear hs2
 go_upto_region 4 with fail
 have hl_j7:=LL.out.lts;generalize hwn:World.alloc wk _=wn;replace LL:=Hd (LL.out.newE hwn)
 simp only [List.cons_append,List.nil_append] at LL
 simp only [List.mem_cons,List.not_mem_nil,or_false,forall_eq_or_imp,forall_eq,false_imp_iff,implies_true,and_true] at hl_j7
 clear hwn;generalize wk.heap.size=j7 at LL hl_j7 ⊢
 go_upto_region 5 with fail
 refine regL LL (fun hHeld=>?_);clear LL;generalize World.drew _=wk at hHeld  ⊢;refine tk 0 ?_ (hv:=by intro W2 hSw;obtain⟨q0,q1⟩:=(hSw.blk 0 rfl).c2;go_simp;(try with_reducible rfl));(try simp only [Act.put,lay]);refine rdy 1 (fun KK hKK=>?_);go_simp;refine (HI.out _).mono ?_;rintro e wk ⟨g1,A1,n1,c1,B1,m1,d1,rfl,hr1,hb1⟩;go_wp2_with fail;refine hKK.out _ _ (hHeld.keep hb1) (fun _=>?_);clear hKK KK hHeld;rename_i hHeld;(try simp only [Act.put,lay]);have HR1:=Hd hr1;clear hr1;clear hb1;refine rdy 2 (fun KK hKK=>?_);go_simp;refine (HH.out _ _ _ _ _ _ _ _ HR1.out).mono ?_;rintro e wk ⟨rfl,hb2⟩;go_wp2_with fail;refine hKK.out _ _ (hHeld.keep hb2) (fun _=>?_);clear hKK KK hHeld;rename_i hHeld;(try simp only [Act.put,lay]);(try replace HR1:=Hd (HR1.out.below hb2));clear hb2;refine wpAnyH_done (by kernel_rfl) ?_ _;have LL:=Hd hHeld;clear hHeld;clear HR1;obtain⟨q2_0,q2_1⟩:=(LL.out.blk 1 rfl).c2;go_wp2_with fail;refine (HE.out _).mono ?_;rintro e wk ⟨rfl,hb⟩;replace LL:=stL LL hb;clear hb q2_0 q2_1;replace LL:=Hd (LL.out.loose 2 rfl rfl)
 simp only [List.eraseIdx,List.size_toArray,List.length_cons,List.length_nil,Nat.zero_add,Nat.reduceAdd] at LL
 obtain⟨ha6_0,hf6_0,ha6_1,hf6_1⟩:=(LL.out.has 0 rfl).sf2;have LF:=Hd (LL.out.write [.int .u64 9218868437227405312,.int .u64 18442240474082181120] rfl (by omega) (by simp<;>omega) (by simp<;>omega));obtain⟨hk6_0,hk6_1⟩:=(LF.out.blk 3 rfl).c2
 simp [sets] at hk6_0 hk6_1
 clear LL;go_wp2;refine bodyPost_ret (v:=.agg #[.int .u64 9218868437227405312,.int .u64 18442240474082181120]) (by simp [results,Tryz.results40,go_sem,hk6_0,hk6_1]) rfl ?_
 exact⟨rfl,LF.out.b⟩
end
section
open Go.RowKit
set_option maxRecDepth 8000 in
theorem refpown_odd(n f1 f2 x1 x2:Nat)(i2 j2:Int)(F1:Int→Int→Int × Int)(L:Nat→Int→Int→Int × Int)(w:World)(hn:0<n)(hn2:n≤1024)(hp:n % 2=1)(hx:x1<18446744073709551616)(hy:x2<18446744073709551616)(hO1:∀ W,Calls Tryz.prog 83 #[.agg #[.int .u64 (f1:Int),.int .u64 (f2:Int)]] W (NewSetI W i2 j2))(hP:∀ W v,SetOf W v i2 j2→Calls Tryz.prog 80 #[v] W (NewPcR W n F1))(hL0:F1=L 0):
  Calls Tryz.prog 40 #[.int .i64 (n:Int),.agg #[.int .u64 (f1:Int),.int .u64 (f2:Int)],.agg #[.int .u64 (x1:Int),.int .u64 (x2:Int)]] w fun e w'=>e=.returned (.agg #[.int .u64 (pat (zg (rd x1 x2).1 (rd x1 x2).2 L 1).1:Int),.int .u64 (pat (zg (rd x1 x2).1 (rd x1 x2).2 L 1).2:Int)])∧Below w.heap.size w w':=by
 have q0:¬ (n:Int) < -1024:=by omega
 have q1:¬ (1024:Int)<(n:Int):=by omega
 have q2:¬ (n:Int)=0:=by omega
 have q3:(0:Int)<(n:Int):=by omega
 have q4:((n:Int).tmod 2)=1:=by rw [Int.tmod_eq_emod_of_nonneg (by omega)];omega
 clear hn hn2 hp;have HO1:=Hd hO1;have HP:=Hd hP;clear hO1 hP;have HL0:=Hd hL0;clear hL0;have HA:=Hd fun W A c h1 h2 h3=>all_pcs x1 x2 A 1 c L W hx hy (by omega) h1 h2 h3
 obtain⟨r1,hr1⟩:∃ p,pat (zg (rd x1 x2).1 (rd x1 x2).2 L 1).1=p:=⟨_,rfl⟩
 obtain⟨r2,hr2⟩:∃ p,pat (zg (rd x1 x2).1 (rd x1 x2).2 L 1).2=p:=⟨_,rfl⟩
 rw [hr1,hr2] at HA ⊢;clear hr1 hr2 hx hy;have LL:=li3 w #[.int .u64 (f1:Int),.int .u64 (f2:Int)] 24 #[.int .u64 (x1:Int),.int .u64 (x2:Int)] 24 #[.int .u64 0,.int .u64 0] 24
 go_enter Tryz.func40,Tryz.ntmps40
 obtain⟨q1_0,q1_1⟩:=(LL.out.blk 0 rfl).c2;go_wp2_with fail;refine (HO1.out _).mono ?_;rintro e wk ⟨o2,s2,g2,A2,n2,c2,B2,m2,d2,s52,g52,A52,n52,c52,B52,m52,d52,rfl,hs2,hb⟩;replace LL:=stL LL hb;clear hb q1_0 q1_1;have HS2:=Hd hs2;clear hs2
 go_upto_region 4 with fail
 have hl_j7:=LL.out.lts;generalize hwn:World.alloc wk _=wn;replace HS2:=Hd (HS2.out.below (below_allocE hwn));replace LL:=Hd (LL.out.newE hwn)
 simp only [List.cons_append,List.nil_append] at LL
 simp only [List.mem_cons,List.not_mem_nil,or_false,forall_eq_or_imp,forall_eq,false_imp_iff,implies_true,and_true] at hl_j7
 clear hwn;generalize wk.heap.size=j7 at LL hl_j7 ⊢;clear HO1
 go_upto_region 10 with fail
 replace LL:=Hd (LL.out.loose 2 rfl rfl)
 simp only [List.eraseIdx,List.size_toArray,List.length_cons,List.length_nil,Nat.zero_add,Nat.reduceAdd] at LL
 refine regL LL (fun hHeld=>?_);clear LL;replace HS2:=Hd (HS2.out.below (Below.refl _ _).drew);generalize World.drew _=wk at hHeld HS2 ⊢;refine tk 0 ?_ (hv:=by intro W2 hSw;obtain⟨q0,q1⟩:=(hSw.blk 1 rfl).c2;go_simp;(try with_reducible rfl));(try simp only [Act.put,lay]);refine tk 1 ?_ (hv:=by intro W2 hSw;obtain⟨q0,q1,q2,q3,q4,q5,q6,q7,q8⟩:=(hSw.blk 2 rfl).c9;go_simp;(try with_reducible rfl));(try simp only [Act.put,lay]);refine tk 3 ?_;(try simp only [Act.put,lay]);refine rdy 2 (fun KK hKK=>?_);go_simp;refine (HP.out _ _ HS2.out).mono ?_;rintro e wk ⟨o21,s21,g21,A21,n21,c21,B21,m21,d21,N21,p21,s71,g71,A71,n71,c71,B71,m71,d71,N71,p71,rfl,hp21,hb1⟩;go_wp2_with fail;refine hKK.out _ _ (hHeld.keep hb1) (fun _=>?_);clear hKK KK hHeld;rename_i hHeld;(try simp only [Act.put,lay]);(try replace HS2:=Hd (HS2.out.below hb1));(try replace HP22:=Hd (HP22.out.below hb1));have HP21:=Hd hp21;clear hp21;clear hb1;refine rdy 4 (fun KK hKK=>?_);go_simp;refine (HP21.out _ (Below.refl _ _)).mono ?_;rintro e wk ⟨o22,s22,g22,A22,n22,c22,B22,m22,d22,N22,p22,s72,g72,A72,n72,c72,B72,m72,d72,N72,p72,rfl,hp22,hb2⟩;go_wp2_with fail;refine hKK.out _ _ (hHeld.keep hb2) (fun _=>?_);clear hKK KK hHeld;rename_i hHeld;(try simp only [Act.put,lay]);(try replace HS2:=Hd (HS2.out.below hb2));(try replace HP21:=Hd (HP21.out.below hb2));have HP22:=Hd hp22;clear hp22;clear hb2;refine rdy 5 (fun KK hKK=>?_);go_simp;have hl_js:=hHeld.lts;refine hKK.out _ _ (hHeld.alloc _) (fun _=>?_)
 clear hKK KK hHeld;rename_i hHeld;(try simp only [Act.put,lay]);generalize hwn:World.alloc wk _=wn at hHeld ⊢;have B_js:=Blk.newE hwn;(try replace HS2:=Hd (HS2.out.below (below_allocE hwn)));(try replace HP21:=Hd (HP21.out.below (below_allocE hwn)));(try replace HP22:=Hd (HP22.out.below (below_allocE hwn)))
 simp only [List.mem_cons,List.not_mem_nil,or_false,forall_eq_or_imp,forall_eq,false_imp_iff,implies_true,and_true] at hl_js
 clear hwn;generalize wk.heap.size=js at B_js hl_js ⊢
 obtain⟨wk,rfl⟩:∃ X,X=wn:=⟨_,rfl⟩
 refine rdy 6 (fun KK hKK=>?_);go_simp;refine (HA.out _ _ _ (Nat.le_refl _) (fun h=>absurd h (by omega)) (fun k hk=>⟨_,rfl,by match k,hk with | 0,_=>exact HL0.out ▸ PcG.at B_js 0 (HP22.out.1) ⟨rfl,rfl,rfl,rfl,rfl,rfl,rfl,rfl,rfl,rfl,rfl,rfl,rfl⟩⟩)).mono ?_;rintro e wk ⟨rfl,hb3⟩;go_wp2_with fail;refine hKK.out _ _ (hHeld.keep hb3) (fun _=>?_);clear hKK KK hHeld;rename_i hHeld;(try simp only [Act.put,lay]);(try replace HS2:=Hd (HS2.out.below hb3));(try replace HP21:=Hd (HP21.out.below hb3));(try replace HP22:=Hd (HP22.out.below hb3));clear hb3;refine rdy 7 (fun KK hKK=>?_);obtain⟨ha0,hf0,ha1,hf1⟩:=(hHeld.has 0 rfl).sf2;obtain⟨csx,hbx,-,hcx⟩:=hHeld.has 0 rfl;(try clear HS2);(try clear HP21);(try clear HP22);clear hbx hcx;go_simp;have HS_0:=(hHeld.has 0 rfl).laid [.int .u64 (r1:Int),.int .u64 (r2:Int)] rfl;refine hKK.out _ _ (hHeld.over 0 rfl [.int .u64 (r1:Int),.int .u64 (r2:Int)] rfl rfl (by first | omega | exact hHeld.le_of 0 rfl) (by simp<;>omega) (by simp<;>omega)) (fun _=>?_);clear hKK KK hHeld;rename_i hHeld;(try simp only [Act.put,lay]);refine wpAnyH_done (by kernel_rfl) ?_ _;have LB:=Hd hHeld.b;clear hHeld;obtain⟨hk6_0,hk6_1⟩:=HS_0.c2;clear HS_0
 simp [sets] at hk6_0 hk6_1
 go_wp2;refine bodyPost_ret (v:=.agg #[.int .u64 (r1:Int),.int .u64 (r2:Int)]) (by simp [results,Tryz.results40,go_sem,hk6_0,hk6_1]) rfl ?_
 exact⟨rfl,LB.out⟩
end
section
open Go.RowKit
theorem pwr_odd{n:Nat}(hn:1≤n)(hn2:n≤1024)(hp:n % 2=1){i2 j2 i j:Int}(h2:Iv i2 j2)(hx:Iv i j):zg i j (L1 (FRt n i2 j2)) 1=pwr n i2 j2 i j:=by
 have hM:=M_val
 have e:zg i j (L1 (FRt n i2 j2)) 1=FRt n i2 j2 i j:=by
  show hl (M:Int) (-(M:Int)) (FRt n i2 j2 i j).1 (FRt n i2 j2 i j).2=_
  unfold hl;rw [if_pos (by omega)]
 rw [e];unfold pwr
 by_cases c:j2<i2
 ·rw [if_pos (.inl c)];unfold FRt;rw [if_pos c]
 ·by_cases d:j<i
  ·rw [if_pos (.inr (.inl d))];unfold FRt;rw [if_neg c];unfold pf;rw [if_pos d]
  ·rw [if_neg (by omega),if_neg (by omega),FRt_ct h2 c hx d,ctO_ct]
theorem refpown_any_odd(n f1 f2 x1 x2:Nat)(w:World)(hn:1≤n)(hn2:n≤1024)(hp:n % 2=1)(h1:f1<18446744073709551616)(h2:f2<18446744073709551616)(hx:x1<18446744073709551616)(hy:x2<18446744073709551616):
  Calls Tryz.prog 40 #[.int .i64 (n:Int),.agg #[.int .u64 (f1:Int),.int .u64 (f2:Int)],.agg #[.int .u64 (x1:Int),.int .u64 (x2:Int)]] w fun e w'=>e=.returned (.agg #[.int .u64 (pat (pwr n (rd f1 f2).1 (rd f1 f2).2 (rd x1 x2).1 (rd x1 x2).2).1:Int),.int .u64 (pat (pwr n (rd f1 f2).1 (rd f1 f2).2 (rd x1 x2).1 (rd x1 x2).2).2:Int)])∧Below w.heap.size w w':=by
 rw [← pwr_odd hn hn2 hp (rd_iv f1 f2) (rd_iv x1 x2)]
 exact refpown_odd n f1 f2 x1 x2 _ _ _ _ w (by omega) hn2 hp hx hy (fun W=>of_i f1 f2 W h1 h2) (fun W v h=>piece_root n hn hn2 v _ _ W h) rfl
end
end Go.Proofs.YthlmlmfebpjgdaaGreatDoor
