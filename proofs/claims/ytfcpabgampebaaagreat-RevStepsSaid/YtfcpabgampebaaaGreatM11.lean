/-
Plain: where the reals begin and end of which a step makes a whole number; an index made whole; what the reverse of a step answers.
Walks: the reference's steps: RNeg of whole numbers, floor, even, moved, first, last.
-/
import Derived.Test.YtfcpabgampebaaaGreatM10
import Derived.Test.YtfcpabgampebaaaGreatPMinusT
import Derived.Test.YtfcpabgampebaaaGreatM09
import Derived.Deep.DeepCutAuto
set_option linter.unusedSimpArgs false
set_option linter.unusedVariables false
set_option maxHeartbeats 12800000
namespace Go.Proofs.YtfcpabgampebaaaGreat
def bL:Nat→Int→Rat
 | 1,A=>A
 | 2,A=>A - 1
 | 3,A=>if 0<A then (A:Rat) else A - 1
 | _,A=>A - 1/2
def oL:Nat→Int→Bool
 | 1,_=>false
 | 2,_=>true
 | 3,A=>!decide (0<A)
 | 4,A=>decide (A % 2=1)
 | _,A=>decide (A≤0)
def bU:Nat→Int→Rat
 | 1,B=>B+1
 | 2,B=>B
 | 3,B=>if B<0 then (B:Rat) else B+1
 | _,B=>B+1/2
def oU:Nat→Int→Bool
 | 1,_=>true
 | 2,_=>false
 | 3,B=>!decide (B<0)
 | 4,B=>decide (B % 2=1)
 | _,B=>decide (0≤B)
theorem bL_succ{w:Nat}(hw:1≤w)(B:Int):bL w (B+1)=bU w B∧oL w (B+1)=!oU w B:=by
 have e:((B+1:Int):Rat)=(B:Rat)+1:=by rw [Rat.intCast_add];rfl
 match w,hw with
 | 1,_=>exact⟨e,rfl⟩
 | 2,_=>exact⟨by show ((B+1:Int):Rat) - 1=B;rw [e];grind,rfl⟩
 | 3,_=>
  refine⟨?_,?_⟩
  ·show (if 0<B+1 then ((B+1:Int):Rat) else ((B+1:Int):Rat) - 1)=if B<0 then (B:Rat) else (B:Rat)+1
   rw [e]
   by_cases h:B<0
   ·rw [if_neg (by omega),if_pos h];grind
   ·rw [if_pos (by omega),if_neg h]
  ·show (!decide (0<B+1))=!(!decide (B<0))
   by_cases h:B<0
   ·rw [decide_eq_true h,decide_eq_false (by omega)];rfl
   ·rw [decide_eq_false h,decide_eq_true (by omega)];rfl
 | 4,_=>
  refine⟨?_,?_⟩
  ·show ((B+1:Int):Rat) - 1/2=(B:Rat)+1/2
   rw [e];grind
  ·show decide ((B+1) % 2=1)=!decide (B % 2=1)
   by_cases h:B % 2=1
   ·rw [decide_eq_true h,decide_eq_false (by omega)];rfl
   ·rw [decide_eq_false h,decide_eq_true (by omega)];rfl
 | w+5,_=>
  refine⟨?_,?_⟩
  ·show ((B+1:Int):Rat) - 1/2=(B:Rat)+1/2
   rw [e];grind
  ·show decide (B+1≤0)=!decide (0≤B)
   by_cases h:0≤B
   ·rw [decide_eq_true h,decide_eq_false (by omega)];rfl
   ·rw [decide_eq_false h,decide_eq_true (by omega)];rfl
theorem floor_two(x:Rat):(x.floor:Rat)≤x∧x<(x.floor:Rat)+1:=by
 have h1:=Rat.floor_le x;have h2:=Rat.lt_floor_add_one x;rw [Rat.intCast_add] at h2
 exact⟨h1,h2⟩
theorem ceil_le_iff(x:Rat)(n:Int):x.ceil≤n↔x≤(n:Rat):=by
 rw [Rat.ceil_eq_neg_floor_neg];have h:-n≤(-x).floor↔((-n:Int):Rat)≤-x:=Rat.le_floor_iff;rw [Rat.intCast_neg] at h
 constructor
 ·intro k;have:=h.1 (by omega);grind
 ·intro k;have:=h.2 (by grind);omega
theorem lt_ceil_iff(x:Rat)(n:Int):n<x.ceil↔(n:Rat)<x:=by
 rw [← Int.not_le,ceil_le_iff];grind
theorem near_iff(x:Rat)(A:Int)(p:Prop)[Decidable p](q:Prop)(h:x=(A:Rat) - 1/2→(p↔q)):
  A≤x.floor+(if (1/2:Rat)<x - x.floor∨x - x.floor=1/2∧p then 1 else 0)↔((A:Rat) - 1/2<x∨x=(A:Rat) - 1/2∧q):=by
 obtain⟨h1,h2⟩:=floor_two x;generalize x.floor=n at *
 rcases Int.lt_trichotomy A (n+1) with c | c | c
 ·have e:(A:Rat)≤n:=Rat.intCast_le_intCast.2 (by omega);refine⟨fun _=>.inl (by grind),fun _=>?_⟩
  split<;>omega
 ·have e:(A:Rat)=(n:Rat)+1:=by rw [c,Rat.intCast_add];rfl
  constructor
  ·intro k
   split at k
   ·rename_i k'
    rcases k' with k' | ⟨k',hp⟩
    ·exact .inl (by grind)
    ·have hx:x=(A:Rat) - 1/2:=by grind
     exact .inr ⟨hx,(h hx).1 hp⟩
   ·omega
  ·rintro (k | ⟨k,hq⟩)
   ·rw [if_pos (.inl (by grind))];omega
   ·rw [if_pos (.inr ⟨by grind,(h k).2 hq⟩)];omega
 ·have e:(n:Rat)+2≤A:=by
   have:=Rat.intCast_le_intCast.2 (show n+2≤A by omega);rw [Rat.intCast_add] at this;exact this
  constructor
  ·intro k
   split at k<;>omega
  ·rintro (k | ⟨k,-⟩)
   ·exfalso;grind
   ·exfalso;grind
theorem le_rK{w:Nat}(hw:1≤w)(A:Int)(x:Rat):A≤rK w x↔(bL w A<x∨x=bL w A∧oL w A=false):=by
 have hf:A≤x.floor↔(A:Rat)≤x:=Rat.le_floor_iff
 have hc:A≤x.ceil↔(A:Rat) - 1<x:=by
  have:=lt_ceil_iff x (A - 1);rw [Rat.intCast_sub] at this
  constructor
  ·intro k;exact this.1 (by omega)
  ·intro k;have:=this.2 k;omega
 match w,hw with
 | 1,_=>
  show A≤x.floor↔((A:Rat)<x∨x=A∧false=false)
  rw [hf];grind
 | 2,_=>
  show A≤x.ceil↔((A:Rat) - 1<x∨x=A - 1∧true=false)
  rw [hc];grind
 | 3,_=>
  show A≤(if x<0 then x.ceil else x.floor)↔((if 0<A then (A:Rat) else A - 1)<x∨x=(if 0<A then (A:Rat) else A - 1)∧(!decide (0<A))=false)
  by_cases h:0<A
  ·have e:(1:Rat)≤A:=Rat.intCast_le_intCast.2 (show (1:Int)≤A by omega);rw [if_pos h,decide_eq_true h]
   by_cases hx:x<0
   ·rw [if_pos hx,hc];grind
   ·rw [if_neg hx,hf];grind
  ·have e:(A:Rat)≤0:=Rat.intCast_le_intCast.2 (show A≤(0:Int) by omega);rw [if_neg h,decide_eq_false h]
   by_cases hx:x<0
   ·rw [if_pos hx,hc];grind
   ·rw [if_neg hx,hf];grind
 | 4,_=>
  show A≤x.floor+(if (1/2:Rat)<x - x.floor∨x - x.floor=1/2∧x.floor % 2=1 then 1 else 0)↔((A:Rat) - 1/2<x∨x=(A:Rat) - 1/2∧decide (A % 2=1)=false)
  refine near_iff x A _ _ fun hx=>?_;obtain⟨h1,h2⟩:=floor_two x
  have e:x.floor=A - 1:=by
   have a1:((x.floor:Int):Rat)<((A:Int):Rat):=by grind
   have a2:((A - 2:Int):Rat)<((x.floor:Int):Rat):=by rw [Rat.intCast_sub];grind
   rw [Rat.intCast_lt_intCast] at a1 a2
   omega
  rw [e,decide_eq_false_iff_not]
  omega
 | w+5,_=>
  show A≤x.floor+(if (1/2:Rat)<x - x.floor∨x - x.floor=1/2∧0≤x then 1 else 0)↔((A:Rat) - 1/2<x∨x=(A:Rat) - 1/2∧decide (A≤0)=false)
  refine near_iff x A _ _ fun hx=>?_;rw [decide_eq_false_iff_not,hx]
  constructor
  ·intro k h;have e:(A:Rat)≤0:=Rat.intCast_le_intCast.2 (show A≤(0:Int) by omega)
   grind
  ·intro h;have e:(1:Rat)≤A:=Rat.intCast_le_intCast.2 (show (1:Int)≤A by omega)
   grind
theorem rK_le{w:Nat}(hw:1≤w)(B:Int)(x:Rat):rK w x≤B↔(x<bU w B∨x=bU w B∧oU w B=false):=by
 have h:=le_rK hw (B+1) x;rw [(bL_succ hw B).1,(bL_succ hw B).2] at h
 have e:rK w x≤B↔¬ (B+1≤rK w x):=by omega
 rw [e,h]
 cases oU w B
 ·constructor
  ·intro k;by_cases c:x<bU w B
   ·exact .inl c
   ·exact .inr ⟨by grind,rfl⟩
  ·rintro (k | ⟨k,-⟩) (k' | ⟨k',e'⟩)
   ·grind
   ·cases e'
   ·grind
   ·cases e'
 ·constructor
  ·intro k;by_cases c:x<bU w B
   ·exact .inl c
   ·exfalso;apply k
    by_cases c':x=bU w B
    ·exact .inr ⟨c',rfl⟩
    ·exact .inl (by grind)
  ·rintro (k | ⟨k,e'⟩) (k' | ⟨k',-⟩)
   ·grind
   ·grind
   ·cases e'
   ·cases e'
def wh(w:Nat)(i:Int):Int:=if -(M:Int)<i∧i<M then rndI 1 (rK w (fl i)) else i
theorem wh_fin{w:Nat}(hw:1≤w){i:Int}(h0:-(M:Int)<i)(h1:i<M):fl (wh w i)=(rK w (fl i):Rat)∧-(M:Int)<wh w i∧wh w i<M:=by
 obtain⟨j,hj,a,b⟩:=whole_fl hw h0 h1;unfold wh;rw [if_pos ⟨h0,h1⟩,← hj,rndI_fl (.inr rfl) a b]
 exact⟨rfl,a,b⟩
theorem wh_max(w:Nat):wh w M=M:=by unfold wh;rw [if_neg (by omega)]
theorem wh_min(w:Nat):wh w (-(M:Int))=-(M:Int):=by unfold wh;rw [if_neg (by omega)]
theorem wh_rng{w:Nat}(hw:1≤w){i:Int}(h:-(M:Int)≤i∧i≤M):-(M:Int)≤wh w i∧wh w i≤M∧(wh w i=M↔i=M)∧(wh w i=-(M:Int)↔i=-(M:Int)):=by
 have hM:=M_val
 by_cases h0:i=M
 ·rw [h0,wh_max];omega
 ·by_cases h1:i=-(M:Int)
  ·rw [h1,wh_min];omega
  ·have:=wh_fin hw (i:=i) (by omega) (by omega)
   omega
def stp(V F T:Int→Int)(c x:Int × Int):Int × Int:=
 if c.2<c.1∨x.2<x.1 then ((M:Int),-(M:Int))
 else if wh 1 c.2<wh 2 c.1∨wh 1 c.2<V x.1∨V x.2<wh 2 c.1 then ((M:Int),-(M:Int))
 else (max x.1 (F (wh 2 c.1)),min x.2 (T (wh 1 c.2)))
end Go.Proofs.YtfcpabgampebaaaGreat
namespace Go.Proofs.YtfcpabgampebaaaGreat
open Go.RowKit
theorem HasBlk.ratI{W:World}{r:Nat}{t:TypeId}{n0:Nat}{g:Bool}{A:Option Addr}{n c:Nat}{B:Option Addr}{d:Nat}{z:Int}(h:HasBlk W r t n0)(hr:RatI W g A n c B d z)(vs:List Value):RatI (Proofs.YtfcpabgampebaaaGreat.sets W r 0 vs) g A n c B d z:=by
 obtain⟨cs,h1,h2,h3⟩:=h
 exact⟨hr.1.sets h1 h3 0 vs,hr.2.1.sets h1 h3 0 vs,hr.2.2⟩
theorem RatI.sets{W:World}{g:Bool}{A:Option Addr}{n c:Nat}{B:Option Addr}{d:Nat}{z:Int}{r:Nat}{t:TypeId}{cs:Array Value}(h:RatI W g A n c B d z)(hb:Blk W r t cs)(hc:NoWd cs)(i:Nat)(vs:List Value):RatI (Proofs.YtfcpabgampebaaaGreat.sets W r i vs) g A n c B d z:=
 ⟨h.1.sets hb hc i vs,h.2.1.sets hb hc i vs,h.2.2⟩
theorem norm_i{A:Option Addr}{n c v:Nat}{W:World}(h:U32s W A n c (digs v))(hs:n≤34359738367):Calls Tryz.prog 49 #[.slice A n c] W fun e w'=>∃ A1 c1,e=.returned (.slice A1 n c1)∧U32s w' A1 n c1 (digs v)∧Below W.heap.size W w':=by
 refine (norm_v A n c _ W h hs (num_digs v)).mono ?_;rintro e w' ⟨A1,n1,c1,rfl,h1,-,-,hb⟩
 have:n1=n:=by have a:=h.len;have b:=h1.len;omega
 subst this
 exact⟨A1,c1,rfl,h1,hb⟩
set_option maxRecDepth 8000 in
theorem rnegi_false(A:Option Addr)(n c:Nat)(B:Option Addr)(d:Nat)(v:Nat)(r1:Bool)(w:World)(hN1:∀ W,Below w.heap.size w W→Calls Tryz.prog 49 #[.slice A n c] W fun e w'=>∃ A1 c1,e=.returned (.slice A1 n c1)∧U32s w' A1 n c1 (digs v)∧Below W.heap.size W w')(hN2:∀ W,Below w.heap.size w W→Calls Tryz.prog 49 #[.slice B 1 d] W fun e w'=>∃ A1 c1,e=.returned (.slice A1 1 c1)∧U32s w' A1 1 c1 (digs 1)∧Below W.heap.size W w')(hr:decide (0<n)=r1)(hn:n≤1073741824):
  Calls Tryz.prog 26 #[.agg #[.bool false,.slice A n c,.slice B 1 d]] w fun e w'=>∃ A5 c5 B5 d5,e=.returned (.agg #[.bool r1,.slice A5 n c5,.slice B5 1 d5])∧U32s w' A5 n c5 (digs v)∧U32s w' B5 1 d5 (digs 1)∧Below w.heap.size w w':=by
 have HN1:=Hd hN1;have HN2:=Hd hN2;have HR:=Hd hr;clear hN1 hN2 hr;have LL:=li2 w #[.bool false,.slice A n c,.slice B 1 d] 41 #[.bool false,.slice none 0 0,.slice none 0 0] 41;have hr1:=HR.out
 have hr2:decide ((0:Int)<(n:Int))=r1:=by rw [← hr1];simp
 go_enter Tryz.func26,Tryz.ntmps26
 go_wp2_with fail;replace LL:=Hd (LL.out.loose 1 rfl rfl)
 simp only [List.eraseIdx,List.size_toArray,List.length_cons,List.length_nil,Nat.zero_add,Nat.reduceAdd] at LL
 refine regL LL (fun hHeld=>?_);clear LL;generalize World.drew _=wk at hHeld  ⊢;refine tk 0 ?_;(try simp only [Act.put,lay]);refine tk 1 ?_ (hv:=by intro W2 hSw;obtain⟨q0,q1,q2⟩:=(hSw.blk 0 rfl).c3;go_simp;(try with_reducible rfl));(try simp only [Act.put,lay]);refine tk 2 ?_;(try simp only [Act.put,lay]);refine tk 3 ?_;(try simp only [Act.put,lay]);refine tk 4 ?_;(try simp only [Act.put,lay]);refine tk 5 ?_ (hv:=by intro W2 hSw;obtain⟨q0,q1,q2⟩:=(hSw.blk 0 rfl).c3;go_simp;(try with_reducible rfl));(try simp only [Act.put,lay]);refine tk 6 ?_;(try simp only [Act.put,lay]);refine tk 7 ?_;(try simp only [Act.put,lay]);refine tk 8 ?_;(try simp only [Act.put,lay]);refine tk 9 ?_;(try simp only [Act.put,lay]);refine tk 10 ?_ (hv:=by intro W2 hSw;obtain⟨q0,q1,q2⟩:=(hSw.blk 0 rfl).c3;go_simp;(try with_reducible rfl));(try simp only [Act.put,lay]);refine tk 12 ?_;(try simp only [Act.put,lay]);refine tk 13 ?_ (hv:=by intro W2 hSw;obtain⟨q0,q1,q2⟩:=(hSw.blk 0 rfl).c3;go_simp;(try with_reducible rfl));(try simp only [Act.put,lay]);refine rdy 11 (fun KK hKK=>?_);go_simp;refine (HN1.out _ hHeld.b).mono ?_;rintro e wk ⟨A5,c5,rfl,hu5,hb5⟩;go_wp2_with fail;refine hKK.out _ _ (hHeld.keep hb5) (fun _=>?_);clear hKK KK hHeld;rename_i hHeld;(try simp only [Act.put,lay]);(try replace HU6:=Hd (HU6.out.below hb5));have HU5:=Hd hu5;clear hu5;clear hb5;refine rdy 14 (fun KK hKK=>?_);go_simp;refine (HN2.out _ hHeld.b).mono ?_;rintro e wk ⟨B5,d5,rfl,hu6,hb6⟩;go_wp2_with fail;refine hKK.out _ _ (hHeld.keep hb6) (fun _=>?_)
 clear hKK KK hHeld;rename_i hHeld;(try simp only [Act.put,lay]);(try replace HU5:=Hd (HU5.out.below hb6));have HU6:=Hd hu6;clear hu6;clear hb6;refine tk 15 ?_;(try simp only [Act.put,lay]);refine rdy 16 (fun KK hKK=>?_);obtain⟨ha0,hf0,ha1,hf1,ha2,hf2⟩:=(hHeld.has 0 rfl).sf3;obtain⟨csx,hbx,-,hcx⟩:=hHeld.has 0 rfl;replace HU5:=Hd (HU5.out.sets hbx hcx 0 [.bool r1,.slice A5 n c5,.slice B5 1 d5]);replace HU6:=Hd (HU6.out.sets hbx hcx 0 [.bool r1,.slice A5 n c5,.slice B5 1 d5]);clear hbx hcx;go_simp;have HS_0:=(hHeld.has 0 rfl).laid [.bool r1,.slice A5 n c5,.slice B5 1 d5] rfl;refine hKK.out _ _ (hHeld.over 0 rfl [.bool r1,.slice A5 n c5,.slice B5 1 d5] rfl rfl (by first | omega | exact hHeld.le_of 0 rfl) (by simp<;>omega) (by simp<;>omega)) (fun _=>?_);clear hKK KK hHeld;rename_i hHeld;(try simp only [Act.put,lay]);refine wpAnyH_done (by kernel_rfl) ?_ _;have LB:=Hd hHeld.b;clear hHeld;obtain⟨hk2_0,hk2_1,hk2_2⟩:=HS_0.c3;clear HS_0
 simp [sets] at hk2_0 hk2_1 hk2_2
 go_wp2;refine bodyPost_ret (v:=.agg #[.bool r1,.slice A5 n c5,.slice B5 1 d5]) (by simp [results,Tryz.results26,go_sem,hk2_0,hk2_1,hk2_2]) rfl ?_
 exact⟨A5,c5,B5,d5,rfl,HU5.out,HU6.out,LB.out⟩
set_option maxRecDepth 8000 in
theorem rnegi_true(A:Option Addr)(n c:Nat)(B:Option Addr)(d:Nat)(v:Nat)(w:World)(hN1:∀ W,Below w.heap.size w W→Calls Tryz.prog 49 #[.slice A n c] W fun e w'=>∃ A1 c1,e=.returned (.slice A1 n c1)∧U32s w' A1 n c1 (digs v)∧Below W.heap.size W w')(hN2:∀ W,Below w.heap.size w W→Calls Tryz.prog 49 #[.slice B 1 d] W fun e w'=>∃ A1 c1,e=.returned (.slice A1 1 c1)∧U32s w' A1 1 c1 (digs 1)∧Below W.heap.size W w'):
  Calls Tryz.prog 26 #[.agg #[.bool true,.slice A n c,.slice B 1 d]] w fun e w'=>∃ A5 c5 B5 d5,e=.returned (.agg #[.bool false,.slice A5 n c5,.slice B5 1 d5])∧U32s w' A5 n c5 (digs v)∧U32s w' B5 1 d5 (digs 1)∧Below w.heap.size w w':=by
 have HN1:=Hd hN1;have HN2:=Hd hN2;clear hN1 hN2;have LL:=li2 w #[.bool true,.slice A n c,.slice B 1 d] 41 #[.bool false,.slice none 0 0,.slice none 0 0] 41
 go_enter Tryz.func26,Tryz.ntmps26
 go_wp2_with fail;replace LL:=Hd (LL.out.loose 1 rfl rfl)
 simp only [List.eraseIdx,List.size_toArray,List.length_cons,List.length_nil,Nat.zero_add,Nat.reduceAdd] at LL
 refine regL LL (fun hHeld=>?_);clear LL;generalize World.drew _=wk at hHeld  ⊢;refine tk 0 ?_;(try simp only [Act.put,lay]);refine tk 1 ?_ (hv:=by intro W2 hSw;obtain⟨q0,q1,q2⟩:=(hSw.blk 0 rfl).c3;go_simp;(try with_reducible rfl));(try simp only [Act.put,lay]);refine tk 2 ?_;(try simp only [Act.put,lay]);refine tk 3 ?_;(try simp only [Act.put,lay]);refine tkn 4 ?_;(try simp only [Act.put,lay]);refine tkn 5 ?_;(try simp only [Act.put,lay]);refine tkn 6 ?_;(try simp only [Act.put,lay]);refine tkn 7 ?_;(try simp only [Act.put,lay]);refine tk 8 ?_;(try simp only [Act.put,lay]);refine tk 9 ?_;(try simp only [Act.put,lay]);refine tk 10 ?_ (hv:=by intro W2 hSw;obtain⟨q0,q1,q2⟩:=(hSw.blk 0 rfl).c3;go_simp;(try with_reducible rfl));(try simp only [Act.put,lay]);refine tk 12 ?_;(try simp only [Act.put,lay]);refine tk 13 ?_ (hv:=by intro W2 hSw;obtain⟨q0,q1,q2⟩:=(hSw.blk 0 rfl).c3;go_simp;(try with_reducible rfl));(try simp only [Act.put,lay]);refine rdy 11 (fun KK hKK=>?_);go_simp;refine (HN1.out _ hHeld.b).mono ?_;rintro e wk ⟨A5,c5,rfl,hu5,hb5⟩;go_wp2_with fail;refine hKK.out _ _ (hHeld.keep hb5) (fun _=>?_);clear hKK KK hHeld;rename_i hHeld;(try simp only [Act.put,lay]);(try replace HU6:=Hd (HU6.out.below hb5));have HU5:=Hd hu5;clear hu5;clear hb5;refine rdy 14 (fun KK hKK=>?_);go_simp;refine (HN2.out _ hHeld.b).mono ?_;rintro e wk ⟨B5,d5,rfl,hu6,hb6⟩;go_wp2_with fail;refine hKK.out _ _ (hHeld.keep hb6) (fun _=>?_);clear hKK KK hHeld;rename_i hHeld;(try simp only [Act.put,lay])
 (try replace HU5:=Hd (HU5.out.below hb6));have HU6:=Hd hu6;clear hu6;clear hb6;refine tk 15 ?_;(try simp only [Act.put,lay]);refine rdy 16 (fun KK hKK=>?_);obtain⟨ha0,hf0,ha1,hf1,ha2,hf2⟩:=(hHeld.has 0 rfl).sf3;obtain⟨csx,hbx,-,hcx⟩:=hHeld.has 0 rfl;replace HU5:=Hd (HU5.out.sets hbx hcx 0 [.bool false,.slice A5 n c5,.slice B5 1 d5]);replace HU6:=Hd (HU6.out.sets hbx hcx 0 [.bool false,.slice A5 n c5,.slice B5 1 d5]);clear hbx hcx;go_simp;have HS_0:=(hHeld.has 0 rfl).laid [.bool false,.slice A5 n c5,.slice B5 1 d5] rfl;refine hKK.out _ _ (hHeld.over 0 rfl [.bool false,.slice A5 n c5,.slice B5 1 d5] rfl rfl (by first | omega | exact hHeld.le_of 0 rfl) (by simp<;>omega) (by simp<;>omega)) (fun _=>?_);clear hKK KK hHeld;rename_i hHeld;(try simp only [Act.put,lay]);refine wpAnyH_done (by kernel_rfl) ?_ _;have LB:=Hd hHeld.b;clear hHeld;obtain⟨hk2_0,hk2_1,hk2_2⟩:=HS_0.c3;clear HS_0
 simp [sets] at hk2_0 hk2_1 hk2_2
 go_wp2;refine bodyPost_ret (v:=.agg #[.bool false,.slice A5 n c5,.slice B5 1 d5]) (by simp [results,Tryz.results26,go_sem,hk2_0,hk2_1,hk2_2]) rfl ?_
 exact⟨A5,c5,B5,d5,rfl,HU5.out,HU6.out,LB.out⟩
theorem rnegi_any{g:Bool}{A:Option Addr}{n c:Nat}{B:Option Addr}{d:Nat}{z:Int}{w:World}(h:RatI w g A n c B d z)(hn:n≤1073741824):Calls Tryz.prog 26 #[.agg #[.bool g,.slice A n c,.slice B 1 d]] w (NewI w (-z)):=by
 obtain⟨h1,h2,h3⟩:=h;have hl:=digs_len0 h1.len;have N1:=fun W (hW:Below w.heap.size w W)=>norm_i (h1.below hW) (by omega);have N2:=fun W (hW:Below w.heap.size w W)=>norm_i (h2.below hW) (by omega)
 cases g
 ·have hz:¬ z<0:=of_decide_eq_false h3.symm;refine (rnegi_false A n c B d z.natAbs (decide (0<n)) w N1 N2 rfl hn).mono ?_;rintro e w' ⟨A5,c5,B5,d5,rfl,h5,h6,hb⟩
  exact⟨_,A5,n,c5,B5,d5,rfl,⟨by rw [Int.natAbs_neg];exact h5,h6,by rw [decide_eq_decide];omega⟩,hb⟩
 ·have hz:z<0:=of_decide_eq_true h3.symm;refine (rnegi_true A n c B d z.natAbs w N1 N2).mono ?_;rintro e w' ⟨A5,c5,B5,d5,rfl,h5,h6,hb⟩
  exact⟨_,A5,n,c5,B5,d5,rfl,⟨by rw [Int.natAbs_neg];exact h5,h6,(decide_eq_false (by omega)).symm⟩,hb⟩
set_option maxRecDepth 8000 in
theorem floor10_walk(g:Bool)(A:Option Addr)(n c:Nat)(B:Option Addr)(m d KZ:Nat)(Z:Int)(w:World)(hKZ:KZ≤31250)(hf:∀ W,Below w.heap.size w W→Calls Tryz.prog 50 #[.agg #[.bool g,.slice A n c,.slice B m d]] W fun e w'=>∃ A' n' c',e=.returned (.tuple #[.bool (decide (Z<0)),.slice A' n' c'])∧U32s w' A' n' c' (digs Z.natAbs)∧Below W.heap.size W w')(hz:Z.natAbs<2 ^ (32*KZ)):
  Calls Tryz.prog 27 #[.agg #[.bool g,.slice A n c,.slice B m d]] w (NewI w Z):=by
 have HFR:=Hd fun (A1:Option Addr) (n1 c1:Nat) (B1:Option Addr) (d1:Nat) W (h1:U32s W A1 n1 c1 (digs Z.natAbs)) (h2:U32s W B1 1 d1 (digs 1))=>(by
  have l:=h1.len;have l2:(digs Z.natAbs).length≤KZ:=digs_length_le (n:=Z.natAbs) (k:=KZ) hz;have h:=frac1_any (decide (Z<0)) A1 B1 n1 c1 1 d1 Z.natAbs _ _ W h1 h2 (by omega) (by omega) (num_digs _) (num_digs _)
  have e:(if decide (Z<0)=true then -((Z.natAbs:Nat):Int) else ((Z.natAbs:Nat):Int))=Z:=by
   by_cases k:Z<0
   ·rw [if_pos (decide_eq_true k)];omega
   ·rw [if_neg (by simpa using k)];omega
  rw [e] at h
  exact h:Calls Tryz.prog 51 #[.bool (decide (Z<0)),.slice A1 n1 c1,.slice B1 1 d1,.int .i64 0] W (NewI W Z))
 obtain⟨zn,hzn⟩:∃ b,decide (Z<0)=b:=⟨_,rfl⟩
 rw [hzn] at hf HFR;clear hz hzn;have HF:=Hd hf;clear hf;have LL:=li2 w #[.bool g,.slice A n c,.slice B m d] 41 #[.bool false,.slice none 0 0,.slice none 0 0] 41
 go_enter Tryz.func27,Tryz.ntmps27
 obtain⟨q1_0,q1_1,q1_2⟩:=(LL.out.blk 0 rfl).c3;go_wp2_with fail;refine (HF.out _ LL.out.b).mono ?_;rintro e w1 ⟨A1,n1,c1,rfl,hu1,hb1⟩;replace LL:=stL LL hb1;have U1:=Hd hu1;clear hb1 hu1 HF q1_0 q1_1 q1_2;have HD1:=Hd (show U32s (w1.alloc (.cells #[.int .u32 1] 72)) (some ⟨w1.heap.size,0,none⟩) 1 1 (digs 1) from by rw [digs_one];exact U32s.lit1 w1 72 (a:=1) (by omega));have HQ:=Hd (HFR.out A1 n1 c1 _ 1 (w1.alloc (.cells #[.int .u32 1] 72)) (U1.out.alloc _) HD1.out);replace LL:=Hd (LL.out.alloc (.cells #[.int .u32 1] 72));clear HD1 HFR U1;go_wp2_with fail;refine HQ.out.mono ?_;rintro e w2 ⟨g2,A2,n2,c2,B2,d2,rfl,hr,hb2⟩;replace LL:=stL LL hb2;have HR:=Hd hr;clear hr hb2 HQ;replace LL:=Hd (LL.out.loose 1 rfl rfl)
 simp only [List.eraseIdx,List.size_toArray,List.length_cons,List.length_nil,Nat.zero_add,Nat.reduceAdd] at LL
 obtain⟨ha2_0,hf2_0,ha2_1,hf2_1,ha2_2,hf2_2⟩:=(LL.out.has 0 rfl).sf3;have LF:=Hd (LL.out.write [.bool g2,.slice A2 n2 c2,.slice B2 1 d2] rfl (by omega) (by simp<;>omega) (by simp<;>omega));obtain⟨hk2_0,hk2_1,hk2_2⟩:=(LF.out.blk 1 rfl).c3
 simp [sets] at hk2_0 hk2_1 hk2_2
 have FR:=Hd ((LL.out.has 0 rfl).ratI HR.out [.bool g2,.slice A2 n2 c2,.slice B2 1 d2]);clear LL;go_wp2;refine bodyPost_ret (v:=.agg #[.bool g2,.slice A2 n2 c2,.slice B2 1 d2]) (by simp [results,Tryz.results27,go_sem,hk2_0,hk2_1,hk2_2]) rfl ?_
 exact⟨g2,A2,n2,c2,B2,d2,rfl,FR.out,LF.out.b⟩
theorem floor10_any(K:Nat)(g:Bool)(A:Option Addr)(n c:Nat)(B:Option Addr)(m d:Nat)(x:Rat)(w:World)(h:RatV w K g (.slice A n c) (.slice B m d) x)(hK:K≤31000):Calls Tryz.prog 27 #[.agg #[.bool g,.slice A n c,.slice B m d]] w (NewI w x.floor):=by
 obtain⟨p,q,A',n',c',B',m',d',e1,e2,u,v,hq,-,kp,kq,rfl⟩:=h
 cases e1;cases e2
 have l1:=u.len_le kp;have l2:=v.len_le kq;have hb:blen p≤32*K:=blen_le_iff.2 kp;have hdiv:p / q≤p:=Nat.div_le_self _ _;have hz:fz g p q=(rv g p q).floor:=fz_floor hq
 obtain⟨KZ,hKZ⟩:∃ k,k=31250:=⟨_,rfl⟩
 refine floor10_walk g A n c B m d KZ _ w (by omega) (fun W hW=>rfloor_walk g A n c B m d p q _ W (fun W2 h2=>?_) hz ?_) ?_
 ·have:=by_w A B n c m d _ _ W2 ((u.below hW).below h2) ((v.below hW).below h2) (by omega) (by omega) (by rw [num_digs];exact hq);rw [num_digs,num_digs] at this
  exact this
 ·have:=blen_mono hdiv;omega
 ·rw [← hz]
  have h1:(fz g p q).natAbs≤p+1:=by
   unfold fz
   split
   ·rw [Int.natAbs_neg,Int.natAbs_natCast];split<;>omega
   ·rw [Int.natAbs_natCast];omega
  have h2:2 ^ (32*K)+1≤2 ^ (32*K+1):=by rw [Nat.pow_succ];have:=Nat.two_pow_pos (32*K);omega
  have h3:2 ^ (32*K+1)≤2 ^ (32*KZ):=Nat.pow_le_pow_right (by omega) (by omega)
  omega
set_option maxRecDepth 8000 in
theorem evenr_walk(g:Bool)(A:Option Addr)(n c:Nat)(B:Option Addr)(d:Nat)(w:World)(hc:∀ W,Below w.heap.size w W→Calls Tryz.prog 53 #[.slice B 1 d,.slice (some ⟨W.heap.size,0,none⟩) 1 1] (W.alloc (.cells #[.int .u32 1] 72)) fun e w'=>e=.returned (.int .i64 0)∧Below (W.alloc (.cells #[.int .u32 1] 72)).heap.size (W.alloc (.cells #[.int .u32 1] 72)) w')(hb:∀ W,Below w.heap.size w W→Calls Tryz.prog 84 #[.slice A n c,.int .i64 0] W fun e w'=>e=.returned (.int .u32 0)∧Below W.heap.size W w'):
  Calls Tryz.prog 57 #[.agg #[.bool g,.slice A n c,.slice B 1 d]] w fun e w'=>e=.returned (.bool true)∧Below w.heap.size w w':=by
 have HC:=Hd hc;have HB:=Hd hb;clear hc hb;have LL:=li1 w #[.bool g,.slice A n c,.slice B 1 d] 41
 go_enter Tryz.func57,Tryz.ntmps57
 go_upto_region 1 with fail
 obtain⟨wa,hwa⟩:∃ X,(w.alloc (.cells #[.bool g,.slice A n c,.slice B 1 d] 41))=X:=⟨_,rfl⟩
 rw [hwa] at LL ⊢;clear hwa;obtain⟨q1_0,q1_1,q1_2⟩:=(LL.out.blk 0 rfl).c3;go_wp2_with fail;refine (HC.out _ LL.out.b).mono ?_;rintro e w1 ⟨rfl,hb1⟩;replace LL:=Hd (LL.out.alloc (.cells #[.int .u32 1] 72));replace LL:=stL LL hb1;clear hb1 HC q1_0 q1_1 q1_2;obtain⟨q2_0,q2_1,q2_2⟩:=(LL.out.blk 0 rfl).c3;go_wp2_with fail;refine (HB.out _ LL.out.b).mono ?_;rintro e w2 ⟨rfl,hb2⟩;replace LL:=stL LL hb2;clear hb2 HB q2_0 q2_1 q2_2;go_wp2
 go_ret
 exact⟨rfl,LL.out.b⟩
set_option maxRecDepth 8000 in
theorem oddr_walk(g:Bool)(A:Option Addr)(n c:Nat)(B:Option Addr)(d:Nat)(w:World)(hc:∀ W,Below w.heap.size w W→Calls Tryz.prog 53 #[.slice B 1 d,.slice (some ⟨W.heap.size,0,none⟩) 1 1] (W.alloc (.cells #[.int .u32 1] 72)) fun e w'=>e=.returned (.int .i64 0)∧Below (W.alloc (.cells #[.int .u32 1] 72)).heap.size (W.alloc (.cells #[.int .u32 1] 72)) w')(hb:∀ W,Below w.heap.size w W→Calls Tryz.prog 84 #[.slice A n c,.int .i64 0] W fun e w'=>e=.returned (.int .u32 1)∧Below W.heap.size W w'):
  Calls Tryz.prog 57 #[.agg #[.bool g,.slice A n c,.slice B 1 d]] w fun e w'=>e=.returned (.bool false)∧Below w.heap.size w w':=by
 have HC:=Hd hc;have HB:=Hd hb;clear hc hb;have LL:=li1 w #[.bool g,.slice A n c,.slice B 1 d] 41
 go_enter Tryz.func57,Tryz.ntmps57
 go_upto_region 1 with fail
 obtain⟨wa,hwa⟩:∃ X,(w.alloc (.cells #[.bool g,.slice A n c,.slice B 1 d] 41))=X:=⟨_,rfl⟩
 rw [hwa] at LL ⊢;clear hwa;obtain⟨q1_0,q1_1,q1_2⟩:=(LL.out.blk 0 rfl).c3;go_wp2_with fail;refine (HC.out _ LL.out.b).mono ?_;rintro e w1 ⟨rfl,hb1⟩;replace LL:=Hd (LL.out.alloc (.cells #[.int .u32 1] 72));replace LL:=stL LL hb1;clear hb1 HC q1_0 q1_1 q1_2;obtain⟨q2_0,q2_1,q2_2⟩:=(LL.out.blk 0 rfl).c3;go_wp2_with fail;refine (HB.out _ LL.out.b).mono ?_;rintro e w2 ⟨rfl,hb2⟩;replace LL:=stL LL hb2;clear hb2 HB q2_0 q2_1 q2_2;go_wp2
 go_ret
 exact⟨rfl,LL.out.b⟩
theorem even_any{g:Bool}{A:Option Addr}{n c:Nat}{B:Option Addr}{d:Nat}{z:Int}{w:World}(h:RatI w g A n c B d z):Calls Tryz.prog 57 #[.agg #[.bool g,.slice A n c,.slice B 1 d]] w fun e w'=>e=.returned (.bool (decide (z % 2=0)))∧Below w.heap.size w w':=by
 have hc:∀ W,Below w.heap.size w W→Calls Tryz.prog 53 #[.slice B 1 d,.slice (some ⟨W.heap.size,0,none⟩) 1 1] (W.alloc (.cells #[.int .u32 1] 72)) fun e w'=>e=.returned (.int .i64 0)∧Below (W.alloc (.cells #[.int .u32 1] 72)).heap.size (W.alloc (.cells #[.int .u32 1] 72)) w':=fun W hW=>by
  have hd:U32s (W.alloc (.cells #[.int .u32 1] 72)) (some ⟨W.heap.size,0,none⟩) 1 1 (digs 1):=by rw [digs_one];exact U32s.lit1 W 72 (a:=1) (by omega)
  refine (cmp_any B _ 1 d 1 1 _ _ _ ((h.2.1.below hW).alloc _) hd).mono ?_;rintro e w' ⟨he,k,rfl⟩;rw [num_digs] at he
  exact⟨by rw [he];rfl,below_drewN (Below.refl _ _) k⟩
 have hb:∀ W,Below w.heap.size w W→Calls Tryz.prog 84 #[.slice A n c,.int .i64 0] W fun e w'=>e=.returned (.int .u32 ((z.natAbs % 2:Nat):Int))∧Below W.heap.size W w':=fun W hW=>by
  refine (bit_any A n c 0 _ W (h.1.below hW) (by omega)).mono ?_;rintro e w' ⟨he,rfl⟩;rw [num_digs,Nat.pow_zero,Nat.div_one] at he
  exact⟨he,Below.refl _ _⟩
 rcases Nat.mod_two_eq_zero_or_one z.natAbs with k | k
 ·rw [k] at hb;rw [decide_eq_true (by omega)]
  exact evenr_walk g A n c B d w hc hb
 ·rw [k] at hb;rw [decide_eq_false (by omega)]
  exact oddr_walk g A n c B d w hc hb
set_option maxRecDepth 8000 in
theorem int_mone(w:World):Calls Tryz.prog 48 #[.int .i64 (-1)] w (NewI w (-1)):=by
 have HS:=Hd fun W=>small_any 1 W (by omega)
 have HFR:=Hd fun (A1:Option Addr) (n1 c1:Nat) (B1:Option Addr) (d1:Nat) W (h1:U32s W A1 n1 c1 (digs 1)) (h2:U32s W B1 1 d1 (digs 1))=>(by
  have l:=h1.len;have l2:(digs 1).length≤1:=digs_length_le (n:=1) (k:=1) (by decide)
  exact frac1_any true A1 B1 n1 c1 1 d1 1 _ _ W h1 h2 (by omega) (by omega) (num_digs _) (num_digs _):Calls Tryz.prog 51 #[.bool true,.slice A1 n1 c1,.slice B1 1 d1,.int .i64 0] W (NewI W (-1)))
 have LL:=li1 w #[.bool false,.slice none 0 0,.slice none 0 0] 41
 go_enter Tryz.func48,Tryz.ntmps48
 go_wp2_with fail;refine (HS.out _).mono ?_;rintro e w1 ⟨A1,n1,c1,rfl,hu1,hb1⟩;replace LL:=stL LL hb1;have U1:=Hd hu1;clear hb1 hu1 HS;have HD1:=Hd (show U32s (w1.alloc (.cells #[.int .u32 1] 72)) (some ⟨w1.heap.size,0,none⟩) 1 1 (digs 1) from by rw [digs_one];exact U32s.lit1 w1 72 (a:=1) (by omega));have HQ:=Hd (HFR.out A1 n1 c1 _ 1 (w1.alloc (.cells #[.int .u32 1] 72)) (U1.out.alloc _) HD1.out);replace LL:=Hd (LL.out.alloc (.cells #[.int .u32 1] 72));clear HD1 HFR U1;go_wp2_with fail;refine HQ.out.mono ?_;rintro e w2 ⟨g2,A2,n2,c2,B2,d2,rfl,hr,hb2⟩;replace LL:=stL LL hb2;have HR:=Hd hr;clear hr hb2 HQ;replace LL:=Hd (LL.out.loose 0 rfl rfl)
 simp only [List.eraseIdx,List.size_toArray,List.length_cons,List.length_nil,Nat.zero_add,Nat.reduceAdd] at LL
 obtain⟨ha2_0,hf2_0,ha2_1,hf2_1,ha2_2,hf2_2⟩:=(LL.out.has 0 rfl).sf3;have LF:=Hd (LL.out.write [.bool g2,.slice A2 n2 c2,.slice B2 1 d2] rfl (by omega) (by simp<;>omega) (by simp<;>omega));obtain⟨hk2_0,hk2_1,hk2_2⟩:=(LF.out.blk 0 rfl).c3
 simp [sets] at hk2_0 hk2_1 hk2_2
 have FR:=Hd ((LL.out.has 0 rfl).ratI HR.out [.bool g2,.slice A2 n2 c2,.slice B2 1 d2]);clear LL;go_wp2;refine bodyPost_ret (v:=.agg #[.bool g2,.slice A2 n2 c2,.slice B2 1 d2]) (by simp [results,Tryz.results48,go_sem,hk2_0,hk2_1,hk2_2]) rfl ?_
 exact⟨g2,A2,n2,c2,B2,d2,rfl,FR.out,LF.out.b⟩
theorem NewI.s{w w':World}{K:Nat}{z:Int}{e:Ending}(h:NewI w z e w')(hK:1≤K)(hz:z.natAbs<2 ^ (32*K)):NewRatS w K (z:Rat) e w':=by
 obtain⟨g,A,n,c,B,d,rfl,hr,hb⟩:=h
 exact⟨g,A,n,c,B,1,d,rfl,hr.rat hK hz,hb⟩
set_option maxRecDepth 8000 in
theorem finite_mone(w:World):Calls Tryz.prog 24 #[.int .i64 (-1)] w (NewEnd w 1 0 (-1)):=by
 have HS:=Hd fun W=>(int_mone W).mono fun _ _ h=>h.s (K:=1) (by omega) (by decide);have LL:=li1 w #[.int .i64 0,.bool false,.slice none 0 0,.slice none 0 0] 43
 go_enter Tryz.func24,Tryz.ntmps24
 go_wp2_with fail;refine (HS.out _).mono ?_;rintro e w1 ⟨g1,A1,n1,c1,B1,m1,d1,rfl,hr,hb1⟩;replace LL:=stL LL hb1;have HR:=Hd hr;clear hb1 hr HS;replace LL:=Hd (LL.out.loose 0 rfl rfl)
 simp only [List.eraseIdx,List.size_toArray,List.length_cons,List.length_nil,Nat.zero_add,Nat.reduceAdd] at LL
 obtain⟨ha2_0,hf2_0,ha2_1,hf2_1,ha2_2,hf2_2,ha2_3,hf2_3⟩:=(LL.out.has 0 rfl).sf4;have LF:=Hd (LL.out.write [.int .i64 0,.bool g1,.slice A1 n1 c1,.slice B1 m1 d1] rfl (by omega) (by simp<;>omega) (by simp<;>omega));obtain⟨hk2_0,hk2_1,hk2_2,hk2_3⟩:=(LF.out.blk 0 rfl).c4
 simp [sets] at hk2_0 hk2_1 hk2_2 hk2_3
 have FR:=Hd ((LL.out.has 0 rfl).rat HR.out [.int .i64 0,.bool g1,.slice A1 n1 c1,.slice B1 m1 d1]);clear LL;go_wp2;refine bodyPost_ret (v:=.agg #[.int .i64 0,.bool g1,.slice A1 n1 c1,.slice B1 m1 d1]) (by simp [results,Tryz.results24,go_sem,hk2_0,hk2_1,hk2_2,hk2_3]) rfl ?_
 exact⟨g1,A1,n1,c1,B1,m1,d1,rfl,FR.out,LF.out.b⟩
set_option maxRecDepth 8000 in
theorem moved_walk(g1:Bool)(A1:Option Addr)(n1 c1:Nat)(B1:Option Addr)(m1 d1:Nat)(a b:Int)(op:Bool)(K1 K2:Nat)(x1 x2 x3 x4:Rat)(w:World)(hi1:∀ W,Calls Tryz.prog 48 #[.int .i64 a] W (NewRatS W 1 x1))(hi2:∀ W,Calls Tryz.prog 48 #[.int .i64 b] W (NewRatS W 1 x2))
  (hq:∀ (g2:Bool) (A2:Option Addr) (n2 c2:Nat) (B2:Option Addr) (m2 d2:Nat) (g3:Bool) (A3:Option Addr) (n3 c3:Nat) (B3:Option Addr) (m3 d3:Nat) W,RatV W 1 g2 (.slice A2 n2 c2) (.slice B2 m2 d2) x1→RatV W 1 g3 (.slice A3 n3 c3) (.slice B3 m3 d3) x2→Calls Tryz.prog 83 #[.agg #[.bool g2,.slice A2 n2 c2,.slice B2 m2 d2],.agg #[.bool g3,.slice A3 n3 c3,.slice B3 m3 d3]] W (NewRatS W K1 x3))(hs:∀ (g2:Bool) (A2:Option Addr) (n2 c2:Nat) (B2:Option Addr) (m2 d2:Nat) W,Below w.heap.size w W→RatV W K1 g2 (.slice A2 n2 c2) (.slice B2 m2 d2) x3→Calls Tryz.prog 82 #[.agg #[.bool g1,.slice A1 n1 c1,.slice B1 m1 d1],.agg #[.bool g2,.slice A2 n2 c2,.slice B2 m2 d2]] W (NewRatS W K2 x4)):
  Calls Tryz.prog 56 #[.agg #[.bool g1,.slice A1 n1 c1,.slice B1 m1 d1],.int .i64 a,.int .i64 b,.bool op] w (NewBd w K2 0 x4 1 op):=by
 have HI1:=Hd hi1;have HI2:=Hd hi2;have HQ:=Hd hq;have HS:=Hd hs;clear hi1 hi2 hq hs;have LL:=li2 w #[.bool g1,.slice A1 n1 c1,.slice B1 m1 d1] 41 #[.int .i64 0,.bool false,.slice none 0 0,.slice none 0 0,.int .i64 0,.bool false] 51
 go_enter Tryz.func56,Tryz.ntmps56
 go_wp2_with fail;replace LL:=Hd (LL.out.loose 1 rfl rfl)
 simp only [List.eraseIdx,List.size_toArray,List.length_cons,List.length_nil,Nat.zero_add,Nat.reduceAdd] at LL
 refine regL LL (fun hHeld=>?_);clear LL;generalize World.drew _=wk at hHeld  ⊢;refine tk 0 ?_ (hv:=by intro W2 hSw;obtain⟨q0,q1,q2⟩:=(hSw.blk 0 rfl).c3;go_simp;(try with_reducible rfl));(try simp only [Act.put,lay]);refine tk 1 ?_;(try simp only [Act.put,lay]);refine tk 3 ?_;(try simp only [Act.put,lay]);refine tk 7 ?_;(try simp only [Act.put,lay]);refine rdy 2 (fun KK hKK=>?_);go_simp;refine (HI1.out _).mono ?_;rintro e wk ⟨g11,A11,n11,c11,B11,m11,d11,rfl,hr11,hb1⟩;go_wp2_with fail;refine hKK.out _ _ (hHeld.keep hb1) (fun _=>?_);clear hKK KK hHeld;rename_i hHeld;(try simp only [Act.put,lay]);(try replace HR12:=Hd (HR12.out.below hb1));(try replace HR13:=Hd (HR13.out.below hb1));(try replace HR14:=Hd (HR14.out.below hb1));have HR11:=Hd hr11;clear hr11;clear hb1;refine rdy 4 (fun KK hKK=>?_);go_simp;refine (HI2.out _).mono ?_;rintro e wk ⟨g12,A12,n12,c12,B12,m12,d12,rfl,hr12,hb2⟩;go_wp2_with fail;refine hKK.out _ _ (hHeld.keep hb2) (fun _=>?_);clear hKK KK hHeld;rename_i hHeld;(try simp only [Act.put,lay]);(try replace HR11:=Hd (HR11.out.below hb2));(try replace HR13:=Hd (HR13.out.below hb2));(try replace HR14:=Hd (HR14.out.below hb2));have HR12:=Hd hr12;clear hr12;clear hb2;refine rdy 5 (fun KK hKK=>?_);go_simp;refine (HQ.out _ _ _ _ _ _ _ _ _ _ _ _ _ _ _ HR11.out HR12.out).mono ?_;rintro e wk ⟨g13,A13,n13,c13,B13,m13,d13,rfl,hr13,hb3⟩;go_wp2_with fail;refine hKK.out _ _ (hHeld.keep hb3) (fun _=>?_);clear hKK KK hHeld;rename_i hHeld;(try simp only [Act.put,lay])
 (try replace HR11:=Hd (HR11.out.below hb3));(try replace HR12:=Hd (HR12.out.below hb3));(try replace HR14:=Hd (HR14.out.below hb3));have HR13:=Hd hr13;clear hr13;clear hb3;refine rdy 6 (fun KK hKK=>?_);go_simp;refine (HS.out _ _ _ _ _ _ _ _ hHeld.b HR13.out).mono ?_;rintro e wk ⟨g14,A14,n14,c14,B14,m14,d14,rfl,hr14,hb4⟩;go_wp2_with fail;refine hKK.out _ _ (hHeld.keep hb4) (fun _=>?_);clear hKK KK hHeld;rename_i hHeld;(try simp only [Act.put,lay]);(try replace HR11:=Hd (HR11.out.below hb4));(try replace HR12:=Hd (HR12.out.below hb4));(try replace HR13:=Hd (HR13.out.below hb4));have HR14:=Hd hr14;clear hr14;clear hb4;refine tk 8 ?_;(try simp only [Act.put,lay]);refine rdy 9 (fun KK hKK=>?_);obtain⟨ha0,hf0,ha1,hf1,ha2,hf2,ha3,hf3,ha4,hf4,ha5,hf5⟩:=(hHeld.has 0 rfl).sf6;obtain⟨csx,hbx,-,hcx⟩:=hHeld.has 0 rfl;replace HR11:=Hd (HR11.out.sets hbx hcx 0 [.int .i64 0,.bool g14,.slice A14 n14 c14,.slice B14 m14 d14,.int .i64 1,.bool op]);replace HR12:=Hd (HR12.out.sets hbx hcx 0 [.int .i64 0,.bool g14,.slice A14 n14 c14,.slice B14 m14 d14,.int .i64 1,.bool op]);replace HR13:=Hd (HR13.out.sets hbx hcx 0 [.int .i64 0,.bool g14,.slice A14 n14 c14,.slice B14 m14 d14,.int .i64 1,.bool op]);replace HR14:=Hd (HR14.out.sets hbx hcx 0 [.int .i64 0,.bool g14,.slice A14 n14 c14,.slice B14 m14 d14,.int .i64 1,.bool op]);clear hbx hcx;go_simp;have HS_0:=(hHeld.has 0 rfl).laid [.int .i64 0,.bool g14,.slice A14 n14 c14,.slice B14 m14 d14,.int .i64 1,.bool op] rfl
 refine hKK.out _ _ (hHeld.over 0 rfl [.int .i64 0,.bool g14,.slice A14 n14 c14,.slice B14 m14 d14,.int .i64 1,.bool op] rfl rfl (by first | omega | exact hHeld.le_of 0 rfl) (by simp<;>omega) (by simp<;>omega)) (fun _=>?_);clear hKK KK hHeld;rename_i hHeld;(try simp only [Act.put,lay]);refine wpAnyH_done (by kernel_rfl) ?_ _;have LB:=Hd hHeld.b;clear hHeld;obtain⟨hk8_0,hk8_1,hk8_2,hk8_3,hk8_4,hk8_5⟩:=HS_0.c6;clear HS_0
 simp [sets] at hk8_0 hk8_1 hk8_2 hk8_3 hk8_4 hk8_5
 go_wp2;refine bodyPost_ret (v:=.agg #[.int .i64 0,.bool g14,.slice A14 n14 c14,.slice B14 m14 d14,.int .i64 1,.bool op]) (by simp [results,Tryz.results56,go_sem,hk8_0,hk8_1,hk8_2,hk8_3,hk8_4,hk8_5]) rfl ?_
 exact⟨g14,A14,n14,c14,B14,m14,d14,rfl,HR14.out,LB.out⟩
end Go.Proofs.YtfcpabgampebaaaGreat
