/-
Lemmas for the statement: Div2T DvP DvtT DvvT FplT IraT.
-/
import Derived.Test.YthlmlmfebpjgdaaGreatDoorPPairT
import Derived.Deep.DeepCutAuto
import Derived.Test.YthlmlmfebpjgdaaGreatDoorPLessT
import Derived.Test.YthlmlmfebpjgdaaGreatDoorM28
import Derived.Test.YthlmlmfebpjgdaaGreatDoorM03
import Derived.Test.YthlmlmfebpjgdaaGreatDoorPGoA
import Derived.Test.YthlmlmfebpjgdaaGreatDoorM10
import Derived.Test.YthlmlmfebpjgdaaGreatDoorPIntsT
set_option linter.unusedSimpArgs false
set_option linter.unusedVariables false
set_option maxHeartbeats 12800000
namespace Go.Proofs.YthlmlmfebpjgdaaGreatDoor
section
open Go.RowKit
attribute [local go_sem] run_store_float
end
section
open Go.RowKit
def dvA(i1 j2:Int):Int × Rat × Bool:=if 0<i1∧j2<M then (0,fl i1 / fl j2,false) else (0,0,true)
def dvB(j1 i2:Int):Int × Rat × Bool:=if j1<M∧0<i2 then (0,fl j1 / fl i2,false) else (1,0,true)
end
section
open Go.RowKit
theorem up10:up 1 0=M:=by
 have hM:(M:Int)=9218868437227405312:=rfl;unfold up;rw [if_neg (by omega)];omega
theorem dn10:dn 1 0=M:=by
 have hM:(M:Int)=9218868437227405312:=rfl;unfold dn;rw [if_neg (by omega)];omega
def K1:Int:=4607182418800017408
theorem pat_K1:pat K1=4607182418800017408:=by decide
end
section
open Go.RowKit
theorem upper_cases{v:Value}{i j:Int}{w:World}(h:SetOf w v i j):∃ o s g A n c B m d t g' A' n' c' B' m' d',v=.agg #[.bool o,.int .i64 s,.bool g,.slice A n c,.slice B m d,.int .i64 t,.bool g',.slice A' n' c',.slice B' m' d'] ∧
  ((j≤0∧∀ W,Below w.heap.size w W→Calls Tryz.prog 176 #[.agg #[.bool o,.int .i64 s,.bool g,.slice A n c,.slice B m d,.int .i64 t,.bool g',.slice A' n' c',.slice B' m' d']] W (NewSet W 34 true 0 0 0 0)) ∨
   (Ne i j∧0<j∧∀ W,Below w.heap.size w W→Calls Tryz.prog 176 #[.agg #[.bool o,.int .i64 s,.bool g,.slice A n c,.slice B m d,.int .i64 t,.bool g',.slice A' n' c',.slice B' m' d']] W (NewSet W 34 false (es (max i 0)) (ex (max i 0)) (es j) (ex j)))):=by
 have hM:(M:Int)=9218868437227405312:=rfl
 rcases h with ⟨rfl,rfl,s,x,t,y,g,A,n,c,B,m,d,g',A',n',c',B',m',d',rfl,h4,h5⟩ | ⟨h1,g,A,n,c,B,m,d,g',A',n',c',B',m',d',rfl,h4,h5⟩
 ·exact⟨_,_,_,_,_,_,_,_,_,_,_,_,_,_,_,_,_,rfl,.inl ⟨by omega,fun W hW=>(upper_none 34 true s g A n c B m d x t g' A' n' c' B' m' d' y W (h5.below hW) (by omega) (.inl rfl)).mono fun _ _ h=>h.up2 (by omega)⟩⟩
 ·have hx:=esx_idx (i:=j) (by omega);have hu:=up_end (b:=i) (by omega);refine⟨_,_,_,_,_,_,_,_,_,_,_,_,_,_,_,_,_,rfl,?_⟩
  by_cases h0:j≤0
  ·exact .inl ⟨h0,fun W hW=>(upper_none 34 false (es i) g A n c B m d (ex i) (es j) g' A' n' c' B' m' d' (ex j) W (h5.below hW) (by omega) (.inr (by omega))).mono fun _ _ h=>h.up2 (by omega)⟩
  ·refine .inr ⟨h1,by omega,fun W hW=>?_⟩;have h:=upper_some 34 (es i) g A n c B m d (ex i) (es j) g' A' n' c' B' m' d' (ex j) W (h4.below hW) (h5.below hW) (by omega) (by omega) (by omega);rw [hu.1,hu.2] at h
   exact h
theorem divisors_v(u v:Value)(i1 j1 i2 j2:Int)(w:World)(hu:SetOf w u i1 j1)(hv:SetOf w v i2 j2):
  ((j1≤0∨j2≤0)∧Calls Tryz.prog 110 #[u,v] w (NewPiece w 1 true 0 0 1 false 0 0 1 false)) ∨
  (0<j1∧0<j2∧Ne i1 j1∧Ne i2 j2∧Calls Tryz.prog 110 #[u,v] w (NewPiece w 68 false (dvA i1 j2).1 (dvA i1 j2).2.1 1 (dvA i1 j2).2.2 (dvB j1 i2).1 (dvB j1 i2).2.1 1 (dvB j1 i2).2.2)):=by
 have hM:(M:Int)=9218868437227405312:=rfl;obtain⟨o1,z1,g1,A1,n1,c1,B1,m1,d1,z2,g2,A2,n2,c2,B2,m2,d2,rfl,U1⟩:=upper_cases hu;obtain⟨o2,z3,g3,A3,n3,c3,B3,m3,d3,z4,g4,A4,n4,c4,B4,m4,d4,rfl,U2⟩:=upper_cases hv
 rcases U1 with ⟨k1,U1⟩ | ⟨n1',k1,U1⟩
 ·rcases U2 with ⟨k2,U2⟩ | ⟨n2',k2,U2⟩
  ·exact .inl ⟨.inl k1,divisors_none 34 _ _ _ _ _ _ _ _ _ _ _ _ _ _ _ _ _ _ _ _ _ _ _ _ _ _ _ _ _ _ _ _ _ _ _ _ _ _ _ _ _ _ _ _ w U1 U2 (.inl rfl)⟩
  ·exact .inl ⟨.inl k1,divisors_none 34 _ _ _ _ _ _ _ _ _ _ _ _ _ _ _ _ _ _ _ _ _ _ _ _ _ _ _ _ _ _ _ _ _ _ _ _ _ _ _ _ _ _ _ _ w U1 U2 (.inl rfl)⟩
 ·rcases U2 with ⟨k2,U2⟩ | ⟨n2',k2,U2⟩
  ·exact .inl ⟨.inr k2,divisors_none 34 _ _ _ _ _ _ _ _ _ _ _ _ _ _ _ _ _ _ _ _ _ _ _ _ _ _ _ _ _ _ _ _ _ _ _ _ _ _ _ _ _ _ _ _ w U1 U2 (.inr ⟨rfl,rfl⟩)⟩
  ·have e1:=esx_idx (i:=max i1 0) (by unfold Ne at n1';omega);have e2:=esx_idx (i:=max i2 0) (by unfold Ne at n2';omega);have e3:=esx_idx (i:=j1) (by unfold Ne at n1';omega);have e4:=esx_idx (i:=j2) (by unfold Ne at n2';omega);refine .inr ⟨k1,k2,n1',n2',?_⟩;unfold Ne at n1' n2'
   have eA:0<i1→es j2=0→rt (es (max i1 0)) (ex (max i1 0)) (es j2) (ex j2)=dvA i1 j2:=fun p q=>by
    have q':=es_zero q;rw [show max i1 0=i1 from by omega] at e1 ⊢;unfold rt dvA
    rw [if_neg (by omega),if_neg (by omega),if_neg (by
     rintro (h | h)
     ·exact h (es_mid (by omega) (by omega))
     ·rw [ex_zero q] at h;have:=fl_pos k2;grind),if_pos (by omega),ex_mid (by omega) (by omega),ex_zero q]
   have eB:0<i2→es j1=0→rt (es j1) (ex j1) (es (max i2 0)) (ex (max i2 0))=dvB j1 i2:=fun p q=>by
    have q':=es_zero q;rw [show max i2 0=i2 from by omega] at e2 ⊢;unfold rt dvB
    rw [if_neg (by omega),if_neg (show ¬ es i2≠0 from fun h=>h (es_mid (by omega) (by omega))),if_neg (by
     rintro (h | h)
     ·exact h q
     ·rw [ex_mid (by omega) (by omega)] at h;have:=fl_pos p;grind),if_pos (by omega),ex_mid (i:=i2) (by omega) (by omega),ex_zero q]
   refine divisors_some 34 _ _ _ _ _ _ _ _ _ _ _ _ _ _ _ _ _ _ _ _ _ _ _ _ _ _ _ _ _ _ _ _ _ _ _ _ _ _ _ _ _ _ _ _ (decide (0<i1∧j2<M)) (decide (j1<M∧0<i2)) (dvA i1 j2).1 (dvB j1 i2).1 (dvA i1 j2).2.1 (dvB j1 i2).2.1 (dvA i1 j2).2.2 (dvB j1 i2).2.2 w (by omega) U1 U2 (fun W g A n c B m d h=>sign6_any 34 _ g A n c B m d _ W h (by omega)) (fun W g A n c B m d h=>sign6_any 34 _ g A n c B m d _ W h (by omega)) ?_ ?_ ?_ ?_ ?_ ?_
   ·by_cases p:0<i1
    ·refine .inr ⟨decide_eq_true (by omega),?_⟩
     by_cases q:j2<M
     ·exact .inl ⟨es_mid (by omega) q,decide_eq_true ⟨p,q⟩⟩
     ·exact .inr ⟨by rw [show j2=M by omega];rfl,decide_eq_false (by omega)⟩
    ·exact .inl ⟨decide_eq_false (by omega),decide_eq_false (by omega)⟩
   ·by_cases q:j1<M
    ·refine .inr ⟨es_mid (by omega) q,?_⟩
     by_cases p:0<i2
     ·exact .inl ⟨decide_eq_true (by omega),decide_eq_true ⟨q,p⟩⟩
     ·exact .inr ⟨decide_eq_false (by omega),decide_eq_false (by omega)⟩
    ·exact .inl ⟨by rw [show j1=M by omega];rfl,decide_eq_false (by omega)⟩
   ·intro h W g A n c B m d g' A' n' c' B' m' d' h1 h2;have pq:=of_decide_eq_true h;have r:=ratio_gen 34 (es (max i1 0)) g A n c B m d _ (es j2) g' A' n' c' B' m' d' _ W h1 h2 (by omega) (by omega);rw [eA pq.1 (es_mid (by omega) pq.2)] at r
    exact r
   ·intro h;have pq:=of_decide_eq_false h;have d:dvA i1 j2=(0,0,true):=if_neg pq;rw [d];exact⟨rfl,rfl,rfl⟩
   ·intro h W g A n c B m d g' A' n' c' B' m' d' h1 h2;have pq:=of_decide_eq_true h;have r:=ratio_gen 34 (es j1) g A n c B m d _ (es (max i2 0)) g' A' n' c' B' m' d' _ W h1 h2 (by omega) (by omega);rw [eB pq.2 (es_mid (by omega) pq.1)] at r
    exact r
   ·intro h;have pq:=of_decide_eq_false h;have d:dvB j1 i2=(1,0,true):=if_neg pq;rw [d];exact⟨rfl,rfl,rfl⟩
theorem fl_K1:fl K1=1:=by
 have hi:idx 4607182418800017408=K1:=by
  have h:=idx_pat (i:=K1) (by unfold K1;have hM:(M:Int)=9218868437227405312:=rfl;omega) (by unfold K1;have hM:(M:Int)=9218868437227405312:=rfl;omega);rw [pat_K1] at h;exact h
 have h:=(fl_parts (b:=4607182418800017408) (e:=1023) (f:=0) (neg:=false) (by unfold fin;decide) (by decide) (by decide) (by decide)).2.2.1 (by omega);rw [hi] at h
 have e:rv false (0+4503599627370496) 1=((2^52:Nat):Rat):=by
  have e1:rv false (0+4503599627370496) 1=((0+4503599627370496:Nat):Rat):=by unfold rv;simp [Rat.div_def];grind
  rw [e1]
 rw [h,e,← zpow_nat,← zpow_add,show ((52:Nat):Int)+(((1023:Nat):Int) - 1 - 1074)=0 from by omega]
 rfl
theorem one6_any(w:World):Calls Tryz.prog 111 #[] w (NewSetI w K1 K1):=by
 have hM:(M:Int)=9218868437227405312:=rfl;refine (one_walk w).mono ?_;rintro e w' ⟨g,A,n,c,B,m,d,g',A',n',c',B',m',d',rfl,h1,h2,hb⟩;have e1:es K1=0:=es_mid (by unfold K1;omega) (by unfold K1;omega);refine⟨_,_,g,A,n,c,B,m,d,_,g',A',n',c',B',m',d',rfl,.inr ⟨by unfold K1;omega,g,A,n,c,B,m,d,g',A',n',c',B',m',d',?_,?_,?_⟩,hb⟩
 ·rw [e1]
 ·rw [ex_zero e1,fl_K1];exact h1.mono (by omega)
 ·rw [ex_zero e1,fl_K1];exact h2.mono (by omega)
end
section
open Go.RowKit
attribute [local go_sem] run_store_float
theorem fplainf(b:Nat)(w:World)(hb:b<18446744073709551616)(hr:rungOf b≤M):Calls Tryz.prog 191 #[.float .f64 b] w fun e w'=>e=.returned (.float .f64 (pat (idx b)))∧w=w':=by
 have ho:FloatKind.f64.format.order b 0=some (compare (idx b) (idx 0)):=order_real hr (by show rungOf 0≤M;decide);rw [show idx 0=0 from by decide] at ho;have hp:=pl_real hb hr
 by_cases h:idx b=0
 ·have hq:(FloatKind.f64.format.order b 0 == some Ordering.eq)=true:=by rw [ho,h];rfl
  rw [h,pat_zero];clear ho hp h hr
  go_enter Tryz.func191,Tryz.ntmps191
  go_wp2
  go_ret
  exact⟨rfl,rfl⟩
 ·have hq:(FloatKind.f64.format.order b 0 == some Ordering.eq)=false:=by
   rw [ho]
   rcases Int.lt_trichotomy (idx b) 0 with h1 | h1 | h1
   ·rw [show compare (idx b) 0=.lt from Int.compare_eq_lt.2 h1];rfl
   ·exact absurd h1 h
   ·rw [show compare (idx b) 0=.gt from Int.compare_eq_gt.2 h1];rfl
  have e:pat (idx b)=b:=by
   rw [← hp];unfold pl;have:=pat_cases hb;rw [if_neg (by omega),if_neg (by omega)]
  rw [e];clear ho hp h hr e
  go_enter Tryz.func191,Tryz.ntmps191
  go_wp2
  go_ret
  exact⟨rfl,rfl⟩
end
section
open Go.RowKit
attribute [local go_sem] run_store_float run_eqf
end
end Go.Proofs.YthlmlmfebpjgdaaGreatDoor
