/-
Plain: a sum of floats of which one is infinite; the quick road's answer.
-/
import Derived.Test.YthlmlmfebpjgdaaGreatDoorM07
import Derived.Test.YthlmlmfebpjgdaaGreatDoorPGoA
import Derived.Test.YthlmlmfebpjgdaaGreatDoorM12
set_option linter.unusedSimpArgs false
set_option linter.unusedVariables false
set_option maxHeartbeats 12800000
namespace Go.Proofs.YthlmlmfebpjgdaaGreatDoor
open Go.RowKit Ieee
theorem inf_word{x:Nat}(hx:x<18446744073709551616)(h:rungOf x=M):double.write (.infinity (sgn x))=x:=by
 show double.word (sgn x) double.infRung=x
 rw [infRung_eq];have h1:=Is.word (sgn x) (r:=M) (Nat.le_refl _);have h2:=pat_cases (b:=double.word (sgn x) M) (by have:=h1.lt;omega);have h3:=pat_cases hx;have h4:=h1.idx
 obtain⟨b,hb⟩:∃ b,double.word (sgn x) M=b:=⟨_,rfl⟩
 rw [hb] at h2 h4 ⊢;rw [M_val] at h h4
 rcases h3 with ⟨a,b1,c,d⟩ | ⟨a,b1,c,d⟩
 ·rw [c] at h4
  simp only [Bool.false_eq_true,if_false] at h4
  omega
 ·rw [c] at h4
  simp only [if_true] at h4
  omega
theorem inf_pat{x:Nat}(hx:x<18446744073709551616)(h:rungOf x=M):pat (idx x)=x:=by
 have h3:=pat_cases hx;rw [M_val] at *
 rcases h3 with ⟨a,b1,c,d⟩ | ⟨a,b1,c,d⟩
 ·rw [pat_nn (by omega)];omega
 ·rw [pat_neg (by omega)];omega
theorem add_inf_left{x y:Nat}(hx:x<18446744073709551616)(h:rungOf x=M)(hy:rungOf y≤M)(hno:rungOf y=M→sgn x=sgn y):double.add x y=some (pat (idx x)):=by
 rw [inf_pat hx h];unfold Format.add;rw [read_inf h]
 by_cases h2:rungOf y=M
 ·rw [read_inf h2]
  simp only [Datum.sum]
  rw [if_pos (hno h2)]
  simp only [Option.map_some]
  rw [inf_word hx h]
 ·obtain⟨m,k,e,-,-⟩:=read_fin (show fin y from by unfold fin;omega);rw [e]
  simp only [Datum.sum,Option.map_some]
  rw [inf_word hx h]
theorem add_inf_right{x y:Nat}(hy:y<18446744073709551616)(h:rungOf y=M)(hx:rungOf x<M):double.add x y=some (pat (idx y)):=by
 rw [inf_pat hy h];unfold Format.add;obtain⟨m,k,e,-,-⟩:=read_fin (show fin x from hx);rw [read_inf h,e]
 simp only [Datum.sum,Option.map_some]
 rw [inf_word hy h]
def ad(d i j:Int):Int:=if i=M∨i=-(M:Int) then i else if j=M∨j=-(M:Int) then j else rndI d (fl i+fl j)
theorem nud_sum{d:Int}(hd:d=-1∨d=1){s e:Nat}{n:Int}{j k:Int}(hs:Fl s (R n))(he:Fl e (n - R n))(hn:val j+val k=n):nud d (idx s) (idx e)=rndI d (fl j+fl k):=by
 rw [fl_add,hn];have h0:=idx_natAbs s;have hf:rungOf s<M:=hs.fin
 have e1:idx e<0↔n<R n:=by
  have h:=@val_lt_iff (idx e) 0;rw [val_zero,he.val] at h
  omega
 have e2:0<idx e↔R n<n:=by
  have h:=@val_lt_iff 0 (idx e);rw [val_zero,he.val] at h
  omega
 rcases hd with rfl | rfl
 ·rw [near_down hs.val (by omega) (by omega)];unfold nud
  by_cases h:n<R n
  ·rw [if_pos h,if_pos ⟨rfl,e1.2 h⟩]
  ·rw [if_neg h,if_neg (fun h'=>h (e1.1 h'.2)),if_neg (by omega)]
 ·rw [near_up hs.val (by omega) (by omega)];unfold nud
  by_cases h:R n<n
  ·rw [if_pos h,if_neg (by omega),if_pos ⟨rfl,e2.2 h⟩]
  ·rw [if_neg h,if_neg (by omega),if_neg (fun h'=>h (e2.1 h'.2))]
theorem not_great{x t T:Nat}(h:rungOf x≤(t+1)*2^52)(hT:T=52+t):(val (idx x)).natAbs≤2^T:=by
 rw [val_natAbs,idx_natAbs];have h1:mag (rungOf x)≤mag ((t+1)*2^52):=mag_le_iff.2 h;rw [mag_two_pow,← Nat.pow_add] at h1;rw [hT];exact h1
theorem Fl_self{x:Nat}(hx:x<18446744073709551616)(h:rungOf x<M):Fl x (val (idx x)):=⟨hx,h,rfl⟩
theorem great_ord{r:Nat}(h:r≤M):(r≤8660422083433463808∧(FloatKind.f64.format.order r 8660422083433463808=some .lt∨FloatKind.f64.format.order r 8660422083433463808=some .eq))∨(8660422083433463808<r∧FloatKind.f64.format.order r 8660422083433463808=some .gt):=by
 have hM:M=9218868437227405312:=rfl;have g1:rungOf 8660422083433463808=8660422083433463808∧idx 8660422083433463808=((8660422083433463808:Nat):Int):=rung_idx (by decide);have r1:=rung_idx (b:=r) (by omega)
 rcases Nat.lt_trichotomy r 8660422083433463808 with h1 | h1 | h1
 ·exact .inl ⟨by omega,.inl (ord_lt (by omega) (by omega) (by omega))⟩
 ·exact .inl ⟨by omega,.inr (ord_eq (by omega) (by omega) (by omega))⟩
 ·exact .inr ⟨h1,ord_gt (by omega) (by omega) (by omega)⟩
end Go.Proofs.YthlmlmfebpjgdaaGreatDoor
