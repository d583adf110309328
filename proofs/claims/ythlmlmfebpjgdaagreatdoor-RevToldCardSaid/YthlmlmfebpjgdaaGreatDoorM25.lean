/-
Lemmas for the statement: WholeP.
-/
import Derived.Test.YthlmlmfebpjgdaaGreatDoorPAbT
import Derived.Test.YthlmlmfebpjgdaaGreatDoorM16
import Derived.Test.YthlmlmfebpjgdaaGreatDoorM11
set_option linter.unusedSimpArgs false
set_option linter.unusedVariables false
set_option maxHeartbeats 12800000
namespace Go.Proofs.YthlmlmfebpjgdaaGreatDoor
section
open Go.RowKit
theorem U32s.uniq{w:World}{A:Option Addr}{n c c':Nat}{xs ys:List Nat}(h:U32s w A n c xs)(h':U32s w A n c' ys):xs=ys:=by
 apply List.ext_getElem?
 intro j
 by_cases hj:j<n
 ·obtain⟨ad,e,-,hc⟩:=h.at_ (by omega);obtain⟨ad',e',-,hc'⟩:=h'.at_ (by omega);rw [e] at e';cases e';have h3:=(hc j hj).symm.trans (hc' j hj)
  have l1:j<xs.length:=by rw [h.len];exact hj
  have l2:j<ys.length:=by rw [h'.len];exact hj
  rw [List.getElem?_eq_getElem l1,List.getElem?_eq_getElem l2] at h3 ⊢
  simp only [Option.getD_some,Option.some.injEq,Value.int.injEq,true_and] at h3
  rw [show xs[j]=ys[j] from by omega]
 ·rw [List.getElem?_eq_none (by rw [h.len];omega),List.getElem?_eq_none (by rw [h'.len];omega)]
open Classical in
noncomputable def xval(w:World)(v:Value):Nat:=if h:∃ x A n c,v=.slice A n c/\U32s w A n c (digs x) then h.choose else 0
theorem xval_eq{w:World}{A:Option Addr}{n c x:Nat}(h:U32s w A n c (digs x)):xval w (.slice A n c)=x:=by
 unfold xval
 have k:∃ y A' n' c',(.slice A n c:Value)=.slice A' n' c'/\U32s w A' n' c' (digs y):=⟨x,A,n,c,rfl,h⟩
 rw [dif_pos k];obtain⟨A',n',c',e,h'⟩:=k.choose_spec
 cases e
 have e2:=congrArg num (h.uniq h');rw [num_digs,num_digs] at e2
 exact e2.symm
section
variable {A B:Option Addr} {n c m d x y:Nat} {w:World}
theorem wl{x:Nat}(h:blen x<=500000):wlen (digs x)<=15625:=wlen_digs_le (by omega)
theorem pow_d(N:Nat)(hx:U32s w A n c (digs x))(h1:blen x<=500000)(hN:N<=4096)(hb:blen x*N<=500000):
  Calls Tryz.prog 251 #[.slice A n c,.int .i64 (N:Int)] w (NewU32E w (digs (x ^ N))):=by
 have h:=npow_any A n c N _ w hx (by have:=wl h1;omega) hN (by rw [num_digs];exact hb)
 rwa [num_digs] at h
theorem quo_d(hx:U32s w A n c (digs x))(hy:U32s w B m d (digs y))(h1:blen x<=500000)(h2:blen y<=500000)(h0:0<y):
  Calls Tryz.prog 240 #[.slice A n c,.slice B m d] w (NewQR w (x / y) (x % y)):=by
 have h:=nquo_any A B n c m d _ _ w hx hy (by have:=wl h1;omega) (by have:=wl h2;omega) (by rw [num_digs];exact h0)
 rwa [num_digs,num_digs] at h
theorem mul_d(hx:U32s w A n c (digs x))(hy:U32s w B m d (digs y))(h1:blen x<=250000)(h2:blen y<=250000):
  Calls Tryz.prog 229 #[.slice A n c,.slice B m d] w (NewU32E w (digs (x*y))):=by
 have w1:=wlen_digs_le (S:=x) (K:=7813) (by omega);have w2:=wlen_digs_le (S:=y) (K:=7813) (by omega);have h:=nmul_any A B n c m d _ _ w hx hy (by omega) (by rw [num_digs,num_digs];omega)
 rwa [num_digs,num_digs] at h
theorem add_d(hx:U32s w A n c (digs x))(hy:U32s w B m d (digs y))(h1:blen x<=500000)(h2:blen y<=500000):
  Calls Tryz.prog 159 #[.slice A n c,.slice B m d] w (NewU32E w (digs (x+y))):=by
 have h:=nadd_any A B n c m d _ _ w hx hy (by have:=wl h1;omega) (by have:=wl h2;omega)
 rwa [num_digs,num_digs] at h
theorem shl_d(k:Nat)(hx:U32s w A n c (digs x))(h1:blen x+k<=500000):
  Calls Tryz.prog 202 #[.slice A n c,.int .i64 (k:Int)] w (NewU32E w (digs (x*2 ^ k))):=by
 have h:=nshl_any A n c k _ w hx (by have:=wl (x:=x) (by omega);omega) (by rw [num_digs];omega)
 rwa [num_digs] at h
theorem shr_d(k:Nat)(hx:U32s w A n c (digs x))(h1:blen x<=500000)(hk:k<=500000):
  Calls Tryz.prog 254 #[.slice A n c,.int .i64 (k:Int)] w fun e w'=>
   ∃ A2 n2 c2,e=.returned (.tuple #[.slice A2 n2 c2,.bool (decide (x % 2^k≠0)),.int .i64 0])/\U32s w' A2 n2 c2 (digs (x / 2^k))/\Below w.heap.size w w':=by
 have h:=nshr_any A n c k _ w hx (by have:=wl h1;omega) (by omega)
 rwa [num_digs] at h
theorem len_d(hx:U32s w A n c (digs x)):Calls Tryz.prog 232 #[.slice A n c] w fun e w'=>e=.returned (.int .i64 (blen x:Int))/\w=w':=by
 have h:=nlen_any A n c _ w hx
 rwa [num_digs] at h
theorem cmp_d(hx:U32s w A n c (digs x))(hy:U32s w B m d (digs y)):Calls Tryz.prog 142 #[.slice A n c,.slice B m d] w (QuietRet w (.int .i64 (cmp3 x y))):=by
 have h:=ncmp_any A B n c m d _ _ w hx hy
 rwa [num_digs,num_digs] at h
end
theorem blen_pow(x N:Nat):blen (x ^ N)<=blen x*N+1:=by
 have h:x<2 ^ blen x:=blen_le_iff.1 (Nat.le_refl _);refine blen_le_iff.2 (Nat.lt_of_le_of_lt (Nat.pow_le_pow_left (Nat.le_of_lt h) N) ?_);rw [<- Nat.pow_mul]
 exact Nat.pow_lt_pow_right (by omega) (by omega)
theorem blen_mul(x y:Nat):blen (x*y)<=blen x+blen y:=by
 have h:x<2 ^ blen x:=blen_le_iff.1 (Nat.le_refl _);have h2:y<2 ^ blen y:=blen_le_iff.1 (Nat.le_refl _);refine blen_le_iff.2 ?_;rw [Nat.pow_add]
 exact Nat.mul_lt_mul'' h h2
theorem blen_add(x y k:Nat)(h1:blen x<=k)(h2:blen y<=k):blen (x+y)<=k+1:=by
 have h:=blen_le_iff.1 h1;have h3:=blen_le_iff.1 h2
 exact blen_le_iff.2 (by rw [Nat.pow_succ];omega)
end
end Go.Proofs.YthlmlmfebpjgdaaGreatDoor
