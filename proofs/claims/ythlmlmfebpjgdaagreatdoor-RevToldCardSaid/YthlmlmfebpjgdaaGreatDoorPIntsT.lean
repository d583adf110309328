/-
Lemmas for the statement: IntsT Kp ReadN ReadT Fl2T IosT IoT RCmp Rnd RndB MadeT NegTrue RCmpT EndT ECmpT.
-/
import Derived.Test.YthlmlmfebpjgdaaGreatDoorM02
import Derived.Test.YthlmlmfebpjgdaaGreatDoorPBothT
import Derived.Deep.DeepCutAuto
import Derived.Deep.RegionHeld3
import Derived.Test.YthlmlmfebpjgdaaGreatDoorPGoA
import Derived.Test.YthlmlmfebpjgdaaGreatDoorM01
set_option linter.unusedSimpArgs false
set_option linter.unusedVariables false
set_option maxHeartbeats 12800000
namespace Go.Proofs.YthlmlmfebpjgdaaGreatDoor
section
open Go.RowKit
attribute [local go_sem] run_store_float run_eqf
theorem run_maxf{i j:Int}(h1:-(M:Int)<=i/\i<=M)(h2:-(M:Int)<=j/\j<=M)(W:World)(ts:Array TypeId)(t:TypeId):(Builtin.max_ ts t #[.float .f64 (pat i),.float .f64 (pat j)]).run Tryz.prog W=.ok (.float .f64 (pat (max i j))) W:=by
 have ho:=order_pat h1.1 h1.2 h2.1 h2.2
 have e:(Builtin.max_ ts t #[.float .f64 (pat i),.float .f64 (pat j)])=Builtin.max2 (.float .f64 (pat i)) (.float .f64 (pat j)):=by simp [Builtin.max_]
 rw [e];unfold Builtin.max2
 dsimp only
 rw [ho]
 rcases Int.lt_trichotomy i j with h | h | h
 ·rw [show compare i j=.lt from Int.compare_eq_lt.2 h,show max i j=j from by omega];rfl
 ·subst h;rw [show compare i i=.eq from Int.compare_eq_eq.2 rfl,show max i i=i from by omega]
  simp
 ·rw [show compare i j=.gt from Int.compare_eq_gt.2 h,show max i j=i from by omega];rfl
theorem run_minf{i j:Int}(h1:-(M:Int)<=i/\i<=M)(h2:-(M:Int)<=j/\j<=M)(W:World)(ts:Array TypeId)(t:TypeId):(Builtin.min_ ts t #[.float .f64 (pat i),.float .f64 (pat j)]).run Tryz.prog W=.ok (.float .f64 (pat (min i j))) W:=by
 have ho:=order_pat h1.1 h1.2 h2.1 h2.2
 have e:(Builtin.min_ ts t #[.float .f64 (pat i),.float .f64 (pat j)])=Builtin.min2 (.float .f64 (pat i)) (.float .f64 (pat j)):=by simp [Builtin.min_]
 rw [e];unfold Builtin.min2
 dsimp only
 rw [ho]
 rcases Int.lt_trichotomy i j with h | h | h
 ·rw [show compare i j=.lt from Int.compare_eq_lt.2 h,show min i j=i from by omega];rfl
 ·subst h;rw [show compare i i=.eq from Int.compare_eq_eq.2 rfl,show min i i=i from by omega]
  simp
 ·rw [show compare i j=.gt from Int.compare_eq_gt.2 h,show min i j=j from by omega];rfl
theorem em_idx{i j:Int}(h:Iv i j):Em (decide (j<i)) (pat i) (pat j):=by
 have hM:M=9218868437227405312:=rfl;have o1:=order_pat h.lo.1 h.lo.2 (show -(M:Int)<=(M:Int) by omega) (Int.le_refl _);have o2:=order_pat h.hi.1 h.hi.2 (Int.le_refl _) (show -(M:Int)<=(M:Int) by omega);rw [pat_max] at o1;rw [pat_min] at o2;unfold Iv at h;refine⟨fun e=>?_,fun e=>?_⟩
 ·have e:=of_decide_eq_true e;rw [o1,o2]
  exact⟨by rw [show compare i (M:Int)=.eq from Int.compare_eq_eq.2 (by omega)],by rw [show compare j (-(M:Int))=.eq from Int.compare_eq_eq.2 (by omega)]⟩
 ·have e:=of_decide_eq_false e;rw [o1,show compare i (M:Int)=.lt from Int.compare_eq_lt.2 (by omega)]
def it(i j i' j':Int):Int × Int:=if j<i\/j'<i'\/min j j'<max i i' then ((M:Int),-(M:Int)) else (max i i',min j j')
theorem it_iv{i j i' j':Int}(h:Iv i j)(h':Iv i' j'):Iv (it i j i' j').1 (it i j i' j').2:=by
 unfold it
 split
 ·exact Iv.none
 ·unfold Iv at *;rw [M_val] at *
  dsimp only
  omega
end
section
open Go.RowKit
def Bx(w:World)(g p q:Nat):Prop:=Blk w g 28 #[.float .f64 p,.float .f64 q]
theorem Bx.keep{w w':World}{g p q:Nat}(h:Bx w g p q)(hb:Below w.heap.size w w'):Bx w' g p q:=Blk.keep h hb
theorem Bx.set{w:World}{g p q:Nat}(h:Bx w g p q)(a b:Nat):Bx ((w.setCell ⟨g,0,none⟩ (.float .f64 a)).setCell ⟨g,1,none⟩ (.float .f64 b)) g a b:=by
 have h1:=Blk.sets [.float .f64 a,.float .f64 b] 0 _ _ h;unfold Bx
 simpa [laid,sets] using h1
theorem Bx.far{w:World}{g p q r:Nat}(h:Bx w g p q)(hr:g≠r)(a b:Value):Bx ((w.setCell ⟨r,0,none⟩ a).setCell ⟨r,1,none⟩ b) g p q:=Blk.other h hr 0 [a,b]
structure Kp (g0 g1 g2:Nat) (w w':World):Prop where
 os:w'.os=w.os
 tape:w'.tape=w.tape
 output:w'.output=w.output
 size:w.heap.size<=w'.heap.size
 block:∀ k,k<w.heap.size->k≠g0->k≠g1->k≠g2->w'.heap[k]?=w.heap[k]?
theorem Kp.refl(g0 g1 g2:Nat)(w:World):Kp g0 g1 g2 w w:=⟨rfl,rfl,rfl,Nat.le_refl _,fun _ _ _ _ _=>rfl⟩
theorem Kp.below{g0 g1 g2:Nat}{w w1 w2:World}(h:Kp g0 g1 g2 w w1)(hb:Below w1.heap.size w1 w2):Kp g0 g1 g2 w w2:=
 ⟨hb.os.trans h.os,hb.tape.trans h.tape,hb.output.trans h.output,Nat.le_trans h.size hb.size,fun k hk a b c=>(hb.block k (Nat.lt_of_lt_of_le hk h.size)).trans (h.block k hk a b c)⟩
theorem Kp.set{g0 g1 g2 r:Nat}{w w1:World}(h:Kp g0 g1 g2 w w1)(hr:r=g0\/r=g1\/r=g2)(a b:Value):Kp g0 g1 g2 w ((w1.setCell ⟨r,0,none⟩ a).setCell ⟨r,1,none⟩ b):=
 ⟨h.os,h.tape,h.output,by have:=size_sets (r:=r) [a,b] 0 w1;have:=h.size;show w.heap.size<=(sets w1 r 0 [a,b]).heap.size;omega,
  fun k hk x y z=>(heap_sets (r:=r) (k:=k) (by rintro rfl;rcases hr with e | e | e<;>contradiction) [a,b] 0 w1).trans (h.block k hk x y z)⟩
theorem Kp.cell{g0 g1 g2:Nat}{w w1:World}(h:Kp g0 g1 g2 w w1){ad:Addr}{v:Value}(hc:w.cell? ad=some v)(h0:ad.block≠g0)(h1:ad.block≠g1)(h2:ad.block≠g2):w1.cell? ad=some v:=by
 have hlt:ad.block<w.heap.size:=by
  unfold World.cell? at hc
  split at hc
  ·rename_i e
   exact (Array.getElem?_eq_some_iff.1 e).1
  ·cases hc
 rw [World.cell?_of_block (w:=w)]
 ·exact hc
 ·exact h.block _ hlt h0 h1 h2
theorem Kp.toBl{g0 g1 g2 B:Nat}{w0 w w':World}(h:Kp g0 g1 g2 w w')(hb:Below B w0 w)(hB:B<=w.heap.size)(h0:B<=g0)(h1:B<=g1)(h2:B<=g2):Below B w0 w':=
 ⟨h.os.trans hb.os,h.tape.trans hb.tape,h.output.trans hb.output,Nat.le_trans hb.size h.size,fun k hk=>(h.block k (by omega) (by omega) (by omega) (by omega)).trans (hb.block k hk)⟩
theorem Kp.hasBk{g0 g1 g2 r n:Nat}{t:TypeId}{w w':World}(h:Kp g0 g1 g2 w w')(hr:HasBlk w r t n)(h0:r≠g0)(h1:r≠g1)(h2:r≠g2):HasBlk w' r t n:=by
 obtain⟨cs,a,b⟩:=hr
 exact⟨cs,(h.block r a.lt h0 h1 h2).trans a,b⟩
theorem Iv.negg{i j:Int}(h:Iv i j):Iv (-j) (-i):=by
 unfold Iv at *;rw [M_val] at *
 omega
end
section
open Go.RowKit
attribute [local go_sem] run_store_float run_eqf
def anyB(f:Nat->Bool):Nat->Bool
 | 0=>false
 | n+1=>anyB f n || f n
structure KeepN (G n:Nat) (w w':World):Prop where
 os:w'.os=w.os
 tape:w'.tape=w.tape
 output:w'.output=w.output
 size:w.heap.size<=w'.heap.size
 block:∀ k,k<w.heap.size->(k<G\/G+n<=k)->w'.heap[k]?=w.heap[k]?
theorem KeepN.refl(G n:Nat)(w:World):KeepN G n w w:=⟨rfl,rfl,rfl,Nat.le_refl _,fun _ _ _=>rfl⟩
theorem KeepN.below{G n:Nat}{w w1 w2:World}(h:KeepN G n w w1)(hb:Below w1.heap.size w1 w2):KeepN G n w w2:=
 ⟨hb.os.trans h.os,hb.tape.trans h.tape,hb.output.trans h.output,Nat.le_trans h.size hb.size,fun k hk a=>(hb.block k (Nat.lt_of_lt_of_le hk h.size)).trans (h.block k hk a)⟩
theorem KeepN.drew{G n:Nat}{w w1:World}(h:KeepN G n w w1):KeepN G n w w1.drew:=⟨h.os,h.tape,h.output,h.size,h.block⟩
theorem KeepN.set{G n t:Nat}{w w1:World}(h:KeepN G n w w1)(ht:t<n)(a b:Value):KeepN G n w ((w1.setCell ⟨G+t,0,none⟩ a).setCell ⟨G+t,1,none⟩ b):=
 ⟨h.os,h.tape,h.output,by have:=size_sets (r:=G+t) [a,b] 0 w1;have:=h.size;show w.heap.size<=(sets w1 (G+t) 0 [a,b]).heap.size;omega,
  fun k hk x=>(heap_sets (r:=G+t) (k:=k) (by omega) [a,b] 0 w1).trans (h.block k hk x)⟩
theorem KeepN.cell{G n:Nat}{w w1:World}(h:KeepN G n w w1){ad:Addr}{v:Value}(hc:w.cell? ad=some v)(h0:ad.block<G\/G+n<=ad.block):w1.cell? ad=some v:=by
 have hlt:ad.block<w.heap.size:=by
  unfold World.cell? at hc
  split at hc
  ·rename_i e
   exact (Array.getElem?_eq_some_iff.1 e).1
  ·cases hc
 rw [World.cell?_of_block (w:=w)]
 ·exact hc
 ·exact h.block _ hlt h0
theorem KeepN.toBl{G n B:Nat}{w0 w w':World}(h:KeepN G n w w')(hb:Below B w0 w)(hB:B<=w.heap.size)(h0:B<=G):Below B w0 w':=
 ⟨h.os.trans hb.os,h.tape.trans hb.tape,h.output.trans hb.output,Nat.le_trans hb.size h.size,fun k hk=>(h.block k (by omega) (by omega)).trans (hb.block k hk)⟩
theorem KeepN.hasBk{G n r m:Nat}{t:TypeId}{w w':World}(h:KeepN G n w w')(hr:HasBlk w r t m)(h0:r<G\/G+n<=r):HasBlk w' r t m:=by
 obtain⟨cs,a,b⟩:=hr
 exact⟨cs,(h.block r a.lt h0).trans a,b⟩
theorem read_n(G n gl cap:Nat)(xs ps:Nat->Nat × Nat)(em:Nat->Bool)(w:World)(hn:n<=100)(hgl:G+n<=gl)
  (hc:∀ k:Nat,k<n->w.cell? ⟨gl,k,none⟩=some (.pointer (some ⟨G+k,0,none⟩)))(hb:∀ k:Nat,k<n->Bx w (G+k) (xs k).1 (xs k).2)
  (hr:∀ k:Nat,k<n->∀ W,Rt 102 #[.agg #[.float .f64 (xs k).1,.float .f64 (xs k).2]] (.agg #[.float .f64 (ps k).1,.float .f64 (ps k).2]) W)
  (he:∀ k:Nat,k<n->Em (em k) (ps k).1 (ps k).2):
  Calls Tryz.prog 75 #[.slice (some ⟨gl,0,none⟩) n cap] w fun e w'=>e=.returned (.bool (anyB em n))/\(∀ k:Nat,k<n->Bx w' (G+k) (ps k).1 (ps k).2)/\KeepN G n w w':=by
 have HC:=Hd hc;have HB:=Hd hb;have HR:=Hd hr;have HE:=Hd he;have HEM:=Hd emptyf;clear hc hb hr he
 go_enter Tryz.func75,Tryz.ntmps75
 go_wp2
 go_loopw [3,5,8] (fun nv _ iv wr=>∃ k:Nat,iv=.int .i64 k/\nv=.bool (anyB em k)/\k<=n/\(∀ t:Nat,t<k->Bx wr (G+t) (ps t).1 (ps t).2)/\(∀ t:Nat,k<=t->t<n->Bx wr (G+t) (xs t).1 (xs t).2)/\KeepN G n w wr) (fun _ _ iv _=>n - (intOf iv).toNat)
 case atStart=>exact⟨0,rfl,rfl,Nat.zero_le _,fun t h=>absurd h (by omega),fun t _ h=>HB.out t h,KeepN.refl _ _ _⟩
 case round=>
  obtain⟨k,rfl,rfl,hk,hd,hl,hkp⟩:=hrel;have HD:=Hd hd;have HL:=Hd hl;have HK:=Hd hkp;clear hd hl hkp
  by_cases hlt:k<n
  ·have hc:=HK.out.cell (HC.out k hlt) (.inr hgl);have hbx:=HL.out k (Nat.le_refl _) hlt;have hem:=HE.out k hlt;have hrd:=HR.out k hlt;have hS:anyB em (k+1)=(anyB em k || em k):=rfl
   obtain⟨p,hp⟩:∃ p,(ps k).1=p:=⟨_,rfl⟩
   obtain⟨q,hq⟩:∃ p,(ps k).2=p:=⟨_,rfl⟩
   obtain⟨x,hx⟩:∃ p,(xs k).1=p:=⟨_,rfl⟩
   obtain⟨y,hy⟩:∃ p,(xs k).2=p:=⟨_,rfl⟩
   rw [hp,hq] at hem hrd;rw [hx,hy] at hrd hbx
   obtain⟨na,hna⟩:∃ b,anyB em k=b:=⟨_,rfl⟩
   obtain⟨ea,hea⟩:∃ b,em k=b:=⟨_,rfl⟩
   rw [hna,hea] at hS;rw [hea] at hem;rw [hna];have HRD:=Hd hrd;have HMM:=Hd hem;have HP:=Hd hp;have HQ:=Hd hq;have HS:=Hd hS;clear hem hrd hp hq hx hy hna hea hS;have q0:_=some (.float .f64 x:Value):=Blk.cell hbx 0;have q1:_=some (.float .f64 y:Value):=Blk.cell hbx 1;go_wp2_with fail;refine cx (HRD.out _) fun w1 hb1=>?_;have hb2:=Bx.keep hbx hb1;have HD1:=Hd fun t h=>(HD.out t h).keep hb1;have HL1:=Hd fun t h h'=>(HL.out t h h').keep hb1;have HK1:=Hd (HK.out.below hb1);clear hb1 q0 q1 HRD HD HL HK hc hbx;have q0:_=some (.float .f64 x:Value):=Blk.cell hb2 0;have q1:_=some (.float .f64 y:Value):=Blk.cell hb2 1;have f0:=Blk.frozen hb2 0;have f1:=Blk.frozen hb2 1;have HB2:=Hd (hb2.set p q)
   go_upto_region 6 with fail
   have HS6:=Hd (show (∀ t:Nat,t<k+1->Bx ((w1.setCell ⟨G+k,0,none⟩ (.float .f64 p)).setCell ⟨G+k,1,none⟩ (.float .f64 q)) (G+t) (ps t).1 (ps t).2)/\(∀ t:Nat,k+1<=t->t<n->Bx ((w1.setCell ⟨G+k,0,none⟩ (.float .f64 p)).setCell ⟨G+k,1,none⟩ (.float .f64 q)) (G+t) (xs t).1 (xs t).2)/\KeepN G n w ((w1.setCell ⟨G+k,0,none⟩ (.float .f64 p)).setCell ⟨G+k,1,none⟩ (.float .f64 q)) from
    ⟨fun t h=>by
      by_cases e:t=k
      ·subst e;rw [HP.out,HQ.out];exact HB2.out
      ·exact (HD1.out t (by omega)).far (by omega) _ _,fun t h h'=>(HL1.out t (by omega) h').far (by omega) _ _,HK1.out.set hlt _ _⟩)
   obtain⟨W2,hW2⟩:∃ W,(w1.setCell ⟨G+k,0,none⟩ (.float .f64 p)).setCell ⟨G+k,1,none⟩ (.float .f64 q)=W:=⟨_,rfl⟩
   rw [hW2] at HS6 ⊢;clear hW2 q0 q1 f0 f1 hb2 HB2 HD1 HL1 HK1
   cases na
   ·obtain⟨hm1,hm2⟩:=HMM.out;clear HMM
    cases ea
    ·have m1:=hm2 rfl;clear hm1 hm2;refine wp_region_held_drew (S:=fun W'=>(∀ t:Nat,t<k+1->Bx W' (G+t) (ps t).1 (ps t).2)/\(∀ t:Nat,k+1<=t->t<n->Bx W' (G+t) (xs t).1 (xs t).2)/\KeepN G n w W') (by kernel_rfl) (by exact⟨fun t h=>HS6.out.1 t h,fun t h h2=>HS6.out.2.1 t h h2,HS6.out.2.2.drew⟩) (fun hHeld=>?_);refine tks 0 ?_;refine tks 1 ?_;refine tks 2 ?_;refine tks 3 ?_;refine tks 4 ?_ (hv:=by intro W2 hSw;have hbx:=hSw.1 k (by omega);rw [HP.out,HQ.out] at hbx;have q0:_=some (.float .f64 p:Value):=Blk.cell hbx 0;have q1:_=some (.float .f64 q:Value):=Blk.cell hbx 1;go_simp;(try with_reducible rfl));refine rdy 5 (fun KK hKK=>?_);go_simp;refine cx (HEM.out _) fun w3 hbE=>?_;go_wp2_with fail;refine hKK.out _ _ (⟨fun t h=>(hHeld.1 t h).keep hbE,fun t h h2=>(hHeld.2.1 t h h2).keep hbE,hHeld.2.2.below hbE⟩) (fun _=>?_);clear hKK KK hHeld;rename_i hHeld;(try simp only [Act.put,lay]);refine tks 6 ?_;refine tks 7 ?_;refine tks 8 ?_;refine wpAnyH_done (by kernel_rfl) ?_ _;go_wp2
     go_roundw
     case rel=>exact⟨k+1,by go_num,by rw [HS.out];rfl,by omega,hHeld.1,hHeld.2.1,hHeld.2.2⟩
     case measure=>simp [intOf];omega
    ·obtain⟨m1,m2⟩:=hm1 rfl;clear hm1 hm2;refine wp_region_held_drew (S:=fun W'=>(∀ t:Nat,t<k+1->Bx W' (G+t) (ps t).1 (ps t).2)/\(∀ t:Nat,k+1<=t->t<n->Bx W' (G+t) (xs t).1 (xs t).2)/\KeepN G n w W') (by kernel_rfl) (by exact⟨fun t h=>HS6.out.1 t h,fun t h h2=>HS6.out.2.1 t h h2,HS6.out.2.2.drew⟩) (fun hHeld=>?_);refine tks 0 ?_;refine tks 1 ?_;refine tks 2 ?_;refine tks 3 ?_;refine tks 4 ?_ (hv:=by intro W2 hSw;have hbx:=hSw.1 k (by omega);rw [HP.out,HQ.out] at hbx;have q0:_=some (.float .f64 p:Value):=Blk.cell hbx 0;have q1:_=some (.float .f64 q:Value):=Blk.cell hbx 1;go_simp;(try with_reducible rfl));refine rdy 5 (fun KK hKK=>?_);go_simp;refine cx (HEM.out _) fun w3 hbE=>?_;go_wp2_with fail;refine hKK.out _ _ (⟨fun t h=>(hHeld.1 t h).keep hbE,fun t h h2=>(hHeld.2.1 t h h2).keep hbE,hHeld.2.2.below hbE⟩) (fun _=>?_);clear hKK KK hHeld;rename_i hHeld;(try simp only [Act.put,lay]);refine tks 6 ?_;refine tks 7 ?_;refine tks 8 ?_;refine wpAnyH_done (by kernel_rfl) ?_ _;go_wp2
     go_roundw
     case rel=>exact⟨k+1,by go_num,by rw [HS.out];rfl,by omega,hHeld.1,hHeld.2.1,hHeld.2.2⟩
     case measure=>simp [intOf];omega
   ·skip;refine wp_region_held_drew (S:=fun W'=>(∀ t:Nat,t<k+1->Bx W' (G+t) (ps t).1 (ps t).2)/\(∀ t:Nat,k+1<=t->t<n->Bx W' (G+t) (xs t).1 (xs t).2)/\KeepN G n w W') (by kernel_rfl) (by exact⟨fun t h=>HS6.out.1 t h,fun t h h2=>HS6.out.2.1 t h h2,HS6.out.2.2.drew⟩) (fun hHeld=>?_);refine tks 0 ?_;refine tks 1 ?_;refine tkns 2 ?_;refine tkns 3 ?_;refine tkns 4 ?_;refine tkns 5 ?_;refine tkns 6 ?_;refine tks 7 ?_;refine tks 8 ?_;refine wpAnyH_done (by kernel_rfl) ?_ _;go_wp2
    go_roundw
    case rel=>exact⟨k+1,by go_num,by rw [HS.out];rfl,by omega,hHeld.1,hHeld.2.1,hHeld.2.2⟩
    case measure=>simp [intOf];omega
  ·obtain rfl:k=n:=by omega
   go_wp2
   go_ret
   exact⟨rfl,HD.out,HK.out⟩
end
section
open Go.RowKit
attribute [local go_sem] run_store_float run_eqf
theorem read_three(x0 y0 x1 y1 x2 y2 p0 q0 p1 q1 p2 q2 g0 g1 g2 gl cap:Nat)(a0 a1 a2:Bool)(w:World)(n01:g1=g0+1)(n02:g2=g0+2)(n12:g0+3<=gl)(l0:gl≠g0)(l1:gl≠g1)(l2:gl≠g2)
  (hc0:w.cell? ⟨gl,0,none⟩=some (.pointer (some ⟨g0,0,none⟩)))(hc1:w.cell? ⟨gl,1,none⟩=some (.pointer (some ⟨g1,0,none⟩)))(hc2:w.cell? ⟨gl,2,none⟩=some (.pointer (some ⟨g2,0,none⟩)))
  (b0:Bx w g0 x0 y0)(b1:Bx w g1 x1 y1)(b2:Bx w g2 x2 y2)
  (h0:∀ W,Rt 102 #[.agg #[.float .f64 x0,.float .f64 y0]] (.agg #[.float .f64 p0,.float .f64 q0]) W)
  (h1:∀ W,Rt 102 #[.agg #[.float .f64 x1,.float .f64 y1]] (.agg #[.float .f64 p1,.float .f64 q1]) W)
  (h2:∀ W,Rt 102 #[.agg #[.float .f64 x2,.float .f64 y2]] (.agg #[.float .f64 p2,.float .f64 q2]) W)
  (e0:Em a0 p0 q0)(e1:Em a1 p1 q1)(e2:Em a2 p2 q2):
  Calls Tryz.prog 75 #[.slice (some ⟨gl,0,none⟩) 3 cap] w fun e w'=>e=.returned (.bool (a0 || a1 || a2))/\Bx w' g0 p0 q0/\Bx w' g1 p1 q1/\Bx w' g2 p2 q2/\Kp g0 g1 g2 w w':=by
 subst n01 n02
 have h:=read_n g0 3 gl cap (fun k:Nat=>if k=0 then (x0,y0) else if k=1 then (x1,y1) else (x2,y2)) (fun k:Nat=>if k=0 then (p0,q0) else if k=1 then (p1,q1) else (p2,q2)) (fun k:Nat=>if k=0 then a0 else if k=1 then a1 else a2) w (by omega) n12
  (fun k hk=>by match k,hk with | 0,_=>exact hc0 | 1,_=>exact hc1 | 2,_=>exact hc2) (fun k hk=>by match k,hk with | 0,_=>exact b0 | 1,_=>exact b1 | 2,_=>exact b2) (fun k hk=>by match k,hk with | 0,_=>exact h0 | 1,_=>exact h1 | 2,_=>exact h2) (fun k hk=>by match k,hk with | 0,_=>exact e0 | 1,_=>exact e1 | 2,_=>exact e2)
 refine h.mono ?_;rintro e w' ⟨rfl,hd,kp⟩
 exact⟨by simp [anyB],hd 0 (by omega),hd 1 (by omega),hd 2 (by omega),kp.os,kp.tape,kp.output,kp.size,fun k hk u v x=>kp.block k hk (by omega)⟩
end
section
open Go.RowKit
attribute [local go_sem] run_store_float
theorem emptyq(i j:Int)(w:World)(h1:-(M:Int)<=i/\i<=M)(h2:-(M:Int)<=j/\j<=M):Rt 116 #[.agg #[.float .f64 (pat i),.float .f64 (pat j)]] (.bool (decide (j<i))) w:=by
 have ho:=order_pat h1.1 h1.2 h2.1 h2.2
 obtain⟨p,hp⟩:∃ p,pat i=p:=⟨_,rfl⟩
 obtain⟨q,hq⟩:∃ p,pat j=p:=⟨_,rfl⟩
 rw [hp,hq] at ho;rw [hp,hq];clear hp hq h1 h2;have hb:=Hd fun cs=>below_alloc w (.cells cs 28)
 rcases Int.lt_trichotomy i j with h | h | h
 ·rw [show compare i j=.lt from Int.compare_eq_lt.2 h] at ho;rw [decide_eq_false (show ¬ j<i by omega)];clear h
  go_enter Tryz.func116,Tryz.ntmps116
  go_wp2
  go_ret
  exact⟨rfl,hb.out _⟩
 ·rw [show compare i j=.eq from Int.compare_eq_eq.2 h] at ho;rw [decide_eq_false (show ¬ j<i by omega)];clear h
  go_enter Tryz.func116,Tryz.ntmps116
  go_wp2
  go_ret
  exact⟨rfl,hb.out _⟩
 ·rw [show compare i j=.gt from Int.compare_eq_gt.2 h] at ho;rw [decide_eq_true (show j<i by omega)];clear h
  go_enter Tryz.func116,Tryz.ntmps116
  go_wp2
  go_ret
  exact⟨rfl,hb.out _⟩
attribute [local go_sem] run_negf
theorem turnedf(i j:Int)(w:World)(h1:-(M:Int)<=i/\i<=M)(h2:-(M:Int)<=j/\j<=M):Rt 137 #[.agg #[.float .f64 (pat i),.float .f64 (pat j)]] (.agg #[.float .f64 (pat (-j)),.float .f64 (pat (-i))]) w:=by
 have n1:=negFloat_val (pat_lt h1.1 h1.2);have n2:=negFloat_val (pat_lt h2.1 h2.2);have P1:=Hd fun W=>(plainf (Op.negFloat .f64 (pat i)) W n1.1 (by rw [n1.2.1,rung_pat h1.1 h1.2];omega)).mono (R':=fun e w'=>e=.returned (.float .f64 (pat (idx (Op.negFloat .f64 (pat i)))))/\Below W.heap.size W w') (by rintro e w' ⟨h,rfl⟩;exact⟨h,Below.refl _ _⟩);have P2:=Hd fun W=>(plainf (Op.negFloat .f64 (pat j)) W n2.1 (by rw [n2.2.1,rung_pat h2.1 h2.2];omega)).mono (R':=fun e w'=>e=.returned (.float .f64 (pat (idx (Op.negFloat .f64 (pat j)))))/\Below W.heap.size W w') (by rintro e w' ⟨h,rfl⟩;exact⟨h,Below.refl _ _⟩);rw [n1.2.2,idx_pat h1.1 h1.2] at P1;rw [n2.2.2,idx_pat h2.1 h2.2] at P2
 obtain⟨p,hp⟩:∃ p,pat i=p:=⟨_,rfl⟩
 obtain⟨q,hq⟩:∃ p,pat j=p:=⟨_,rfl⟩
 obtain⟨p2,hp2⟩:∃ p,pat (-i)=p:=⟨_,rfl⟩
 obtain⟨q2,hq2⟩:∃ p,pat (-j)=p:=⟨_,rfl⟩
 rw [hp,hp2] at P1;rw [hq,hq2] at P2;rw [hp,hq,hp2,hq2];clear n1 n2 hp hq hp2 hq2 h1 h2;obtain⟨LB0,LG0_0,LR⟩:=bx2 w #[.float .f64 p,.float .f64 q] 28 #[.float .f64 0,.float .f64 0] 28;have LR0:=Hd (HasBlk.of (n:=2) LR.out rfl rfl);clear LR
 go_enter Tryz.func137,Tryz.ntmps137
 go_wp2_with fail;refine wp_region_held_drew (S:=fun W'=>Blk W' w.heap.size 28 #[.float .f64 p,.float .f64 q]/\HasBlk W' (w.heap.size+1) 28 2/\Below w.heap.size w W') (by kernel_rfl) (by exact⟨LG0_0.out.drew,LR0.out.drew,LB0.out.drew⟩) (fun hHeld=>?_);refine tks 0 ?_;refine tks 1 ?_ (hv:=by intro W2 hSw;obtain⟨q0,q1⟩:=hSw.1.c2;go_simp;(try with_reducible rfl));refine tks 2 ?_;refine tks 4 ?_;refine tks 5 ?_ (hv:=by intro W2 hSw;obtain⟨q0,q1⟩:=hSw.1.c2;go_simp;(try with_reducible rfl));refine tks 6 ?_;refine rdy 3 (fun KK hKK=>?_);go_simp;refine cx (P2.out _) fun w2 hb2=>?_;go_wp2_with fail;refine hKK.out _ _ (⟨hHeld.1.keep hb2,hHeld.2.1.keep hb2,hHeld.2.2.trans (hb2.mono hHeld.2.2.size)⟩) (fun _=>?_);clear hKK KK hHeld;rename_i hHeld;(try simp only [Act.put,lay]);refine rdy 7 (fun KK hKK=>?_);go_simp;refine cx (P1.out _) fun w3 hb3=>?_;go_wp2_with fail;refine hKK.out _ _ (⟨hHeld.1.keep hb3,hHeld.2.1.keep hb3,hHeld.2.2.trans (hb3.mono hHeld.2.2.size)⟩) (fun _=>?_);clear hKK KK hHeld;rename_i hHeld;(try simp only [Act.put,lay]);refine tks 8 ?_;refine rdy 9 (fun KK hKK=>?_);have ha0:=hHeld.2.1.someCell 0 (by decide);have hf0:=hHeld.2.1.frozen 0;have ha1:=hHeld.2.1.someCell 1 (by decide);have hf1:=hHeld.2.1.frozen 1;have HK:=Hd (hHeld.2.1.setCell [.float .f64 q2,.float .f64 p2] rfl);have F:=Hd (below_sets (w0:=w) (r:=(w.heap.size+1)) (by omega) [.float .f64 q2,.float .f64 p2] 0 _ hHeld.2.2);go_simp;refine hKK.out _ _ (⟨hHeld.1.other (by omega) 0 [.float .f64 q2,.float .f64 p2],hHeld.2.1.sets [.float .f64 q2,.float .f64 p2] rfl rfl,below_sets (by omega) [.float .f64 q2,.float .f64 p2] 0 _ hHeld.2.2⟩) (fun _=>?_)
 clear hKK KK hHeld;rename_i hHeld;(try simp only [Act.put,lay]);refine wpAnyH_done (by kernel_rfl) ?_ _;have hk0:=HK.out 0 (by decide);have hk1:=HK.out 1 (by decide)
 simp [sets] at hk0 hk1
 clear hHeld HK hb2 hb3;clear LB0 LR0 LG0_0;go_wp2;refine bodyPost_ret (v:=.agg #[.float .f64 q2,.float .f64 p2]) (by simp [results,Tryz.results137,go_sem,hk0,hk1]) rfl ?_
 exact⟨rfl,F.out⟩
theorem negf(x y:Nat)(w:World)(hx:x<18446744073709551616)(hy:y<18446744073709551616):Rt 61 #[.agg #[.float .f64 x,.float .f64 y]] (.agg #[.float .f64 (pat (-(rd x y).2)),.float .f64 (pat (-(rd x y).1))]) w:=by
 have HR:=Hd fun W=>readf x y W hx hy;have hiv:=rd_iv x y
 obtain⟨i,hi⟩:∃ i,(rd x y).1=i:=⟨_,rfl⟩
 obtain⟨j,hj⟩:∃ i,(rd x y).2=i:=⟨_,rfl⟩
 rw [hi,hj] at HR hiv ⊢;have HQ:=Hd fun W=>emptyq i j W hiv.lo hiv.hi;have HT:=Hd fun W=>turnedf i j W hiv.lo hiv.hi
 have hE:j<i->i=M/\j=-(M:Int):=by
  intro h;unfold Iv at hiv
  omega
 obtain⟨p,hp⟩:∃ p,pat i=p:=⟨_,rfl⟩
 obtain⟨q,hq⟩:∃ p,pat j=p:=⟨_,rfl⟩
 obtain⟨p2,hp2⟩:∃ p,pat (-i)=p:=⟨_,rfl⟩
 obtain⟨q2,hq2⟩:∃ p,pat (-j)=p:=⟨_,rfl⟩
 rw [hp,hq] at HR HQ HT;rw [hp2,hq2] at HT ⊢
 obtain⟨b,hb⟩:∃ b,decide (j<i)=b:=⟨_,rfl⟩
 rw [hb] at HQ
 have HE2:b=true->p=q2/\q=p2:=by
  intro h;rw [h] at hb;obtain⟨e1,e2⟩:=hE (of_decide_eq_true hb);rw [<- hp,<- hq2,<- hq,<- hp2,e1,e2,Int.neg_neg]
  exact⟨rfl,rfl⟩
 have HE:=Hd HE2;clear hi hj hiv hE hp hq hp2 hq2 hb HE2
 cases b
 ·skip;obtain⟨LB0,LG0_0,LR⟩:=bx2 w #[.float .f64 x,.float .f64 y] 28 #[.float .f64 0,.float .f64 0] 28;have LR0:=Hd (HasBlk.of (n:=2) LR.out rfl rfl);clear LR
  go_enter Tryz.func61,Tryz.ntmps61
  go_wp2_with fail;refine cx (HR.out _) fun w1 hb1=>?_;have LB1:=stB LB0 hb1 LB0.out.size;have LR1:=stR LR0 hb1;have LG0_1:=stG LG0_0 hb1;clear LB0 LR0 LG0_0;clear hb1;obtain⟨q0_0,q0_1⟩:=LG0_1.out.c2;have hf0:=LG0_1.out.frozen 0;have hf1:=LG0_1.out.frozen 1
  go_upto_region 2 with fail
  clear q0_0 q0_1 hf0 hf1;have LB2:=Hd (below_sets (w0:=w) (show w.heap.size<=w.heap.size by omega) [.float .f64 p,.float .f64 q] 0 w1 LB1.out);have LR2:=Hd (LR1.out.other (r:=w.heap.size) (by omega) 0 [.float .f64 p,.float .f64 q]);have LG0_2:=Hd (show Blk (sets w1 w.heap.size 0 [.float .f64 p,.float .f64 q]) w.heap.size 28 #[.float .f64 p,.float .f64 q] from by have hbs:=Blk.sets [.float .f64 p,.float .f64 q] 0 w1 _ LG0_1.out;simpa [laid] using hbs);clear LB1 LR1 LG0_1
  obtain⟨V1,hV1⟩:∃ X,(sets w1 w.heap.size 0 [.float .f64 p,.float .f64 q])=X:=⟨_,rfl⟩
  rw [hV1] at LB2 LR2 LG0_2;rw [show ((w1.setCell ⟨w.heap.size,0,none⟩ (.float .f64 p)).setCell ⟨w.heap.size,1,none⟩ (.float .f64 q))=V1 from hV1];clear hV1;obtain⟨q0_0,q0_1⟩:=LG0_2.out.c2;go_wp2_with fail;refine cx (HQ.out _) fun w2 hb2=>?_;have LB3:=stB LB2 hb2 LB2.out.size;have LR3:=stR LR2 hb2;have LG0_3:=stG LG0_2 hb2;clear LB2 LR2 LG0_2;clear hb2 q0_0 q0_1;obtain⟨q0_0,q0_1⟩:=LG0_3.out.c2;go_wp2_with fail;refine cx (HT.out _) fun w3 hb3=>?_;have LB4:=stB LB3 hb3 LB3.out.size;have LR4:=stR LR3 hb3;have LG0_4:=stG LG0_3 hb3;clear LB3 LR3 LG0_3;clear hb3 q0_0 q0_1;obtain⟨ha0,hf0,ha1,hf1⟩:=LR4.out.sf2;obtain⟨hk0,hk1⟩:=LR4.out.sc2 (.float .f64 q2) (.float .f64 p2);have F:=Hd (below_sets (w0:=w) (r:=(w.heap.size+1)) (by omega) [.float .f64 q2,.float .f64 p2] 0 _ LB4.out)
  simp [sets] at hk0 hk1
  go_wp2;refine bodyPost_ret (v:=.agg #[.float .f64 q2,.float .f64 p2]) (by simp [results,Tryz.results61,go_sem,hk0,hk1]) rfl ?_
  exact⟨rfl,F.out⟩
 ·skip;obtain⟨LB0,LG0_0,LR⟩:=bx2 w #[.float .f64 x,.float .f64 y] 28 #[.float .f64 0,.float .f64 0] 28;have LR0:=Hd (HasBlk.of (n:=2) LR.out rfl rfl);clear LR
  go_enter Tryz.func61,Tryz.ntmps61
  go_wp2_with fail;refine cx (HR.out _) fun w1 hb1=>?_;have LB1:=stB LB0 hb1 LB0.out.size;have LR1:=stR LR0 hb1;have LG0_1:=stG LG0_0 hb1;clear LB0 LR0 LG0_0;clear hb1;obtain⟨q0_0,q0_1⟩:=LG0_1.out.c2;have hf0:=LG0_1.out.frozen 0;have hf1:=LG0_1.out.frozen 1
  go_upto_region 2 with fail
  clear q0_0 q0_1 hf0 hf1;have LB2:=Hd (below_sets (w0:=w) (show w.heap.size<=w.heap.size by omega) [.float .f64 p,.float .f64 q] 0 w1 LB1.out);have LR2:=Hd (LR1.out.other (r:=w.heap.size) (by omega) 0 [.float .f64 p,.float .f64 q]);have LG0_2:=Hd (show Blk (sets w1 w.heap.size 0 [.float .f64 p,.float .f64 q]) w.heap.size 28 #[.float .f64 p,.float .f64 q] from by have hbs:=Blk.sets [.float .f64 p,.float .f64 q] 0 w1 _ LG0_1.out;simpa [laid] using hbs);clear LB1 LR1 LG0_1
  obtain⟨V1,hV1⟩:∃ X,(sets w1 w.heap.size 0 [.float .f64 p,.float .f64 q])=X:=⟨_,rfl⟩
  rw [hV1] at LB2 LR2 LG0_2;rw [show ((w1.setCell ⟨w.heap.size,0,none⟩ (.float .f64 p)).setCell ⟨w.heap.size,1,none⟩ (.float .f64 q))=V1 from hV1];clear hV1;obtain⟨q0_0,q0_1⟩:=LG0_2.out.c2;go_wp2_with fail;refine cx (HQ.out _) fun w2 hb2=>?_;have LB3:=stB LB2 hb2 LB2.out.size;have LR3:=stR LR2 hb2;have LG0_3:=stG LG0_2 hb2;clear LB2 LR2 LG0_2;clear hb2 q0_0 q0_1;obtain⟨q0_0,q0_1⟩:=LG0_3.out.c2;obtain⟨ha0,hf0,ha1,hf1⟩:=LR3.out.sf2;obtain⟨hk0,hk1⟩:=LR3.out.sc2 (.float .f64 p) (.float .f64 q);have F:=Hd (below_sets (w0:=w) (r:=(w.heap.size+1)) (by omega) [.float .f64 p,.float .f64 q] 0 _ LB3.out)
  simp [sets] at hk0 hk1
  go_wp2;refine bodyPost_ret (v:=.agg #[.float .f64 p,.float .f64 q]) (by simp [results,Tryz.results61,go_sem,hk0,hk1]) rfl ?_
  exact⟨by rw [(HE.out trivial).1,(HE.out trivial).2],F.out⟩
end
section
open Go.RowKit
attribute [local go_sem] run_store_float run_frombits run_bitsof
end
section
open Go.RowKit
attribute [local go_sem] run_store_float run_frombits run_bitsof
theorem mirrorf(x y:Nat)(w:World)(hx:x<18446744073709551616)(hy:y<18446744073709551616):Rt 85 #[.agg #[.float .f64 x,.float .f64 y]] (.agg #[.float .f64 (pat (-(rd x y).2)),.float .f64 (pat (-(rd x y).1))]) w:=by
 have HN:=Hd fun W=>negf x y W hx hy
 obtain⟨p,hp⟩:∃ p,pat (-(rd x y).2)=p:=⟨_,rfl⟩
 obtain⟨q,hq⟩:∃ p,pat (-(rd x y).1)=p:=⟨_,rfl⟩
 rw [hp,hq] at HN;rw [hp,hq];clear hp hq;obtain⟨LB0,LG0_0,LR⟩:=bx2 w #[.float .f64 x,.float .f64 y] 28 #[.float .f64 0,.float .f64 0] 28;have LR0:=Hd (HasBlk.of (n:=2) LR.out rfl rfl);clear LR
 go_enter Tryz.func85,Tryz.ntmps85
 go_wp2_with fail;refine cx (HN.out _) fun w1 hb1=>?_;have LB1:=stB LB0 hb1 LB0.out.size;have LR1:=stR LR0 hb1;have LG0_1:=stG LG0_0 hb1;clear LB0 LR0 LG0_0;clear hb1;obtain⟨ha0,hf0,ha1,hf1⟩:=LR1.out.sf2;obtain⟨hk0,hk1⟩:=LR1.out.sc2 (.float .f64 p) (.float .f64 q);have F:=Hd (below_sets (w0:=w) (r:=(w.heap.size+1)) (by omega) [.float .f64 p,.float .f64 q] 0 _ LB1.out)
 simp [sets] at hk0 hk1
 go_wp2;refine bodyPost_ret (v:=.agg #[.float .f64 p,.float .f64 q]) (by simp [results,Tryz.results85,go_sem,hk0,hk1]) rfl ?_
 exact⟨rfl,F.out⟩
end
section
open Go.RowKit
def rc(x y:Rat):Int:=if x<y then -1 else if y<x then 1 else 0
theorem div_lt{a b c d:Rat}(hc:0<c)(hd:0<d):a / c<b / d↔a*d<b*c:=by
 have h1:0<c*d:=Rat.mul_pos hc hd
 have e1:a / c*(c*d)=a*d:=by
  rw [<- Rat.mul_assoc,Rat.div_mul_cancel (by grind)]
 have e2:b / d*(c*d)=b*c:=by
  rw [Rat.mul_comm c d,<- Rat.mul_assoc,Rat.div_mul_cancel (by grind)]
 rw [<- e1,<- e2]
 exact (Rat.mul_lt_mul_right h1).symm
theorem rv_lt_false{p q p' q':Nat}(hq:0<q)(hq':0<q'):rv false p q<rv false p' q'↔p*q'<p'*q:=by
 unfold rv
 simp only [Bool.false_eq_true,if_false]
 rw [div_lt (cast_pos hq) (cast_pos hq'),<- Rat.natCast_mul,<- Rat.natCast_mul,Rat.natCast_lt_natCast]
end
section
open Go.RowKit
def Sc(n m:Nat)(f:Int):Prop:=(0<=f->m*2^f.toNat<=n/\n<m*2^(f.toNat+1))/\(f<0->m<=n*2^(-f).toNat/\n*2^(-f).toNat<2*m)
theorem blen_bounds{n:Nat}(h:0<n):∃ L,blen n=L+1/\2^L<=n/\n<2^(L+1):=by
 have h1:=pow_blen_le h;have h2:=lt_pow_blen n
 have h3:blen n≠0:=by rw [Ne,blen_eq_zero];omega
 refine⟨blen n - 1,by omega,?_,?_⟩
 ·exact h1
 ·rwa [show blen n - 1+1=blen n from by omega]
theorem scale_keep{n m:Nat}{f:Int}(hn:0<n)(hm:0<m)(hf:f=(blen n:Int) - blen m)(h1:0<=f->m*2^f.toNat<=n)(h2:f<0->m<=n*2^(-f).toNat):Sc n m f:=by
 obtain⟨L,e1,a1,a2⟩:=blen_bounds hn;obtain⟨R,e2,b1,b2⟩:=blen_bounds hm;refine⟨fun h=>⟨h1 h,?_⟩,fun h=>⟨h2 h,?_⟩⟩
 ·obtain⟨k,rfl⟩:∃ k:Nat,f=k:=⟨f.toNat,by omega⟩
  rw [Int.toNat_natCast]
  have:L=R+k:=by omega
  subst this
  calc n<2^(R+k+1):=a2
   _=2^R*2^(k+1):=by rw [<- Nat.pow_add];congr 1
   _<=m*2^(k+1):=Nat.mul_le_mul_right _ b1
 ·obtain⟨k,hk⟩:∃ k:Nat,-f=k:=⟨(-f).toNat,by omega⟩
  rw [hk,Int.toNat_natCast]
  have:R=L+k:=by omega
  subst this
  calc n*2^k<2^(L+1)*2^k:=Nat.mul_lt_mul_of_pos_right a2 (Nat.two_pow_pos k)
   _=2*2^(L+k):=by rw [<- Nat.pow_add,show L+1+k=(L+k)+1 from by omega,Nat.pow_succ,Nat.mul_comm]
   _<=2*m:=Nat.mul_le_mul_left _ b1
theorem scale_down{n m:Nat}{f:Int}(hn:0<n)(hm:0<m)(hf:f=(blen n:Int) - blen m)(h1:0<=f->n<m*2^f.toNat)(h2:f<0->n*2^(-f).toNat<m):Sc n m (f - 1):=by
 obtain⟨L,e1,a1,a2⟩:=blen_bounds hn;obtain⟨R,e2,b1,b2⟩:=blen_bounds hm
 rcases Int.lt_trichotomy f 0 with h | h | h
 ·refine⟨fun h'=>by omega,fun _=>?_⟩;have h2:=h2 h
  obtain⟨k,hk⟩:∃ k:Nat,-f=k:=⟨(-f).toNat,by omega⟩
  rw [hk,Int.toNat_natCast] at h2;rw [show -(f - 1)=((k+1:Nat):Int) from by omega,Int.toNat_natCast]
  have:R=L+k:=by omega
  subst this;refine⟨?_,by rw [Nat.pow_succ,<- Nat.mul_assoc];omega⟩;refine Nat.le_of_lt ?_
  calc m<2^(L+k+1):=b2
   _=2^L*2^(k+1):=by rw [<- Nat.pow_add];congr 1
   _<=n*2^(k+1):=Nat.mul_le_mul_right _ a1
 ·subst h;refine⟨fun h'=>by omega,fun _=>?_⟩;have h1:=h1 (by omega)
  simp at h1 ⊢
  have:R=L:=by omega
  subst this;rw [Nat.pow_succ] at b2
  omega
 ·refine⟨fun _=>?_,fun h'=>by omega⟩;have h1:=h1 (by omega)
  obtain⟨k,hk⟩:∃ k:Nat,f=((k+1:Nat):Int):=⟨(f - 1).toNat,by omega⟩
  rw [hk,Int.toNat_natCast] at h1;rw [show f - 1=(k:Int) from by omega,Int.toNat_natCast];refine⟨?_,h1⟩
  have:L=R+(k+1):=by omega
  subst this;refine Nat.le_of_lt ?_
  calc m*2^k<2^(R+1)*2^k:=Nat.mul_lt_mul_of_pos_right b2 (Nat.two_pow_pos k)
   _=2^(R+(k+1)):=by rw [<- Nat.pow_add];congr 1;omega
   _<=n:=a1
def lastBit(f:Int):Int:=if f - 52 < -1074 then -1074 else f - 52
def upN(n:Nat)(e:Int):Nat:=n*2^(-e).toNat
def upM(m:Nat)(e:Int):Nat:=m*2^e.toNat
theorem w_lt{n m:Nat}{f:Int}(hm:0<m)(h:Sc n m f):upN n (lastBit f) / upM m (lastBit f)<2^53:=by
 have hM:0<upM m (lastBit f):=Nat.mul_pos hm (Nat.two_pow_pos _);rw [Nat.div_lt_iff_lt_mul hM]
 have he:f - 52<=lastBit f:=by unfold lastBit;split<;>omega
 obtain⟨e,hee⟩:∃ e,lastBit f=e:=⟨_,rfl⟩
 rw [hee] at he ⊢;unfold upN upM
 rcases Int.lt_or_le f 0 with hf | hf
 ·have h2:=(h.2 hf).2
  obtain⟨k,hk⟩:∃ k:Nat,-f=k:=⟨(-f).toNat,by omega⟩
  rw [hk,Int.toNat_natCast] at h2
  rcases Int.lt_or_le e 0 with h0 | h0
  ·rw [show e.toNat=0 from by omega,Nat.pow_zero,Nat.mul_one]
   calc n*2^(-e).toNat<=n*2^(k+52):=Nat.mul_le_mul_left _ (Nat.pow_le_pow_right (by omega) (by omega))
    _=n*2^k*2^52:=by rw [Nat.pow_add,Nat.mul_assoc]
    _<2*m*2^52:=Nat.mul_lt_mul_of_pos_right h2 (Nat.two_pow_pos 52)
    _=2^53*m:=by omega
  ·rw [show (-e).toNat=0 from by omega,Nat.pow_zero,Nat.mul_one];have h3:n<=n*2^k:=Nat.le_mul_of_pos_right _ (Nat.two_pow_pos k);have h4:m<=m*2^e.toNat:=Nat.le_mul_of_pos_right _ (Nat.two_pow_pos _);have:2*m<=2^53*(m*2^e.toNat):=Nat.mul_le_mul (by omega) h4
   omega
 ·have h2:=(h.1 hf).2
  obtain⟨k,rfl⟩:∃ k:Nat,f=k:=⟨f.toNat,by omega⟩
  rw [Int.toNat_natCast] at h2
  rcases Int.lt_or_le e 0 with h0 | h0
  ·rw [show e.toNat=0 from by omega,Nat.pow_zero,Nat.mul_one]
   calc n*2^(-e).toNat<m*2^(k+1)*2^(-e).toNat:=Nat.mul_lt_mul_of_pos_right h2 (Nat.two_pow_pos _)
    _=m*2^(k+1+(-e).toNat):=by rw [Nat.mul_assoc,<- Nat.pow_add]
    _<=m*2^53:=Nat.mul_le_mul_left _ (Nat.pow_le_pow_right (by omega) (by omega))
    _=2^53*m:=Nat.mul_comm _ _
  ·rw [show (-e).toNat=0 from by omega,Nat.pow_zero,Nat.mul_one]
   calc n<m*2^(k+1):=h2
    _<=m*2^(53+e.toNat):=Nat.mul_le_mul_left _ (Nat.pow_le_pow_right (by omega) (by omega))
    _=2^53*(m*2^e.toNat):=by rw [Nat.pow_add];ac_rfl
theorem w_ge{n m:Nat}{f:Int}(hm:0<m)(h:Sc n m f)(hb:-1074<lastBit f):2^52<=upN n (lastBit f) / upM m (lastBit f):=by
 have hM:0<upM m (lastBit f):=Nat.mul_pos hm (Nat.two_pow_pos _);rw [Nat.le_div_iff_mul_le hM]
 have he:lastBit f=f - 52:=by unfold lastBit at *;split at*<;> omega
 rw [he];unfold upN upM
 rcases Int.lt_or_le f 0 with hf | hf
 ·have h2:=(h.2 hf).1
  obtain⟨k,hk⟩:∃ k:Nat,-f=k:=⟨(-f).toNat,by omega⟩
  rw [hk,Int.toNat_natCast] at h2;rw [show (f - 52).toNat=0 from by omega,Nat.pow_zero,Nat.mul_one,show -(f - 52)=((k+52:Nat):Int) from by omega,Int.toNat_natCast,Nat.pow_add]
  calc 2^52*m<=2^52*(n*2^k):=Nat.mul_le_mul_left _ h2
   _=n*(2^k*2^52):=by ac_rfl
 ·have h2:=(h.1 hf).1
  obtain⟨k,rfl⟩:∃ k:Nat,f=k:=⟨f.toNat,by omega⟩
  rw [Int.toNat_natCast] at h2
  rcases Int.lt_or_le (k:Int) 52 with h0 | h0
  ·rw [show ((k:Int) - 52).toNat=0 from by omega,Nat.pow_zero,Nat.mul_one]
   have:52=k+(-((k:Int) - 52)).toNat:=by omega
   calc 2^52*m=2^(k+(-((k:Int) - 52)).toNat)*m:=by rw [<- this]
    _=m*2^k*2^(-((k:Int) - 52)).toNat:=by rw [Nat.pow_add];ac_rfl
    _<=n*2^(-((k:Int) - 52)).toNat:=Nat.mul_le_mul_right _ h2
  ·rw [show (-((k:Int) - 52)).toNat=0 from by omega,Nat.pow_zero,Nat.mul_one]
   have:k=52+((k:Int) - 52).toNat:=by omega
   calc 2^52*(m*2^((k:Int) - 52).toNat)=m*2^(52+((k:Int) - 52).toNat):=by rw [Nat.pow_add];ac_rfl
    _=m*2^k:=by rw [<- this]
    _<=n:=h2
theorem units{n m U:Nat}{e:Int}(hm:0<m)(he:-(U:Int)<=e):
  (upN n e / upM m e)*2^(e+U).toNat*m<=n*2^U/\n*2^U<(upN n e / upM m e+1)*2^(e+U).toNat*m /\
   (upN n e % upM m e=0->n*2^U=(upN n e / upM m e)*2^(e+U).toNat*m)/\(upN n e % upM m e≠0->(upN n e / upM m e)*2^(e+U).toNat*m<n*2^U):=by
 have hM:0<upM m e:=Nat.mul_pos hm (Nat.two_pow_pos _);have h1:=Nat.div_add_mod (upN n e) (upM m e);have h2:=Nat.mod_lt (upN n e) hM
 obtain⟨c,hc,hN,hP⟩:∃ c,0<c/\n*2^U=upN n e*c/\2^(e+U).toNat*m=upM m e*c:=by
  rcases Int.lt_or_le e 0 with h0 | h0
  ·refine⟨2^(e+U).toNat,Nat.two_pow_pos _,?_,?_⟩
   ·unfold upN;rw [Nat.mul_assoc,<- Nat.pow_add]
    congr 2;omega
   ·unfold upM;rw [show e.toNat=0 from by omega,Nat.pow_zero,Nat.mul_one,Nat.mul_comm]
  ·refine⟨2^U,Nat.two_pow_pos _,?_,?_⟩
   ·unfold upN;rw [show (-e).toNat=0 from by omega,Nat.pow_zero,Nat.mul_one]
   ·unfold upM;rw [show (e+U).toNat=e.toNat+U from by omega,Nat.pow_add];ac_rfl
 obtain⟨D,hD⟩:∃ D,upM m e=D:=⟨_,rfl⟩
 obtain⟨q,hq⟩:∃ q,upN n e / D=q:=⟨_,rfl⟩
 obtain⟨r,hr⟩:∃ r,upN n e % D=r:=⟨_,rfl⟩
 rw [hD] at h1 h2 hP ⊢;rw [hq,hr] at h1;rw [hr] at h2;rw [hq,hr,hN,Nat.mul_assoc,Nat.mul_assoc,hP,<- h1]
 have e1:q*(D*c)=D*q*c:=by ac_rfl
 have e2:(q+1)*(D*c)=(D*q+D)*c:=by rw [Nat.add_mul,Nat.one_mul,e1,Nat.add_mul]
 rw [e1,e2];refine⟨Nat.mul_le_mul_right _ (by omega),Nat.mul_lt_mul_of_pos_right (by omega) hc,fun h=>by rw [h,Nat.add_zero],fun h=>Nat.mul_lt_mul_of_pos_right (by omega) hc⟩
end
section
open Go.RowKit
def cutT(n m:Nat)(e:Int):Nat:=(e+1074).toNat*2^52+upN n e / upM m e
def capT(n m:Nat)(e:Int):Nat:=(e+1074).toNat*2^52+(upN n e / upM m e+if upN n e % upM m e=0 then 0 else 1)
theorem lastBit_bounds{f:Int}(hf:f<=1023):-1074<=lastBit f/\lastBit f<=971:=by unfold lastBit;split<;>omega
theorem mag_cut{n m:Nat}{f:Int}(hm:0<m)(h:Sc n m f)(c:Nat)(hc:c<=1):
  mag ((lastBit f+1074).toNat*2^52+(upN n (lastBit f) / upM m (lastBit f)+c))=(upN n (lastBit f) / upM m (lastBit f)+c)*2^(lastBit f+1074).toNat:=by
 have h1:=w_lt hm h;refine mag_form _ _ ?_ (by omega)
 by_cases hb:-1074<lastBit f
 ·have:=w_ge hm h hb;right;omega
 ·left;omega
theorem cut_lt{n m:Nat}{f:Int}(hm:0<m)(h:Sc n m f)(hf:f<=1023):cutT n m (lastBit f)<M:=by
 have h1:=w_lt hm h;have h2:=lastBit_bounds hf;unfold cutT;rw [M_val];omega
theorem cap_le{n m:Nat}{f:Int}(hm:0<m)(h:Sc n m f)(hf:f<=1023):capT n m (lastBit f)<=M:=by
 have h1:=w_lt hm h;have h2:=lastBit_bounds hf
 unfold capT;rw [M_val];split<;>omega
theorem cut_law{n m U:Nat}{f:Int}(hU:U=1074)(hm:0<m)(h:Sc n m f)(hf:f<=1023)(r:Nat):r<=cutT n m (lastBit f)↔mag r*m<=n*2^U:=by
 have hb:=lastBit_bounds hf;obtain⟨u1,u2,-,-⟩:=units (n:=n) (U:=U) hm (show -(U:Int)<=lastBit f by omega);have m0:=mag_cut hm h 0 (by omega);have m1:=mag_cut hm h 1 (by omega);rw [Nat.add_zero] at m0;rw [show (lastBit f+(U:Int)).toNat=(lastBit f+1074).toNat from by omega] at u1 u2;rw [<- m0] at u1;rw [<- m1] at u2
 have e:(lastBit f+1074).toNat*2^52+(upN n (lastBit f) / upM m (lastBit f)+1)=cutT n m (lastBit f)+1:=by unfold cutT;omega
 rw [e] at u2
 constructor
 ·intro hr;have h1:mag r<=mag (cutT n m (lastBit f)):=mag_le_iff.2 hr
  exact Nat.le_trans (Nat.mul_le_mul_right m h1) u1
 ·intro hr
  by_cases hc:r<=cutT n m (lastBit f)
  ·exact hc
  ·have h1:mag (cutT n m (lastBit f)+1)<=mag r:=mag_le_iff.2 (by omega);have h2:=Nat.mul_le_mul_right m h1
   exact absurd (Nat.lt_of_lt_of_le u2 h2) (by omega)
theorem cap_law{n m U:Nat}{f:Int}(hU:U=1074)(hm:0<m)(h:Sc n m f)(hf:f<=1023)(r:Nat):capT n m (lastBit f)<=r↔n*2^U<=mag r*m:=by
 have hb:=lastBit_bounds hf;obtain⟨u1,u2,u3,u4⟩:=units (n:=n) (U:=U) hm (show -(U:Int)<=lastBit f by omega);have m0:=mag_cut hm h 0 (by omega);have m1:=mag_cut hm h 1 (by omega);rw [Nat.add_zero] at m0;rw [show (lastBit f+(U:Int)).toNat=(lastBit f+1074).toNat from by omega] at u1 u2 u3 u4;rw [<- m0] at u1 u3 u4;rw [<- m1] at u2
 have e:(lastBit f+1074).toNat*2^52+(upN n (lastBit f) / upM m (lastBit f)+1)=cutT n m (lastBit f)+1:=by unfold cutT;omega
 have e0:(lastBit f+1074).toNat*2^52+(upN n (lastBit f) / upM m (lastBit f))=cutT n m (lastBit f):=rfl;rw [e] at u2;rw [e0] at u1 u3 u4
 by_cases hz:upN n (lastBit f) % upM m (lastBit f)=0
 ·have hc:capT n m (lastBit f)=cutT n m (lastBit f):=by unfold capT cutT;rw [if_pos hz,Nat.add_zero]
  rw [hc,u3 hz]
  constructor
  ·intro hr;exact Nat.mul_le_mul_right m (mag_le_iff.2 hr)
  ·intro hr
   exact mag_le_iff.1 (Nat.le_of_mul_le_mul_right hr hm)
 ·have hc:capT n m (lastBit f)=cutT n m (lastBit f)+1:=by unfold capT cutT;rw [if_neg hz];omega
  rw [hc];have u4:=u4 hz
  constructor
  ·intro hr
   exact Nat.le_trans (Nat.le_of_lt u2) (Nat.mul_le_mul_right m (mag_le_iff.2 hr))
  ·intro hr;have h2:=Nat.lt_of_mul_lt_mul_right (Nat.lt_of_lt_of_le u4 hr);have:=mag_lt_iff.1 h2
   omega
theorem over_law{n m U:Nat}{f:Int}(hU:U=1074)(hm:0<m)(h:Sc n m f)(hf:1023<f)(r:Nat)(hr:r<M):mag r*m<n*2^U:=by
 have h1:=(h.1 (by omega)).1;have h2:mag r<mag M:=mag_lt_iff.2 hr
 have h3:mag M=2^52*2^2046:=by
  have:=mag_form 2046 (2^52) (.inr (Nat.le_refl _)) (by decide);rw [<- this];rfl
 rw [h3] at h2
 obtain⟨k,rfl⟩:∃ k:Nat,f=((1024+k:Nat):Int):=⟨(f - 1024).toNat,by omega⟩
 rw [Int.toNat_natCast] at h1
 obtain⟨V,hV⟩:∃ V,V=2046:=⟨_,rfl⟩
 rw [<- hV] at h2
 calc mag r*m<2^52*2^V*m:=Nat.mul_lt_mul_of_pos_right h2 hm
  _=m*2^(52+V):=by rw [Nat.pow_add];ac_rfl
  _<=m*2^(1024+k+U):=Nat.mul_le_mul_left _ (Nat.pow_le_pow_right (by omega) (by omega))
  _=m*2^(1024+k)*2^U:=by rw [Nat.pow_add 2 (1024+k) U,Nat.mul_assoc]
  _<=n*2^U:=Nat.mul_le_mul_right _ h1
theorem rv_le_false{p q p' q':Nat}(hq:0<q)(hq':0<q'):rv false p q<=rv false p' q'↔p*q'<=p'*q:=by
 have:=rv_lt_false (p:=p') (p':=p) hq' hq
 constructor
 ·intro h
  by_cases hc:p*q'<=p'*q
  ·exact hc
  ·exact absurd (this.2 (by omega)) (by grind)
 ·intro h
  by_cases hc:rv false p q<=rv false p' q'
  ·exact hc
  ·have:=this.1 (by grind);omega
theorem fl_nat(r:Nat){U:Nat}(hU:U=1074):fl (r:Int)=rv false (mag r) (2^U):=by
 unfold rv fl;rw [if_neg (by decide),val_nat];refine eq_div (cast_ne (Nat.two_pow_pos U)) ?_;rw [<- zpow_nat,show (-1074:Int)=-(U:Int) from by omega,Rat.mul_assoc,<- zpow_add,show -(U:Int)+(U:Int)=0 from by omega,Rat.zpow_zero,Rat.mul_one]
 rfl
theorem fl_neg(i:Int):fl (-i)=- fl i:=by
 unfold fl;rw [val_neg,Rat.intCast_neg];grind
theorem fl_lt_iff{i j:Int}:fl i<fl j↔i<j:=by
 unfold fl;rw [Rat.mul_lt_mul_right (zpow_pos _),Rat.intCast_lt_intCast,val_lt_iff]
theorem fl_le_iff{i j:Int}:fl i<=fl j↔i<=j:=by
 have:=@fl_lt_iff j i
 constructor
 ·intro h
  by_cases hc:i<=j
  ·exact hc
  ·exact absurd (this.2 (by omega)) (by grind)
 ·intro h
  by_cases hc:fl i<=fl j
  ·exact hc
  ·have:=this.1 (by grind);omega
theorem fl_zero:fl 0=0:=by unfold fl;rw [val_zero];grind
def Rnd(d:Int)(x:Rat)(i:Int):Prop:=
 (d=-1/\-(M:Int)<=i/\i<M/\∀ j:Int,-(M:Int)<j->j<M->(j<=i↔fl j<=x)) \/
 (d=1/\-(M:Int)<i/\i<=M/\∀ j:Int,-(M:Int)<j->j<M->(i<=j↔x<=fl j))
theorem Rnd.neg{d:Int}{x:Rat}{i:Int}(h:Rnd d x i):Rnd (-d) (-x) (-i):=by
 rcases h with ⟨rfl,h1,h2,h3⟩ | ⟨rfl,h1,h2,h3⟩
 ·refine .inr ⟨rfl,by omega,by omega,fun j hj hj'=>?_⟩;have:=h3 (-j) (by omega) (by omega);rw [fl_neg] at this
  constructor
  ·intro h;have:=this.1 (by omega);grind
  ·intro h;have:=this.2 (by grind);omega
 ·refine .inl ⟨rfl,by omega,by omega,fun j hj hj'=>?_⟩;have:=h3 (-j) (by omega) (by omega);rw [fl_neg] at this
  constructor
  ·intro h;have:=this.1 (by omega);grind
  ·intro h;have:=this.2 (by grind);omega
theorem Rnd.exact{d a i:Int}(h:Rnd d (fl a) i)(h0:-(M:Int)<a)(h1:a<M):i=a:=by
 rcases h with ⟨rfl,a1,a2,a3⟩ | ⟨rfl,a1,a2,a3⟩
 ·have h2:=(a3 a h0 h1).2 Rat.le_refl
  by_cases hc:i=a
  ·exact hc
  ·have:=(a3 i (by omega) a2).1 (by omega);rw [fl_le_iff] at this;omega
 ·have h2:=(a3 a h0 h1).2 Rat.le_refl
  by_cases hc:i=a
  ·exact hc
  ·have:=(a3 i a1 (by omega)).1 (by omega);rw [fl_le_iff] at this;omega
theorem rnd_zero{d:Int}(hd:d=-1\/d=1):Rnd d 0 0:=by
 rw [<- fl_zero]
 rcases hd with rfl | rfl
 ·exact .inl ⟨rfl,by rw [M_val];omega,by rw [M_val];omega,fun j _ _=>fl_le_iff.symm⟩
 ·exact .inr ⟨rfl,by rw [M_val];omega,by rw [M_val];omega,fun j _ _=>fl_le_iff.symm⟩
theorem rnd_down{n m t U:Nat}(hU:U=1074)(hn:0<n)(hm:0<m)(ht:t<M)(h:∀ r:Nat,r<M->(r<=t↔mag r*m<=n*2^U)):Rnd (-1) (rv false n m) t:=by
 refine .inl ⟨rfl,by omega,by omega,fun j hj hj'=>?_⟩
 rcases Int.lt_or_le j 0 with h0 | h0
 ·have h1:fl j<fl 0:=fl_lt_iff.2 h0;rw [fl_zero] at h1;have h2:=rv_pos hn hm
  constructor
  ·intro _;grind
  ·intro _;omega
 ·obtain⟨r,rfl⟩:∃ r:Nat,j=r:=⟨j.toNat,by omega⟩
  rw [fl_nat r hU,rv_le_false (Nat.two_pow_pos U) hm,<- h r (by omega)]
  omega
theorem rnd_up{n m t U:Nat}(hU:U=1074)(hn:0<n)(hm:0<m)(ht:t<=M)(h:∀ r:Nat,r<M->(t<=r↔n*2^U<=mag r*m)):Rnd 1 (rv false n m) t:=by
 have hp:0<n*2^U:=Nat.mul_pos hn (Nat.two_pow_pos U)
 have h0:0<t:=by
  have h1:=h 0 (by rw [M_val];omega);rw [mag_zero,Nat.zero_mul] at h1
  omega
 refine .inr ⟨rfl,by omega,by omega,fun j hj hj'=>?_⟩
 rcases Int.lt_or_le j 0 with h0 | h0
 ·have h1:fl j<fl 0:=fl_lt_iff.2 h0;rw [fl_zero] at h1;have h2:=rv_pos hn hm
  constructor
  ·intro _;omega
  ·intro _;grind
 ·obtain⟨r,rfl⟩:∃ r:Nat,j=r:=⟨j.toNat,by omega⟩
  rw [fl_nat r hU,rv_le_false hm (Nat.two_pow_pos U),<- h r (by omega)]
  omega
def sg(neg:Bool)(t:Nat):Int:=if neg then -(t:Int) else (t:Int)
def ansT(p q:Nat)(f:Int)(away:Bool):Nat:=if 1023<f then (if away then M else M - 1) else (if away then capT p q (lastBit f) else cutT p q (lastBit f))
theorem rnd_ans{p q:Nat}{f d:Int}{neg:Bool}(hp:0<p)(hq:0<q)(h:Sc p q f)(hd:d=-1\/d=1):Rnd d (rv neg p q) (sg neg (ansT p q f (decide (d=1) != neg))):=by
 obtain⟨U,hU⟩:∃ U,U=1074:=⟨_,rfl⟩
 have up:Rnd 1 (rv false p q) (ansT p q f true):=by
  unfold ansT
  by_cases hf:1023<f
  ·rw [if_pos hf,if_pos rfl];refine rnd_up hU hp hq (Nat.le_refl _) fun r hr=>?_;have:=over_law hU hq h hf r hr
   omega
  ·rw [if_neg hf,if_pos rfl]
   exact rnd_up hU hp hq (cap_le hq h (by omega)) fun r _=>cap_law hU hq h (by omega) r
 have down:Rnd (-1) (rv false p q) (ansT p q f false):=by
  unfold ansT
  by_cases hf:1023<f
  ·rw [if_pos hf,if_neg (by decide)];refine rnd_down hU hp hq (by rw [M_val];omega) fun r hr=>?_;have:=over_law hU hq h hf r hr
   omega
  ·rw [if_neg hf,if_neg (by decide)]
   exact rnd_down hU hp hq (cut_lt hq h (by omega)) fun r _=>cut_law hU hq h (by omega) r
 rcases hd with rfl | rfl<;>cases neg
 ·exact down
 ·have:=up.neg;rw [<- rv_true] at this
  exact this
 ·exact up
 ·have:=down.neg;rw [<- rv_true] at this
  exact this
end
section
open Go.RowKit
end
section
open Go.RowKit
end
section
open Go.RowKit
end
section
open Go.RowKit
def es(i:Int):Int:=if i=M then 1 else if i=-(M:Int) then -1 else 0
def ex(i:Int):Rat:=if es i=0 then fl i else 0
theorem es_max:es M=1:=rfl
theorem es_min:es (-(M:Int))=-1:=by decide
theorem es_mid{i:Int}(h:-(M:Int)<i)(h':i<M):es i=0:=by unfold es;rw [if_neg (by omega),if_neg (by omega)]
theorem ex_mid{i:Int}(h:-(M:Int)<i)(h':i<M):ex i=fl i:=by unfold ex;rw [es_mid h h'];rfl
end
section
open Go.RowKit
def ec(s:Int)(x:Rat)(t:Int)(y:Rat):Int:=if s=t then (if s=0 then rc x y else 0) else if s<t then -1 else 1
theorem ec_lt{s t:Int}(x y:Rat)(h:s<t):ec s x t y=-1:=by unfold ec;rw [if_neg (by omega),if_pos h]
theorem ec_gt{s t:Int}(x y:Rat)(h:t<s):ec s x t y=1:=by unfold ec;rw [if_neg (by omega),if_neg (by omega)]
theorem ec_inf{s t:Int}(x y:Rat)(h:s=t)(h0:s≠0):ec s x t y=0:=by unfold ec;rw [if_pos h,if_neg h0]
theorem ec_zero(x y:Rat):ec 0 x 0 y=rc x y:=by unfold ec;rw [if_pos rfl,if_pos rfl]
end
end Go.Proofs.YthlmlmfebpjgdaaGreatDoor
