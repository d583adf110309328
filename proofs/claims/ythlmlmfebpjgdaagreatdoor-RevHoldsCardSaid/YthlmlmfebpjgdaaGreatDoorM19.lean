/-
Walks: package rev, read of however many intervals that lie one behind the other.
Walks: package rev, positive.
Walks: package vergelaw10, in and out; package rev, mirror.
-/
import Derived.Test.YthlmlmfebpjgdaaGreatDoorM03
import Derived.Test.YthlmlmfebpjgdaaGreatDoorPCut2T
import Derived.Deep.DeepCutAuto
import Derived.Deep.RegionHeld3
import Derived.Deep.CutBlock
import Derived.Test.YthlmlmfebpjgdaaGreatDoorPGoA
set_option linter.unusedSimpArgs false
set_option linter.unusedVariables false
set_option maxHeartbeats 12800000
namespace Go.Proofs.YthlmlmfebpjgdaaGreatDoor
open Go.RowKit
attribute [local go_sem] run_store_float run_eqf
def anyB(f:Nat→Bool):Nat→Bool
 | 0=>false
 | n+1=>anyB f n || f n
structure KeepN (G n:Nat) (w w':World):Prop where
 os:w'.os=w.os
 tape:w'.tape=w.tape
 output:w'.output=w.output
 size:w.heap.size≤w'.heap.size
 block:∀ k,k<w.heap.size→(k<G∨G+n≤k)→w'.heap[k]?=w.heap[k]?
theorem KeepN.refl(G n:Nat)(w:World):KeepN G n w w:=⟨rfl,rfl,rfl,Nat.le_refl _,fun _ _ _=>rfl⟩
theorem KeepN.below{G n:Nat}{w w1 w2:World}(h:KeepN G n w w1)(hb:Below w1.heap.size w1 w2):KeepN G n w w2:=
 ⟨hb.os.trans h.os,hb.tape.trans h.tape,hb.output.trans h.output,Nat.le_trans h.size hb.size,fun k hk a=>(hb.block k (Nat.lt_of_lt_of_le hk h.size)).trans (h.block k hk a)⟩
theorem KeepN.drew{G n:Nat}{w w1:World}(h:KeepN G n w w1):KeepN G n w w1.drew:=⟨h.os,h.tape,h.output,h.size,h.block⟩
theorem KeepN.set{G n t:Nat}{w w1:World}(h:KeepN G n w w1)(ht:t<n)(a b:Value):KeepN G n w ((w1.setCell ⟨G+t,0,none⟩ a).setCell ⟨G+t,1,none⟩ b):=
 ⟨h.os,h.tape,h.output,by have:=size_sets (r:=G+t) [a,b] 0 w1;have:=h.size;show w.heap.size≤(sets w1 (G+t) 0 [a,b]).heap.size;omega,
  fun k hk x=>(heap_sets (r:=G+t) (k:=k) (by omega) [a,b] 0 w1).trans (h.block k hk x)⟩
theorem KeepN.cell{G n:Nat}{w w1:World}(h:KeepN G n w w1){ad:Addr}{v:Value}(hc:w.cell? ad=some v)(h0:ad.block<G∨G+n≤ad.block):w1.cell? ad=some v:=by
 have hlt:ad.block<w.heap.size:=by
  unfold World.cell? at hc
  split at hc
  ·rename_i e
   exact (Array.getElem?_eq_some_iff.1 e).1
  ·cases hc
 rw [World.cell?_of_block (w:=w)]
 ·exact hc
 ·exact h.block _ hlt h0
theorem KeepN.toBl{G n B:Nat}{w0 w w':World}(h:KeepN G n w w')(hb:Below B w0 w)(hB:B≤w.heap.size)(h0:B≤G):Below B w0 w':=
 ⟨h.os.trans hb.os,h.tape.trans hb.tape,h.output.trans hb.output,Nat.le_trans hb.size h.size,fun k hk=>(h.block k (by omega) (by omega)).trans (hb.block k hk)⟩
theorem KeepN.hasBk{G n r m:Nat}{t:TypeId}{w w':World}(h:KeepN G n w w')(hr:HasBlk w r t m)(h0:r<G∨G+n≤r):HasBlk w' r t m:=by
 obtain⟨cs,a,b⟩:=hr
 exact⟨cs,(h.block r a.lt h0).trans a,b⟩
theorem read_n(G n gl cap:Nat)(xs ps:Nat→Nat × Nat)(em:Nat→Bool)(w:World)(hn:n≤100)(hgl:G+n≤gl)
  (hc:∀ k:Nat,k<n→w.cell? ⟨gl,k,none⟩=some (.pointer (some ⟨G+k,0,none⟩)))(hb:∀ k:Nat,k<n→Bx w (G+k) (xs k).1 (xs k).2)
  (hr:∀ k:Nat,k<n→∀ W,Calls Tryz.prog 102 #[.agg #[.float .f64 (xs k).1,.float .f64 (xs k).2]] W fun e w'=>e=.returned (.agg #[.float .f64 (ps k).1,.float .f64 (ps k).2])∧Below W.heap.size W w')
  (he:∀ k:Nat,k<n→Em (em k) (ps k).1 (ps k).2):
  Calls Tryz.prog 75 #[.slice (some ⟨gl,0,none⟩) n cap] w fun e w'=>e=.returned (.bool (anyB em n))∧(∀ k:Nat,k<n→Bx w' (G+k) (ps k).1 (ps k).2)∧KeepN G n w w':=by
 have HC:=Hd hc;have HB:=Hd hb;have HR:=Hd hr;have HE:=Hd he;have HEM:=Hd emptyf;clear hc hb hr he
 go_enter Tryz.func75,Tryz.ntmps75
 go_wp2
 go_loopw [3,5,8] (fun nv _ iv wr=>∃ k:Nat,iv=.int .i64 k∧nv=.bool (anyB em k)∧k≤n∧(∀ t:Nat,t<k→Bx wr (G+t) (ps t).1 (ps t).2)∧(∀ t:Nat,k≤t→t<n→Bx wr (G+t) (xs t).1 (xs t).2)∧KeepN G n w wr) (fun _ _ iv _=>n - (intOf iv).toNat)
 case atStart=>exact⟨0,rfl,rfl,Nat.zero_le _,fun t h=>absurd h (by omega),fun t _ h=>HB.out t h,KeepN.refl _ _ _⟩
 case round=>
  obtain⟨k,rfl,rfl,hk,hd,hl,hkp⟩:=hrel;have HD:=Hd hd;have HL:=Hd hl;have HK:=Hd hkp;clear hd hl hkp
  by_cases hlt:k<n
  ·have hc:=HK.out.cell (HC.out k hlt) (.inr hgl);have hbx:=HL.out k (Nat.le_refl _) hlt;have hem:=HE.out k hlt;have hrd:=HR.out k hlt;have hS:anyB em (k+1)=(anyB em k || em k):=rfl
   obtain⟨p,hp⟩:∃ p,(ps k).1=p:=⟨_,rfl⟩
   obtain⟨q,hq⟩:∃ p,(ps k).2=p:=⟨_,rfl⟩
   obtain⟨x,hx⟩:∃ p,(xs k).1=p:=⟨_,rfl⟩
   obtain⟨y,hy⟩:∃ p,(xs k).2=p:=⟨_,rfl⟩
   rw [hp,hq] at hem hrd;rw [hx,hy] at hrd hbx
   obtain⟨na,hna⟩:∃ b,anyB em k=b:=⟨_,rfl⟩
   obtain⟨ea,hea⟩:∃ b,em k=b:=⟨_,rfl⟩
   rw [hna,hea] at hS;rw [hea] at hem;rw [hna];have HRD:=Hd hrd;have HMM:=Hd hem;have HP:=Hd hp;have HQ:=Hd hq;have HS:=Hd hS;clear hem hrd hp hq hx hy hna hea hS;have q0:_=some (.float .f64 x:Value):=Blk.cell hbx 0;have q1:_=some (.float .f64 y:Value):=Blk.cell hbx 1;go_wp2_with fail;refine (HRD.out _).mono ?_;rintro e w1 ⟨rfl,hb1⟩;have hb2:=Bx.keep hbx hb1;have HD1:=Hd fun t h=>(HD.out t h).keep hb1;have HL1:=Hd fun t h h'=>(HL.out t h h').keep hb1;have HK1:=Hd (HK.out.below hb1);clear hb1 q0 q1 HRD HD HL HK hc hbx;have q0:_=some (.float .f64 x:Value):=Blk.cell hb2 0;have q1:_=some (.float .f64 y:Value):=Blk.cell hb2 1;have f0:=Blk.frozen hb2 0;have f1:=Blk.frozen hb2 1;have HB2:=Hd (hb2.set p q)
   go_upto_region 6 with fail
   have HS6:=Hd (show (∀ t:Nat,t<k+1→Bx ((w1.setCell ⟨G+k,0,none⟩ (.float .f64 p)).setCell ⟨G+k,1,none⟩ (.float .f64 q)) (G+t) (ps t).1 (ps t).2)∧(∀ t:Nat,k+1≤t→t<n→Bx ((w1.setCell ⟨G+k,0,none⟩ (.float .f64 p)).setCell ⟨G+k,1,none⟩ (.float .f64 q)) (G+t) (xs t).1 (xs t).2)∧KeepN G n w ((w1.setCell ⟨G+k,0,none⟩ (.float .f64 p)).setCell ⟨G+k,1,none⟩ (.float .f64 q)) from
    ⟨fun t h=>by
      by_cases e:t=k
      ·subst e;rw [HP.out,HQ.out];exact HB2.out
      ·exact (HD1.out t (by omega)).far (by omega) _ _,fun t h h'=>(HL1.out t (by omega) h').far (by omega) _ _,HK1.out.set hlt _ _⟩)
   obtain⟨W2,hW2⟩:∃ W,(w1.setCell ⟨G+k,0,none⟩ (.float .f64 p)).setCell ⟨G+k,1,none⟩ (.float .f64 q)=W:=⟨_,rfl⟩
   rw [hW2] at HS6 ⊢;clear hW2 q0 q1 f0 f1 hb2 HB2 HD1 HL1 HK1
   cases na
   ·obtain⟨hm1,hm2⟩:=HMM.out;clear HMM
    cases ea
    ·have m1:=hm2 rfl;clear hm1 hm2;refine wp_region_held_drew (S:=fun W'=>(∀ t:Nat,t<k+1→Bx W' (G+t) (ps t).1 (ps t).2)∧(∀ t:Nat,k+1≤t→t<n→Bx W' (G+t) (xs t).1 (xs t).2)∧KeepN G n w W') (by kernel_rfl) (by exact⟨fun t h=>HS6.out.1 t h,fun t h h2=>HS6.out.2.1 t h h2,HS6.out.2.2.drew⟩) (fun hHeld=>?_);refine tk 0 ?_;(try simp only [Act.put,lay]);refine tk 1 ?_;(try simp only [Act.put,lay]);refine tk 2 ?_;(try simp only [Act.put,lay]);refine tk 3 ?_;(try simp only [Act.put,lay]);refine tk 4 ?_ (hv:=by intro W2 hSw;have hbx:=hSw.1 k (by omega);rw [HP.out,HQ.out] at hbx;have q0:_=some (.float .f64 p:Value):=Blk.cell hbx 0;have q1:_=some (.float .f64 q:Value):=Blk.cell hbx 1;go_simp;(try with_reducible rfl));(try simp only [Act.put,lay]);refine rdy 5 (fun KK hKK=>?_);go_simp;refine (HEM.out _).mono ?_;rintro e w3 ⟨rfl,hbE⟩;go_wp2_with fail;refine hKK.out _ _ (⟨fun t h=>(hHeld.1 t h).keep hbE,fun t h h2=>(hHeld.2.1 t h h2).keep hbE,hHeld.2.2.below hbE⟩) (fun _=>?_);clear hKK KK hHeld;rename_i hHeld;(try simp only [Act.put,lay]);refine tk 6 ?_;(try simp only [Act.put,lay]);refine tk 7 ?_;(try simp only [Act.put,lay]);refine tk 8 ?_;(try simp only [Act.put,lay]);refine wpAnyH_done (by kernel_rfl) ?_ _;go_wp2
     go_roundw
     case rel=>exact⟨k+1,by go_num,by rw [HS.out];rfl,by omega,hHeld.1,hHeld.2.1,hHeld.2.2⟩
     case measure=>simp [intOf];omega
    ·obtain⟨m1,m2⟩:=hm1 rfl;clear hm1 hm2;refine wp_region_held_drew (S:=fun W'=>(∀ t:Nat,t<k+1→Bx W' (G+t) (ps t).1 (ps t).2)∧(∀ t:Nat,k+1≤t→t<n→Bx W' (G+t) (xs t).1 (xs t).2)∧KeepN G n w W') (by kernel_rfl) (by exact⟨fun t h=>HS6.out.1 t h,fun t h h2=>HS6.out.2.1 t h h2,HS6.out.2.2.drew⟩) (fun hHeld=>?_);refine tk 0 ?_;(try simp only [Act.put,lay]);refine tk 1 ?_;(try simp only [Act.put,lay]);refine tk 2 ?_;(try simp only [Act.put,lay]);refine tk 3 ?_;(try simp only [Act.put,lay]);refine tk 4 ?_ (hv:=by intro W2 hSw;have hbx:=hSw.1 k (by omega);rw [HP.out,HQ.out] at hbx;have q0:_=some (.float .f64 p:Value):=Blk.cell hbx 0;have q1:_=some (.float .f64 q:Value):=Blk.cell hbx 1;go_simp;(try with_reducible rfl));(try simp only [Act.put,lay]);refine rdy 5 (fun KK hKK=>?_);go_simp;refine (HEM.out _).mono ?_;rintro e w3 ⟨rfl,hbE⟩;go_wp2_with fail;refine hKK.out _ _ (⟨fun t h=>(hHeld.1 t h).keep hbE,fun t h h2=>(hHeld.2.1 t h h2).keep hbE,hHeld.2.2.below hbE⟩) (fun _=>?_);clear hKK KK hHeld;rename_i hHeld;(try simp only [Act.put,lay]);refine tk 6 ?_;(try simp only [Act.put,lay]);refine tk 7 ?_;(try simp only [Act.put,lay]);refine tk 8 ?_;(try simp only [Act.put,lay]);refine wpAnyH_done (by kernel_rfl) ?_ _;go_wp2
     go_roundw
     case rel=>exact⟨k+1,by go_num,by rw [HS.out];rfl,by omega,hHeld.1,hHeld.2.1,hHeld.2.2⟩
     case measure=>simp [intOf];omega
   ·skip;refine wp_region_held_drew (S:=fun W'=>(∀ t:Nat,t<k+1→Bx W' (G+t) (ps t).1 (ps t).2)∧(∀ t:Nat,k+1≤t→t<n→Bx W' (G+t) (xs t).1 (xs t).2)∧KeepN G n w W') (by kernel_rfl) (by exact⟨fun t h=>HS6.out.1 t h,fun t h h2=>HS6.out.2.1 t h h2,HS6.out.2.2.drew⟩) (fun hHeld=>?_);refine tk 0 ?_;(try simp only [Act.put,lay]);refine tk 1 ?_;(try simp only [Act.put,lay]);refine tkn 2 ?_;(try simp only [Act.put,lay]);refine tkn 3 ?_;(try simp only [Act.put,lay]);refine tkn 4 ?_;(try simp only [Act.put,lay]);refine tkn 5 ?_;(try simp only [Act.put,lay]);refine tkn 6 ?_;(try simp only [Act.put,lay]);refine tk 7 ?_;(try simp only [Act.put,lay]);refine tk 8 ?_;(try simp only [Act.put,lay]);refine wpAnyH_done (by kernel_rfl) ?_ _;go_wp2
    go_roundw
    case rel=>exact⟨k+1,by go_num,by rw [HS.out];rfl,by omega,hHeld.1,hHeld.2.1,hHeld.2.2⟩
    case measure=>simp [intOf];omega
  ·obtain rfl:k=n:=by omega
   go_wp2
   go_ret
   exact⟨rfl,HD.out,HK.out⟩
end Go.Proofs.YthlmlmfebpjgdaaGreatDoor
namespace Go.Proofs.YthlmlmfebpjgdaaGreatDoor
open Go.RowKit
attribute [local go_sem] run_store_float run_eqf
theorem NoWd.floats(a b:Nat):NoWd #[.float .f64 a,.float .f64 b]:=NoWd.of (by rw [← Array.all_toList];rfl)
theorem ExI.sets{w:World}{s:Int}{g:Bool}{A:Option Addr}{n c:Nat}{E:Int}{x:Rat}(h:ExI w s g A n c E x){r:Nat}{t:TypeId}{a b:Nat}(hb:Blk w r t #[.float .f64 a,.float .f64 b])(i:Nat)(vs:List Value):ExI (Proofs.YthlmlmfebpjgdaaGreatDoor.sets w r i vs) s g A n c E x:=
 h.keep fun _ hu=>hu.sets hb (NoWd.floats a b) i vs
theorem positive_none(b1 b2:Nat)(s1:Int)(g1:Bool)(A1:Option Addr)(n1 c1:Nat)(E1:Int)(s2:Int)(g2:Bool)(A2:Option Addr)(n2 c2:Nat)(E2:Int)(i j:Nat)(w:World)(o1:FloatKind.f64.format.order b2 0=some .lt∨FloatKind.f64.format.order b2 0=some .eq):
  Calls Tryz.prog 101 #[.agg #[.float .f64 b1,.float .f64 b2],.agg #[.int .i64 s1,.bool g1,.slice A1 n1 c1,.int .i64 E1],.agg #[.int .i64 s2,.bool g2,.slice A2 n2 c2,.int .i64 E2],.agg #[.float .f64 i,.float .f64 j]] w fun e w'=>e=.returned (.agg #[.float .f64 9218868437227405312,.float .f64 18442240474082181120])∧Below w.heap.size w w':=by
 have HE:=Hd emptyf
 rcases o1 with o1 | o1
 all_goals
  obtain⟨LB0,LG0_0,LG1_0,LG2_0,LG3_0,LR⟩:=bx5 w #[.float .f64 b1,.float .f64 b2] 28 #[.int .i64 s1,.bool g1,.slice A1 n1 c1,.int .i64 E1] 97 #[.int .i64 s2,.bool g2,.slice A2 n2 c2,.int .i64 E2] 97 #[.float .f64 i,.float .f64 j] 28 #[.float .f64 0,.float .f64 0] 28;have LR0:=Hd (HasBlk.of (n:=2) LR.out rfl rfl);clear LR
  go_enter Tryz.func101,Tryz.ntmps101
  obtain⟨q0_0,q0_1⟩:=LG0_0.out.c2;go_wp2_with fail;refine (HE.out _).mono ?_;rintro e w1 ⟨rfl,hb1⟩;have LB1:=stB LB0 hb1 LB0.out.size;have LR1:=stR LR0 hb1;have LG0_1:=stG LG0_0 hb1;have LG1_1:=stG LG1_0 hb1;have LG2_1:=stG LG2_0 hb1;have LG3_1:=stG LG3_0 hb1;clear LB0 LR0 LG0_0 LG1_0 LG2_0 LG3_0;clear hb1 HE q0_0 q0_1;obtain⟨ha0,hf0,ha1,hf1⟩:=LR1.out.sf2;obtain⟨hk0,hk1⟩:=LR1.out.sc2 (.float .f64 9218868437227405312) (.float .f64 18442240474082181120);have F:=Hd (below_sets (w0:=w) (r:=(w.heap.size+4)) (by omega) [.float .f64 9218868437227405312,.float .f64 18442240474082181120] 0 _ LB1.out)
  simp [sets] at hk0 hk1
  go_wp2;refine bodyPost_ret (v:=.agg #[.float .f64 9218868437227405312,.float .f64 18442240474082181120]) (by simp [results,Tryz.results101,go_sem,hk0,hk1]) rfl ?_
  exact⟨rfl,F.out⟩
theorem positive_walk(b1 b2:Nat)(s1:Int)(g1:Bool)(A1:Option Addr)(n1 c1:Nat)(E1:Int)(s2:Int)(g2:Bool)(A2:Option Addr)(n2 c2:Nat)(E2:Int)(i j:Nat)(x1 x2:Rat)(F P1 P2 Q1 Q2 r1 r2:Nat)(sg1 sg2:Int)(cP cQ f op:Bool)(w:World)(o1:FloatKind.f64.format.order b2 0=some .gt)
  (m1:∀ W ts t,(Builtin.max_ ts t #[.float .f64 b1,.float .f64 0]).run Tryz.prog W=.ok (.float .f64 F) W)(of:(FloatKind.f64.format.order F 0 == some Ordering.gt)=f)
  (S1:∀ W,Calls Tryz.prog 158 #[.agg #[.int .i64 s1,.bool g1,.slice A1 n1 c1,.int .i64 E1]] W fun e w'=>e=.returned (.int .i64 sg1)∧Below W.heap.size W w')(S2:∀ W,Calls Tryz.prog 158 #[.agg #[.int .i64 s2,.bool g2,.slice A2 n2 c2,.int .i64 E2]] W fun e w'=>e=.returned (.int .i64 sg2)∧Below W.heap.size W w')
  (z1:decide (0≤sg1)=cP)(z2:decide (sg2≤0)=cQ)(z3:(decide (0<sg1) || decide (sg2<0))=op)(h1:ExI w s1 g1 A1 n1 c1 E1 x1)(h2:ExI w s2 g2 A2 n2 c2 E2 x2)
  (P:(cP=true→∀ W,ExI W s1 g1 A1 n1 c1 E1 x1→Calls Tryz.prog 157 #[.agg #[.int .i64 s1,.bool g1,.slice A1 n1 c1,.int .i64 E1],.float .f64 b2] W fun e w'=>e=.returned (.agg #[.float .f64 P1,.float .f64 P2])∧Below W.heap.size W w')∧(cP=false→f=true→∀ W,ExI W s1 g1 A1 n1 c1 E1 x1→Calls Tryz.prog 157 #[.agg #[.int .i64 s1,.bool g1,.slice A1 n1 c1,.int .i64 E1],.float .f64 F] W fun e w'=>e=.returned (.agg #[.float .f64 P1,.float .f64 P2])∧Below W.heap.size W w')∧(cP=false→f=false→P1=18442240474082181120∧P2=18442240474082181120))
  (Q:(cQ=true→∀ W,ExI W s2 g2 A2 n2 c2 E2 x2→Calls Tryz.prog 157 #[.agg #[.int .i64 s2,.bool g2,.slice A2 n2 c2,.int .i64 E2],.float .f64 b2] W fun e w'=>e=.returned (.agg #[.float .f64 Q1,.float .f64 Q2])∧Below W.heap.size W w')∧(cQ=false→f=true→∀ W,ExI W s2 g2 A2 n2 c2 E2 x2→Calls Tryz.prog 157 #[.agg #[.int .i64 s2,.bool g2,.slice A2 n2 c2,.int .i64 E2],.float .f64 F] W fun e w'=>e=.returned (.agg #[.float .f64 Q1,.float .f64 Q2])∧Below W.heap.size W w')∧(cQ=false→f=false→Q1=9218868437227405312∧Q2=9218868437227405312))
  (C:∀ W,Calls Tryz.prog 77 #[.agg #[.float .f64 i,.float .f64 j],.agg #[.float .f64 P1,.float .f64 P2],.agg #[.float .f64 Q1,.float .f64 Q2],.bool op] W fun e w'=>e=.returned (.agg #[.float .f64 r1,.float .f64 r2])∧Below W.heap.size W w'):
  Calls Tryz.prog 101 #[.agg #[.float .f64 b1,.float .f64 b2],.agg #[.int .i64 s1,.bool g1,.slice A1 n1 c1,.int .i64 E1],.agg #[.int .i64 s2,.bool g2,.slice A2 n2 c2,.int .i64 E2],.agg #[.float .f64 i,.float .f64 j]] w fun e w'=>e=.returned (.agg #[.float .f64 r1,.float .f64 r2])∧Below w.heap.size w w':=by
 have HM:=Hd m1;have HOF:=Hd of;have HS1:=Hd S1;have HS2:=Hd S2;have HZ1:=Hd z1;have HZ2:=Hd z2;have HZ3:=Hd z3;have HP:=Hd P;have HQ:=Hd Q;have HC:=Hd C;have HI1:=Hd fun W=>inf_neg W;have HI2:=Hd fun W=>inf_pos W;have HA1:=Hd fun W=>at_any 18442240474082181120 W;have HA2:=Hd fun W=>at_any 9218868437227405312 W;have X0:=Hd h1;have Y0:=Hd h2;clear m1 of S1 S2 z1 z2 z3 P Q C h1 h2;obtain⟨LB0,LG0_0,LG1_0,LG2_0,LG3_0,LR⟩:=bx5 w #[.float .f64 b1,.float .f64 b2] 28 #[.int .i64 s1,.bool g1,.slice A1 n1 c1,.int .i64 E1] 97 #[.int .i64 s2,.bool g2,.slice A2 n2 c2,.int .i64 E2] 97 #[.float .f64 i,.float .f64 j] 28 #[.float .f64 0,.float .f64 0] 28;have LR0:=Hd (HasBlk.of (n:=2) LR.out rfl rfl);clear LR;have X1:=Hd (X0.out.below LB0.out);have Y1:=Hd (Y0.out.below LB0.out);clear X0 Y0
 go_enter Tryz.func101,Tryz.ntmps101
 obtain⟨q0_0,q0_1⟩:=LG0_0.out.c2;have m1:=HM.out
 go_upto_region 3 with fail
 clear q0_0 q0_1;refine wp_region_held_drew (S:=fun W'=>Blk W' w.heap.size 28 #[.float .f64 b1,.float .f64 b2]∧Blk W' (w.heap.size+1) 97 #[.int .i64 s1,.bool g1,.slice A1 n1 c1,.int .i64 E1]∧Blk W' (w.heap.size+2) 97 #[.int .i64 s2,.bool g2,.slice A2 n2 c2,.int .i64 E2]∧Blk W' (w.heap.size+3) 28 #[.float .f64 i,.float .f64 j]∧HasBlk W' (w.heap.size+4) 28 2∧Below w.heap.size w W') (by kernel_rfl) (by exact⟨LG0_0.out.drew,LG1_0.out.drew,LG2_0.out.drew,LG3_0.out.drew,LR0.out.drew,LB0.out.drew⟩) (fun hHeld=>?_);refine tk 0 ?_;(try simp only [Act.put,lay]);refine tk 1 ?_ (hv:=by intro W2 hSw;obtain⟨q0,q1⟩:=hSw.1.c2;go_simp;(try with_reducible rfl));(try simp only [Act.put,lay]);refine tk 3 ?_;(try simp only [Act.put,lay]);refine tk 4 ?_ (hv:=by intro W2 hSw;obtain⟨q0,q1⟩:=hSw.1.c2;go_simp;(try with_reducible rfl));(try simp only [Act.put,lay]);refine rdy 2 (fun KK hKK=>?_);go_simp;refine hKK.out _ _ hHeld (fun _=>?_);clear hKK KK hHeld;rename_i hHeld;(try simp only [Act.put,lay]);refine tk 5 ?_;(try simp only [Act.put,lay]);refine tk 6 ?_;(try simp only [Act.put,lay]);refine wpAnyH_done (by kernel_rfl) ?_ _;clear m1 HM o1;have LB1:=Hd hHeld.2.2.2.2.2;have LR1:=Hd hHeld.2.2.2.2.1;have LG0_1:=Hd hHeld.1;have LG1_1:=Hd hHeld.2.1;have LG2_1:=Hd hHeld.2.2.1;have LG3_1:=Hd hHeld.2.2.2.1;have X2:=Hd (X1.out.keep fun _ h=>h.drew);have Y2:=Hd (Y1.out.keep fun _ h=>h.drew);clear hHeld LB0 LR0 LG0_0 LG1_0 LG2_0 LG3_0 X1 Y1
 obtain⟨W1,hW1⟩:∃ X,((((((w.alloc (.cells #[.float .f64 b1,.float .f64 b2] 28)).alloc (.cells #[.int .i64 s1,.bool g1,.slice A1 n1 c1,.int .i64 E1] 97)).alloc (.cells #[.int .i64 s2,.bool g2,.slice A2 n2 c2,.int .i64 E2] 97)).alloc (.cells #[.float .f64 i,.float .f64 j] 28)).alloc (.cells #[.float .f64 0,.float .f64 0] 28))).drew=X:=⟨_,rfl⟩
 rw [hW1] at LB1 LR1 LG0_1 LG1_1 LG2_1 LG3_1 X2 Y2 ⊢;clear hW1;go_wp2_with fail;refine (HI1.out _).mono ?_;rintro e w' ⟨rfl,rfl⟩;clear HI1;go_wp2_with fail;refine (HA1.out _).mono ?_;rintro e w2 ⟨rfl,hb2⟩;have LB2:=stB LB1 hb2 LB1.out.size;have LR2:=stR LR1 hb2;have LG0_2:=stG LG0_1 hb2;have LG1_2:=stG LG1_1 hb2;have LG2_2:=stG LG2_1 hb2;have LG3_2:=stG LG3_1 hb2;clear LB1 LR1 LG0_1 LG1_1 LG2_1 LG3_1;have X3:=Hd (X2.out.below hb2);have Y3:=Hd (Y2.out.below hb2);clear hb2 HA1 X2 Y2;go_wp2_with fail;refine (HI2.out _).mono ?_;rintro e w' ⟨rfl,rfl⟩;clear HI2;go_wp2_with fail;refine (HA2.out _).mono ?_;rintro e w3 ⟨rfl,hb3⟩;have LB3:=stB LB2 hb3 LB2.out.size;have LR3:=stR LR2 hb3;have LG0_3:=stG LG0_2 hb3;have LG1_3:=stG LG1_2 hb3;have LG2_3:=stG LG2_2 hb3;have LG3_3:=stG LG3_2 hb3;clear LB2 LR2 LG0_2 LG1_2 LG2_2 LG3_2;have X4:=Hd (X3.out.below hb3);have Y4:=Hd (Y3.out.below hb3);clear hb3 HA2 X3 Y3
 go_upto_block 0 with fail
 have hlt:=LR3.out.lt;have LB4:=Hd ((LB3.out.alloc LB3.out.size (.cells #[.float .f64 18442240474082181120,.float .f64 18442240474082181120] 78)).alloc (by have:=LB3.out.size;simp;omega) (.cells #[.float .f64 9218868437227405312,.float .f64 9218868437227405312] 78));have LR4:=Hd ((LR3.out.alloc (.cells #[.float .f64 18442240474082181120,.float .f64 18442240474082181120] 78)).alloc (.cells #[.float .f64 9218868437227405312,.float .f64 9218868437227405312] 78));have LG0_4:=Hd ((LG0_3.out.alloc (.cells #[.float .f64 18442240474082181120,.float .f64 18442240474082181120] 78)).alloc (.cells #[.float .f64 9218868437227405312,.float .f64 9218868437227405312] 78));have LG1_4:=Hd ((LG1_3.out.alloc (.cells #[.float .f64 18442240474082181120,.float .f64 18442240474082181120] 78)).alloc (.cells #[.float .f64 9218868437227405312,.float .f64 9218868437227405312] 78));have LG2_4:=Hd ((LG2_3.out.alloc (.cells #[.float .f64 18442240474082181120,.float .f64 18442240474082181120] 78)).alloc (.cells #[.float .f64 9218868437227405312,.float .f64 9218868437227405312] 78));have LG3_4:=Hd ((LG3_3.out.alloc (.cells #[.float .f64 18442240474082181120,.float .f64 18442240474082181120] 78)).alloc (.cells #[.float .f64 9218868437227405312,.float .f64 9218868437227405312] 78));have LG4_4:=Hd ((Blk.new w3 78 #[.float .f64 18442240474082181120,.float .f64 18442240474082181120]).alloc (.cells #[.float .f64 9218868437227405312,.float .f64 9218868437227405312] 78));have LG5_4:=Hd (Blk.new2 w3 (.cells #[.float .f64 18442240474082181120,.float .f64 18442240474082181120] 78) 78 #[.float .f64 9218868437227405312,.float .f64 9218868437227405312])
 have X5:=Hd (X4.out.keep fun _ h=>(h.alloc (.cells #[.float .f64 18442240474082181120,.float .f64 18442240474082181120] 78)).alloc (.cells #[.float .f64 9218868437227405312,.float .f64 9218868437227405312] 78));have Y5:=Hd (Y4.out.keep fun _ h=>(h.alloc (.cells #[.float .f64 18442240474082181120,.float .f64 18442240474082181120] 78)).alloc (.cells #[.float .f64 9218868437227405312,.float .f64 9218868437227405312] 78));clear X4 Y4 LB3 LR3 LG0_3 LG1_3 LG2_3 LG3_3
 obtain⟨W4,hW4⟩:∃ W,(w3.alloc (.cells #[.float .f64 18442240474082181120,.float .f64 18442240474082181120] 78)).alloc (.cells #[.float .f64 9218868437227405312,.float .f64 9218868437227405312] 78)=W:=⟨_,rfl⟩
 rw [hW4] at LB4 LR4 LG0_4 LG1_4 LG2_4 LG3_4 LG4_4 LG5_4 X5 Y5 ⊢;clear hW4
 obtain⟨h,hg⟩:∃ g,w3.heap.size=g:=⟨_,rfl⟩
 rw [hg] at LG4_4 LG5_4 hlt ⊢;clear hg
 go_cut [11] (fun s11 wx=>s11=.pointer (some ⟨h,0,none⟩)∧Blk wx w.heap.size 28 #[.float .f64 b1,.float .f64 b2]∧Blk wx (w.heap.size+1) 97 #[.int .i64 s1,.bool g1,.slice A1 n1 c1,.int .i64 E1]∧Blk wx (w.heap.size+2) 97 #[.int .i64 s2,.bool g2,.slice A2 n2 c2,.int .i64 E2]∧Blk wx (w.heap.size+3) 28 #[.float .f64 i,.float .f64 j]∧Blk wx h 78 #[.float .f64 P1,.float .f64 P2]∧Blk wx (h+1) 78 #[.float .f64 9218868437227405312,.float .f64 9218868437227405312]∧HasBlk wx (w.heap.size+4) 28 2∧ExI wx s2 g2 A2 n2 c2 E2 x2∧Below w.heap.size w wx)
 case first=>
  rcases Bool.eq_false_or_eq_true cP with hc | hc
  ·skip;have K:=Hd (HP.out.1 hc);have z:=HZ1.out;rw [hc,decide_eq_true_eq] at z;obtain⟨q1_0,q1_1,q1_2,q1_3⟩:=LG1_4.out.c4;clear hc;go_wp2_with fail;refine (HS1.out _).mono ?_;rintro e wa ⟨rfl,hba⟩;have LB5:=stB LB4 hba LB4.out.size;have LR5:=stR LR4 hba;have LG0_5:=stG LG0_4 hba;have LG1_5:=stG LG1_4 hba;have LG2_5:=stG LG2_4 hba;have LG3_5:=stG LG3_4 hba;have LG4_5:=stG LG4_4 hba;have LG5_5:=stG LG5_4 hba;clear LB4 LR4 LG0_4 LG1_4 LG2_4 LG3_4 LG4_4 LG5_4;have X6:=Hd (X5.out.below hba);have Y6:=Hd (Y5.out.below hba);clear hba q1_0 q1_1 q1_2 q1_3;obtain⟨q1_0,q1_1,q1_2,q1_3⟩:=LG1_5.out.c4;go_wp2_with fail;refine (K.out _ X6.out).mono ?_;rintro e wb ⟨rfl,hbb⟩;have LB6:=stB LB5 hbb LB5.out.size;have LR6:=stR LR5 hbb;have LG0_6:=stG LG0_5 hbb;have LG1_6:=stG LG1_5 hbb;have LG2_6:=stG LG2_5 hbb;have LG3_6:=stG LG3_5 hbb;have LG4_6:=stG LG4_5 hbb;have LG5_6:=stG LG5_5 hbb;clear LB5 LR5 LG0_5 LG1_5 LG2_5 LG3_5 LG4_5 LG5_5;have Y7:=Hd (Y6.out.below hbb);clear hbb q1_0 q1_1 q1_2 q1_3;have f0:=LG4_6.out.frozen 0;have f1:=LG4_6.out.frozen 1;have q4_0:=LG4_6.out.ce 0 rfl;have q4_1:=LG4_6.out.ce 1 rfl;have Y8:=Hd (Y7.out.sets LG4_6.out 0 [.float .f64 P1,.float .f64 P2]);have LB7:=Hd (below_sets (w0:=w) (show w.heap.size≤h by omega) [.float .f64 P1,.float .f64 P2] 0 wb LB6.out);have LR7:=Hd (LR6.out.other (r:=h) (by omega) 0 [.float .f64 P1,.float .f64 P2]);have LG0_7:=Hd (LG0_6.out.other (r:=h) (by omega) 0 [.float .f64 P1,.float .f64 P2]);have LG1_7:=Hd (LG1_6.out.other (r:=h) (by omega) 0 [.float .f64 P1,.float .f64 P2])
   have LG2_7:=Hd (LG2_6.out.other (r:=h) (by omega) 0 [.float .f64 P1,.float .f64 P2]);have LG3_7:=Hd (LG3_6.out.other (r:=h) (by omega) 0 [.float .f64 P1,.float .f64 P2]);have LG4_7:=Hd (show Blk (sets wb h 0 [.float .f64 P1,.float .f64 P2]) h 78 #[.float .f64 P1,.float .f64 P2] from by have hbs:=Blk.sets [.float .f64 P1,.float .f64 P2] 0 wb _ LG4_6.out;simpa [laid] using hbs);have LG5_7:=Hd (LG5_6.out.other (r:=h) (by omega) 0 [.float .f64 P1,.float .f64 P2]);clear LB6 LR6 LG0_6 LG1_6 LG2_6 LG3_6 LG4_6 LG5_6;clear z;go_wp2_with fail
   go_meet
   case rel=>exact⟨rfl,LG0_7.out,LG1_7.out,LG2_7.out,LG3_7.out,LG4_7.out,LG5_7.out,LR7.out,Y8.out,LB7.out⟩
  ·rcases Bool.eq_false_or_eq_true f with hf | hf
   ·have K:=Hd (HP.out.2.1 hc hf);have z:=HZ1.out;rw [hc,decide_eq_false_iff_not] at z;have of:=HOF.out;rw [hf] at of;obtain⟨q1_0,q1_1,q1_2,q1_3⟩:=LG1_4.out.c4;clear hc hf;go_wp2_with fail;refine (HS1.out _).mono ?_;rintro e wa ⟨rfl,hba⟩;have LB5:=stB LB4 hba LB4.out.size;have LR5:=stR LR4 hba;have LG0_5:=stG LG0_4 hba;have LG1_5:=stG LG1_4 hba;have LG2_5:=stG LG2_4 hba;have LG3_5:=stG LG3_4 hba;have LG4_5:=stG LG4_4 hba;have LG5_5:=stG LG5_4 hba;clear LB4 LR4 LG0_4 LG1_4 LG2_4 LG3_4 LG4_4 LG5_4;have X6:=Hd (X5.out.below hba);have Y6:=Hd (Y5.out.below hba);clear hba q1_0 q1_1 q1_2 q1_3;obtain⟨q1_0,q1_1,q1_2,q1_3⟩:=LG1_5.out.c4;go_wp2_with fail;refine (K.out _ X6.out).mono ?_;rintro e wb ⟨rfl,hbb⟩;have LB6:=stB LB5 hbb LB5.out.size;have LR6:=stR LR5 hbb;have LG0_6:=stG LG0_5 hbb;have LG1_6:=stG LG1_5 hbb;have LG2_6:=stG LG2_5 hbb;have LG3_6:=stG LG3_5 hbb;have LG4_6:=stG LG4_5 hbb;have LG5_6:=stG LG5_5 hbb;clear LB5 LR5 LG0_5 LG1_5 LG2_5 LG3_5 LG4_5 LG5_5;have Y7:=Hd (Y6.out.below hbb);clear hbb q1_0 q1_1 q1_2 q1_3;have f0:=LG4_6.out.frozen 0;have f1:=LG4_6.out.frozen 1;have q4_0:=LG4_6.out.ce 0 rfl;have q4_1:=LG4_6.out.ce 1 rfl;have Y8:=Hd (Y7.out.sets LG4_6.out 0 [.float .f64 P1,.float .f64 P2]);have LB7:=Hd (below_sets (w0:=w) (show w.heap.size≤h by omega) [.float .f64 P1,.float .f64 P2] 0 wb LB6.out);have LR7:=Hd (LR6.out.other (r:=h) (by omega) 0 [.float .f64 P1,.float .f64 P2]);have LG0_7:=Hd (LG0_6.out.other (r:=h) (by omega) 0 [.float .f64 P1,.float .f64 P2])
    have LG1_7:=Hd (LG1_6.out.other (r:=h) (by omega) 0 [.float .f64 P1,.float .f64 P2]);have LG2_7:=Hd (LG2_6.out.other (r:=h) (by omega) 0 [.float .f64 P1,.float .f64 P2]);have LG3_7:=Hd (LG3_6.out.other (r:=h) (by omega) 0 [.float .f64 P1,.float .f64 P2]);have LG4_7:=Hd (show Blk (sets wb h 0 [.float .f64 P1,.float .f64 P2]) h 78 #[.float .f64 P1,.float .f64 P2] from by have hbs:=Blk.sets [.float .f64 P1,.float .f64 P2] 0 wb _ LG4_6.out;simpa [laid] using hbs);have LG5_7:=Hd (LG5_6.out.other (r:=h) (by omega) 0 [.float .f64 P1,.float .f64 P2]);clear LB6 LR6 LG0_6 LG1_6 LG2_6 LG3_6 LG4_6 LG5_6;clear z of;go_wp2_with fail
    go_meet
    case rel=>exact⟨rfl,LG0_7.out,LG1_7.out,LG2_7.out,LG3_7.out,LG4_7.out,LG5_7.out,LR7.out,Y8.out,LB7.out⟩
   ·obtain⟨ea,eb⟩:=HP.out.2.2 hc hf;have z:=HZ1.out;rw [hc,decide_eq_false_iff_not] at z;have of:=HOF.out;rw [hf] at of;have EA:=Hd ea;have EB:=Hd eb;clear ea eb;obtain⟨q1_0,q1_1,q1_2,q1_3⟩:=LG1_4.out.c4;clear hc hf;go_wp2_with fail;refine (HS1.out _).mono ?_;rintro e wa ⟨rfl,hba⟩;have LB5:=stB LB4 hba LB4.out.size;have LR5:=stR LR4 hba;have LG0_5:=stG LG0_4 hba;have LG1_5:=stG LG1_4 hba;have LG2_5:=stG LG2_4 hba;have LG3_5:=stG LG3_4 hba;have LG4_5:=stG LG4_4 hba;have LG5_5:=stG LG5_4 hba;clear LB4 LR4 LG0_4 LG1_4 LG2_4 LG3_4 LG4_4 LG5_4;have Y6:=Hd (Y5.out.below hba);clear hba q1_0 q1_1 q1_2 q1_3;go_wp2_with fail
    go_meet
    case rel=>exact⟨rfl,LG0_5.out,LG1_5.out,LG2_5.out,LG3_5.out,(by rw [EA.out,EB.out];exact LG4_5.out),LG5_5.out,LR5.out,Y6.out,LB5.out⟩
 case rest=>
 obtain⟨rfl,e0,e1,e2,e3,e4,e5,er,ey,eb⟩:=hcut;clear LB4 LR4 LG0_4 LG1_4 LG2_4 LG3_4 LG4_4 LG5_4 X5 Y5 HP HZ1;have LB5:=Hd eb;have LR5:=Hd er;have LG0_5:=Hd e0;have LG1_5:=Hd e1;have LG2_5:=Hd e2;have LG3_5:=Hd e3;have LG4_5:=Hd e4;have LG5_5:=Hd e5;have Y9:=Hd ey;clear e0 e1 e2 e3 e4 e5 er eb ey
 obtain⟨Wq1,hWq1⟩:∃ W,wc=W:=⟨_,rfl⟩
 subst hWq1
 go_upto_block 1 with fail
 go_cut [12] (fun s12 wx=>s12=.pointer (some ⟨(h+1),0,none⟩)∧Blk wx w.heap.size 28 #[.float .f64 b1,.float .f64 b2]∧Blk wx (w.heap.size+1) 97 #[.int .i64 s1,.bool g1,.slice A1 n1 c1,.int .i64 E1]∧Blk wx (w.heap.size+2) 97 #[.int .i64 s2,.bool g2,.slice A2 n2 c2,.int .i64 E2]∧Blk wx (w.heap.size+3) 28 #[.float .f64 i,.float .f64 j]∧Blk wx h 78 #[.float .f64 P1,.float .f64 P2]∧Blk wx (h+1) 78 #[.float .f64 Q1,.float .f64 Q2]∧HasBlk wx (w.heap.size+4) 28 2∧Below w.heap.size w wx)
 case first=>
  rcases Bool.eq_false_or_eq_true cQ with hc | hc
  ·skip;have K:=Hd (HQ.out.1 hc);have z:=HZ2.out;rw [hc,decide_eq_true_eq] at z;obtain⟨q2_0,q2_1,q2_2,q2_3⟩:=LG2_5.out.c4;clear hc;go_wp2_with fail;refine (HS2.out _).mono ?_;rintro e wa ⟨rfl,hba⟩;have LB6:=stB LB5 hba LB5.out.size;have LR6:=stR LR5 hba;have LG0_6:=stG LG0_5 hba;have LG1_6:=stG LG1_5 hba;have LG2_6:=stG LG2_5 hba;have LG3_6:=stG LG3_5 hba;have LG4_6:=stG LG4_5 hba;have LG5_6:=stG LG5_5 hba;clear LB5 LR5 LG0_5 LG1_5 LG2_5 LG3_5 LG4_5 LG5_5;have X6:=Hd (Y9.out.below hba);clear hba q2_0 q2_1 q2_2 q2_3;obtain⟨q2_0,q2_1,q2_2,q2_3⟩:=LG2_6.out.c4;go_wp2_with fail;refine (K.out _ X6.out).mono ?_;rintro e wb ⟨rfl,hbb⟩;have LB7:=stB LB6 hbb LB6.out.size;have LR7:=stR LR6 hbb;have LG0_7:=stG LG0_6 hbb;have LG1_7:=stG LG1_6 hbb;have LG2_7:=stG LG2_6 hbb;have LG3_7:=stG LG3_6 hbb;have LG4_7:=stG LG4_6 hbb;have LG5_7:=stG LG5_6 hbb;clear LB6 LR6 LG0_6 LG1_6 LG2_6 LG3_6 LG4_6 LG5_6;clear hbb q2_0 q2_1 q2_2 q2_3;have f0:=LG5_7.out.frozen 0;have f1:=LG5_7.out.frozen 1;have q5_0:=LG5_7.out.ce 0 rfl;have q5_1:=LG5_7.out.ce 1 rfl;have LB8:=Hd (below_sets (w0:=w) (show w.heap.size≤(h+1) by omega) [.float .f64 Q1,.float .f64 Q2] 0 wb LB7.out);have LR8:=Hd (LR7.out.other (r:=(h+1)) (by omega) 0 [.float .f64 Q1,.float .f64 Q2]);have LG0_8:=Hd (LG0_7.out.other (r:=(h+1)) (by omega) 0 [.float .f64 Q1,.float .f64 Q2]);have LG1_8:=Hd (LG1_7.out.other (r:=(h+1)) (by omega) 0 [.float .f64 Q1,.float .f64 Q2]);have LG2_8:=Hd (LG2_7.out.other (r:=(h+1)) (by omega) 0 [.float .f64 Q1,.float .f64 Q2])
   have LG3_8:=Hd (LG3_7.out.other (r:=(h+1)) (by omega) 0 [.float .f64 Q1,.float .f64 Q2]);have LG4_8:=Hd (LG4_7.out.other (r:=(h+1)) (by omega) 0 [.float .f64 Q1,.float .f64 Q2]);have LG5_8:=Hd (show Blk (sets wb (h+1) 0 [.float .f64 Q1,.float .f64 Q2]) (h+1) 78 #[.float .f64 Q1,.float .f64 Q2] from by have hbs:=Blk.sets [.float .f64 Q1,.float .f64 Q2] 0 wb _ LG5_7.out;simpa [laid] using hbs);clear LB7 LR7 LG0_7 LG1_7 LG2_7 LG3_7 LG4_7 LG5_7;clear z;go_wp2_with fail
   go_meet
   case rel=>exact⟨rfl,LG0_8.out,LG1_8.out,LG2_8.out,LG3_8.out,LG4_8.out,LG5_8.out,LR8.out,LB8.out⟩
  ·rcases Bool.eq_false_or_eq_true f with hf | hf
   ·have K:=Hd (HQ.out.2.1 hc hf);have z:=HZ2.out;rw [hc,decide_eq_false_iff_not] at z;have of:=HOF.out;rw [hf] at of;obtain⟨q2_0,q2_1,q2_2,q2_3⟩:=LG2_5.out.c4;clear hc hf;go_wp2_with fail;refine (HS2.out _).mono ?_;rintro e wa ⟨rfl,hba⟩;have LB6:=stB LB5 hba LB5.out.size;have LR6:=stR LR5 hba;have LG0_6:=stG LG0_5 hba;have LG1_6:=stG LG1_5 hba;have LG2_6:=stG LG2_5 hba;have LG3_6:=stG LG3_5 hba;have LG4_6:=stG LG4_5 hba;have LG5_6:=stG LG5_5 hba;clear LB5 LR5 LG0_5 LG1_5 LG2_5 LG3_5 LG4_5 LG5_5;have X6:=Hd (Y9.out.below hba);clear hba q2_0 q2_1 q2_2 q2_3;obtain⟨q2_0,q2_1,q2_2,q2_3⟩:=LG2_6.out.c4;go_wp2_with fail;refine (K.out _ X6.out).mono ?_;rintro e wb ⟨rfl,hbb⟩;have LB7:=stB LB6 hbb LB6.out.size;have LR7:=stR LR6 hbb;have LG0_7:=stG LG0_6 hbb;have LG1_7:=stG LG1_6 hbb;have LG2_7:=stG LG2_6 hbb;have LG3_7:=stG LG3_6 hbb;have LG4_7:=stG LG4_6 hbb;have LG5_7:=stG LG5_6 hbb;clear LB6 LR6 LG0_6 LG1_6 LG2_6 LG3_6 LG4_6 LG5_6;clear hbb q2_0 q2_1 q2_2 q2_3;have f0:=LG5_7.out.frozen 0;have f1:=LG5_7.out.frozen 1;have q5_0:=LG5_7.out.ce 0 rfl;have q5_1:=LG5_7.out.ce 1 rfl;have LB8:=Hd (below_sets (w0:=w) (show w.heap.size≤(h+1) by omega) [.float .f64 Q1,.float .f64 Q2] 0 wb LB7.out);have LR8:=Hd (LR7.out.other (r:=(h+1)) (by omega) 0 [.float .f64 Q1,.float .f64 Q2]);have LG0_8:=Hd (LG0_7.out.other (r:=(h+1)) (by omega) 0 [.float .f64 Q1,.float .f64 Q2]);have LG1_8:=Hd (LG1_7.out.other (r:=(h+1)) (by omega) 0 [.float .f64 Q1,.float .f64 Q2]);have LG2_8:=Hd (LG2_7.out.other (r:=(h+1)) (by omega) 0 [.float .f64 Q1,.float .f64 Q2])
    have LG3_8:=Hd (LG3_7.out.other (r:=(h+1)) (by omega) 0 [.float .f64 Q1,.float .f64 Q2]);have LG4_8:=Hd (LG4_7.out.other (r:=(h+1)) (by omega) 0 [.float .f64 Q1,.float .f64 Q2]);have LG5_8:=Hd (show Blk (sets wb (h+1) 0 [.float .f64 Q1,.float .f64 Q2]) (h+1) 78 #[.float .f64 Q1,.float .f64 Q2] from by have hbs:=Blk.sets [.float .f64 Q1,.float .f64 Q2] 0 wb _ LG5_7.out;simpa [laid] using hbs);clear LB7 LR7 LG0_7 LG1_7 LG2_7 LG3_7 LG4_7 LG5_7;clear z of;go_wp2_with fail
    go_meet
    case rel=>exact⟨rfl,LG0_8.out,LG1_8.out,LG2_8.out,LG3_8.out,LG4_8.out,LG5_8.out,LR8.out,LB8.out⟩
   ·obtain⟨ea,eb⟩:=HQ.out.2.2 hc hf;have z:=HZ2.out;rw [hc,decide_eq_false_iff_not] at z;have of:=HOF.out;rw [hf] at of;have EA:=Hd ea;have EB:=Hd eb;clear ea eb;obtain⟨q2_0,q2_1,q2_2,q2_3⟩:=LG2_5.out.c4;clear hc hf;go_wp2_with fail;refine (HS2.out _).mono ?_;rintro e wa ⟨rfl,hba⟩;have LB6:=stB LB5 hba LB5.out.size;have LR6:=stR LR5 hba;have LG0_6:=stG LG0_5 hba;have LG1_6:=stG LG1_5 hba;have LG2_6:=stG LG2_5 hba;have LG3_6:=stG LG3_5 hba;have LG4_6:=stG LG4_5 hba;have LG5_6:=stG LG5_5 hba;clear LB5 LR5 LG0_5 LG1_5 LG2_5 LG3_5 LG4_5 LG5_5;clear hba q2_0 q2_1 q2_2 q2_3;go_wp2_with fail
    go_meet
    case rel=>exact⟨rfl,LG0_6.out,LG1_6.out,LG2_6.out,LG3_6.out,LG4_6.out,(by rw [EA.out,EB.out];exact LG5_6.out),LR6.out,LB6.out⟩
 case rest=>
 obtain⟨rfl,e0,e1,e2,e3,e4,e5,er,eb⟩:=hcut;clear LB5 LR5 LG0_5 LG1_5 LG2_5 LG3_5 LG4_5 LG5_5 Y9 HQ HZ2;have LB6:=Hd eb;have LR6:=Hd er;have LG0_6:=Hd e0;have LG1_6:=Hd e1;have LG2_6:=Hd e2;have LG3_6:=Hd e3;have LG4_6:=Hd e4;have LG5_6:=Hd e5;clear e0 e1 e2 e3 e4 e5 er eb
 obtain⟨Wq2,hWq2⟩:∃ W,wc=W:=⟨_,rfl⟩
 subst hWq2;clear HOF
 go_upto_region 13 with fail
 have z3:=HZ3.out;clear HZ3
 by_cases hz:0<sg1
 ·rw [decide_eq_true hz,Bool.true_or] at z3;subst z3;have hzb:=decide_eq_true hz;refine wp_region_held_drew (S:=fun W'=>Blk W' w.heap.size 28 #[.float .f64 b1,.float .f64 b2]∧Blk W' (w.heap.size+1) 97 #[.int .i64 s1,.bool g1,.slice A1 n1 c1,.int .i64 E1]∧Blk W' (w.heap.size+2) 97 #[.int .i64 s2,.bool g2,.slice A2 n2 c2,.int .i64 E2]∧Blk W' (w.heap.size+3) 28 #[.float .f64 i,.float .f64 j]∧Blk W' h 78 #[.float .f64 P1,.float .f64 P2]∧Blk W' (h+1) 78 #[.float .f64 Q1,.float .f64 Q2]∧HasBlk W' (w.heap.size+4) 28 2∧Below w.heap.size w W') (by kernel_rfl) (by exact⟨LG0_6.out.drew,LG1_6.out.drew,LG2_6.out.drew,LG3_6.out.drew,LG4_6.out.drew,LG5_6.out.drew,LR6.out.drew,LB6.out.drew⟩) (fun hHeld=>?_);refine tk 0 ?_ (hv:=by intro W2 hSw;obtain⟨q0,q1⟩:=hSw.2.2.2.1.c2;go_simp;(try with_reducible rfl));(try simp only [Act.put,lay]);refine tk 1 ?_ (hv:=by intro W2 hSw;obtain⟨q0,q1⟩:=hSw.2.2.2.2.1.c2;go_simp;(try with_reducible rfl));(try simp only [Act.put,lay]);refine tk 2 ?_ (hv:=by intro W2 hSw;obtain⟨q0,q1⟩:=hSw.2.2.2.2.2.1.c2;go_simp;(try with_reducible rfl));(try simp only [Act.put,lay]);refine tk 3 ?_ (hv:=by intro W2 hSw;obtain⟨q0,q1,q2,q3⟩:=hSw.2.1.c4;go_simp;(try with_reducible rfl));(try simp only [Act.put,lay]);refine rdy 4 (fun KK hKK=>?_);go_simp;refine (HS1.out _).mono ?_;rintro e wa ⟨rfl,hbA⟩;go_wp2_with fail;refine hKK.out _ _ (⟨hHeld.1.keep hbA,hHeld.2.1.keep hbA,hHeld.2.2.1.keep hbA,hHeld.2.2.2.1.keep hbA,hHeld.2.2.2.2.1.keep hbA,hHeld.2.2.2.2.2.1.keep hbA,hHeld.2.2.2.2.2.2.1.keep hbA,hHeld.2.2.2.2.2.2.2.trans (hbA.mono hHeld.2.2.2.2.2.2.2.size)⟩) (fun _=>?_)
  clear hKK KK hHeld;rename_i hHeld;(try simp only [Act.put,lay]);refine tk 5 ?_;(try simp only [Act.put,lay]);refine tk 6 ?_;(try simp only [Act.put,lay]);refine tkn 7 ?_;(try simp only [Act.put,lay]);refine tkn 8 ?_;(try simp only [Act.put,lay]);refine tkn 9 ?_;(try simp only [Act.put,lay]);refine tk 10 ?_;(try simp only [Act.put,lay]);refine rdy 11 (fun KK hKK=>?_);go_simp;refine (HC.out _).mono ?_;rintro e wb ⟨rfl,hbB⟩;go_wp2_with fail;refine hKK.out _ _ (⟨hHeld.1.keep hbB,hHeld.2.1.keep hbB,hHeld.2.2.1.keep hbB,hHeld.2.2.2.1.keep hbB,hHeld.2.2.2.2.1.keep hbB,hHeld.2.2.2.2.2.1.keep hbB,hHeld.2.2.2.2.2.2.1.keep hbB,hHeld.2.2.2.2.2.2.2.trans (hbB.mono hHeld.2.2.2.2.2.2.2.size)⟩) (fun _=>?_);clear hKK KK hHeld;rename_i hHeld;(try simp only [Act.put,lay]);refine rdy 12 (fun KK hKK=>?_);have ha0:=hHeld.2.2.2.2.2.2.1.someCell 0 (by decide);have hf0:=hHeld.2.2.2.2.2.2.1.frozen 0;have ha1:=hHeld.2.2.2.2.2.2.1.someCell 1 (by decide);have hf1:=hHeld.2.2.2.2.2.2.1.frozen 1;have HK:=Hd (hHeld.2.2.2.2.2.2.1.setCell [.float .f64 r1,.float .f64 r2] rfl);have F:=Hd (below_sets (w0:=w) (r:=(w.heap.size+4)) (by omega) [.float .f64 r1,.float .f64 r2] 0 _ hHeld.2.2.2.2.2.2.2);go_simp;refine hKK.out _ _ (⟨hHeld.1.other (by omega) 0 [.float .f64 r1,.float .f64 r2],hHeld.2.1.other (by omega) 0 [.float .f64 r1,.float .f64 r2],hHeld.2.2.1.other (by omega) 0 [.float .f64 r1,.float .f64 r2],hHeld.2.2.2.1.other (by omega) 0 [.float .f64 r1,.float .f64 r2],hHeld.2.2.2.2.1.other (by omega) 0 [.float .f64 r1,.float .f64 r2],hHeld.2.2.2.2.2.1.other (by omega) 0 [.float .f64 r1,.float .f64 r2],hHeld.2.2.2.2.2.2.1.sets [.float .f64 r1,.float .f64 r2] rfl rfl,below_sets (by omega) [.float .f64 r1,.float .f64 r2] 0 _ hHeld.2.2.2.2.2.2.2⟩) (fun _=>?_)
  clear hKK KK hHeld;rename_i hHeld;(try simp only [Act.put,lay]);refine wpAnyH_done (by kernel_rfl) ?_ _;have hk0:=HK.out 0 (by decide);have hk1:=HK.out 1 (by decide)
  simp [sets] at hk0 hk1
  clear hHeld HK hbA hbB;clear LB6 LR6 LG0_6 LG1_6 LG2_6 LG3_6 LG4_6 LG5_6;go_wp2;refine bodyPost_ret (v:=.agg #[.float .f64 r1,.float .f64 r2]) (by simp [results,Tryz.results101,go_sem,hk0,hk1]) rfl ?_
  exact⟨rfl,F.out⟩
 ·rw [decide_eq_false hz,Bool.false_or] at z3;subst z3;have hzb:=decide_eq_false hz;refine wp_region_held_drew (S:=fun W'=>Blk W' w.heap.size 28 #[.float .f64 b1,.float .f64 b2]∧Blk W' (w.heap.size+1) 97 #[.int .i64 s1,.bool g1,.slice A1 n1 c1,.int .i64 E1]∧Blk W' (w.heap.size+2) 97 #[.int .i64 s2,.bool g2,.slice A2 n2 c2,.int .i64 E2]∧Blk W' (w.heap.size+3) 28 #[.float .f64 i,.float .f64 j]∧Blk W' h 78 #[.float .f64 P1,.float .f64 P2]∧Blk W' (h+1) 78 #[.float .f64 Q1,.float .f64 Q2]∧HasBlk W' (w.heap.size+4) 28 2∧Below w.heap.size w W') (by kernel_rfl) (by exact⟨LG0_6.out.drew,LG1_6.out.drew,LG2_6.out.drew,LG3_6.out.drew,LG4_6.out.drew,LG5_6.out.drew,LR6.out.drew,LB6.out.drew⟩) (fun hHeld=>?_);refine tk 0 ?_ (hv:=by intro W2 hSw;obtain⟨q0,q1⟩:=hSw.2.2.2.1.c2;go_simp;(try with_reducible rfl));(try simp only [Act.put,lay]);refine tk 1 ?_ (hv:=by intro W2 hSw;obtain⟨q0,q1⟩:=hSw.2.2.2.2.1.c2;go_simp;(try with_reducible rfl));(try simp only [Act.put,lay]);refine tk 2 ?_ (hv:=by intro W2 hSw;obtain⟨q0,q1⟩:=hSw.2.2.2.2.2.1.c2;go_simp;(try with_reducible rfl));(try simp only [Act.put,lay]);refine tk 3 ?_ (hv:=by intro W2 hSw;obtain⟨q0,q1,q2,q3⟩:=hSw.2.1.c4;go_simp;(try with_reducible rfl));(try simp only [Act.put,lay]);refine rdy 4 (fun KK hKK=>?_);go_simp;refine (HS1.out _).mono ?_;rintro e wa ⟨rfl,hbA⟩;go_wp2_with fail;refine hKK.out _ _ (⟨hHeld.1.keep hbA,hHeld.2.1.keep hbA,hHeld.2.2.1.keep hbA,hHeld.2.2.2.1.keep hbA,hHeld.2.2.2.2.1.keep hbA,hHeld.2.2.2.2.2.1.keep hbA,hHeld.2.2.2.2.2.2.1.keep hbA,hHeld.2.2.2.2.2.2.2.trans (hbA.mono hHeld.2.2.2.2.2.2.2.size)⟩) (fun _=>?_)
  clear hKK KK hHeld;rename_i hHeld;(try simp only [Act.put,lay]);refine tk 5 ?_;(try simp only [Act.put,lay]);refine tk 6 ?_;(try simp only [Act.put,lay]);refine tk 7 ?_ (hv:=by intro W2 hSw;obtain⟨q0,q1,q2,q3⟩:=hSw.2.2.1.c4;go_simp;(try with_reducible rfl));(try simp only [Act.put,lay]);refine rdy 8 (fun KK hKK=>?_);go_simp;refine (HS2.out _).mono ?_;rintro e wc ⟨rfl,hbC⟩;go_wp2_with fail;refine hKK.out _ _ (⟨hHeld.1.keep hbC,hHeld.2.1.keep hbC,hHeld.2.2.1.keep hbC,hHeld.2.2.2.1.keep hbC,hHeld.2.2.2.2.1.keep hbC,hHeld.2.2.2.2.2.1.keep hbC,hHeld.2.2.2.2.2.2.1.keep hbC,hHeld.2.2.2.2.2.2.2.trans (hbC.mono hHeld.2.2.2.2.2.2.2.size)⟩) (fun _=>?_);clear hKK KK hHeld;rename_i hHeld;(try simp only [Act.put,lay]);refine tk 9 ?_;(try simp only [Act.put,lay]);refine tk 10 ?_;(try simp only [Act.put,lay]);refine rdy 11 (fun KK hKK=>?_);go_simp;refine (HC.out _).mono ?_;rintro e wb ⟨rfl,hbB⟩;go_wp2_with fail;refine hKK.out _ _ (⟨hHeld.1.keep hbB,hHeld.2.1.keep hbB,hHeld.2.2.1.keep hbB,hHeld.2.2.2.1.keep hbB,hHeld.2.2.2.2.1.keep hbB,hHeld.2.2.2.2.2.1.keep hbB,hHeld.2.2.2.2.2.2.1.keep hbB,hHeld.2.2.2.2.2.2.2.trans (hbB.mono hHeld.2.2.2.2.2.2.2.size)⟩) (fun _=>?_);clear hKK KK hHeld;rename_i hHeld;(try simp only [Act.put,lay]);refine rdy 12 (fun KK hKK=>?_);have ha0:=hHeld.2.2.2.2.2.2.1.someCell 0 (by decide);have hf0:=hHeld.2.2.2.2.2.2.1.frozen 0;have ha1:=hHeld.2.2.2.2.2.2.1.someCell 1 (by decide);have hf1:=hHeld.2.2.2.2.2.2.1.frozen 1;have HK:=Hd (hHeld.2.2.2.2.2.2.1.setCell [.float .f64 r1,.float .f64 r2] rfl);have F:=Hd (below_sets (w0:=w) (r:=(w.heap.size+4)) (by omega) [.float .f64 r1,.float .f64 r2] 0 _ hHeld.2.2.2.2.2.2.2)
  go_simp;refine hKK.out _ _ (⟨hHeld.1.other (by omega) 0 [.float .f64 r1,.float .f64 r2],hHeld.2.1.other (by omega) 0 [.float .f64 r1,.float .f64 r2],hHeld.2.2.1.other (by omega) 0 [.float .f64 r1,.float .f64 r2],hHeld.2.2.2.1.other (by omega) 0 [.float .f64 r1,.float .f64 r2],hHeld.2.2.2.2.1.other (by omega) 0 [.float .f64 r1,.float .f64 r2],hHeld.2.2.2.2.2.1.other (by omega) 0 [.float .f64 r1,.float .f64 r2],hHeld.2.2.2.2.2.2.1.sets [.float .f64 r1,.float .f64 r2] rfl rfl,below_sets (by omega) [.float .f64 r1,.float .f64 r2] 0 _ hHeld.2.2.2.2.2.2.2⟩) (fun _=>?_);clear hKK KK hHeld;rename_i hHeld;(try simp only [Act.put,lay]);refine wpAnyH_done (by kernel_rfl) ?_ _;have hk0:=HK.out 0 (by decide);have hk1:=HK.out 1 (by decide)
  simp [sets] at hk0 hk1
  clear hHeld HK hbA hbC hbB;clear LB6 LR6 LG0_6 LG1_6 LG2_6 LG3_6 LG4_6 LG5_6;go_wp2;refine bodyPost_ret (v:=.agg #[.float .f64 r1,.float .f64 r2]) (by simp [results,Tryz.results101,go_sem,hk0,hk1]) rfl ?_
  exact⟨rfl,F.out⟩
end Go.Proofs.YthlmlmfebpjgdaaGreatDoor
namespace Go.Proofs.YthlmlmfebpjgdaaGreatDoor
open Go.RowKit
attribute [local go_sem] run_store_float run_frombits run_bitsof
theorem law_in(x y:Nat)(w:World):Calls Tryz.prog 15 #[.agg #[.int .u64 (x:Int),.int .u64 (y:Int)]] w fun e w'=>e=.returned (.agg #[.float .f64 x,.float .f64 y])∧Below w.heap.size w w':=by
 obtain⟨LB0,LG0_0,LR⟩:=bx2 w #[.int .u64 (x:Int),.int .u64 (y:Int)] 24 #[.float .f64 0,.float .f64 0] 28;have LR0:=Hd (HasBlk.of (n:=2) LR.out rfl rfl);clear LR
 go_enter Tryz.func15,Tryz.ntmps15
 go_wp2_with fail;clear LB0 LG0_0 LR0
 go_region
 all_goals go_wp2
 all_goals (refine bodyPost_ret (v:=.agg #[.float .f64 x,.float .f64 y]) (by simp [results,Tryz.results15,go_sem]) rfl ?_;exact⟨rfl,((below_alloc w _).alloc (by simp) _).drew⟩)
theorem law_out(x y:Nat)(w:World):Calls Tryz.prog 13 #[.agg #[.float .f64 x,.float .f64 y]] w fun e w'=>e=.returned (.agg #[.int .u64 (x:Int),.int .u64 (y:Int)])∧Below w.heap.size w w':=by
 obtain⟨LB0,LG0_0,LR⟩:=bx2 w #[.float .f64 x,.float .f64 y] 28 #[.int .u64 0,.int .u64 0] 24;have LR0:=Hd (HasBlk.of (n:=2) LR.out rfl rfl);clear LR
 go_enter Tryz.func13,Tryz.ntmps13
 go_wp2_with fail;clear LB0 LG0_0 LR0
 go_region
 all_goals go_wp2
 all_goals (refine bodyPost_ret (v:=.agg #[.int .u64 (x:Int),.int .u64 (y:Int)]) (by simp [results,Tryz.results13,go_sem]) rfl ?_;exact⟨rfl,((below_alloc w _).alloc (by simp) _).drew⟩)
theorem mirrorf(x y:Nat)(w:World)(hx:x<18446744073709551616)(hy:y<18446744073709551616):Calls Tryz.prog 85 #[.agg #[.float .f64 x,.float .f64 y]] w fun e w'=>e=.returned (.agg #[.float .f64 (pat (-(rd x y).2)),.float .f64 (pat (-(rd x y).1))])∧Below w.heap.size w w':=by
 have HN:=Hd fun W=>negf x y W hx hy
 obtain⟨p,hp⟩:∃ p,pat (-(rd x y).2)=p:=⟨_,rfl⟩
 obtain⟨q,hq⟩:∃ p,pat (-(rd x y).1)=p:=⟨_,rfl⟩
 rw [hp,hq] at HN;rw [hp,hq];clear hp hq;obtain⟨LB0,LG0_0,LR⟩:=bx2 w #[.float .f64 x,.float .f64 y] 28 #[.float .f64 0,.float .f64 0] 28;have LR0:=Hd (HasBlk.of (n:=2) LR.out rfl rfl);clear LR
 go_enter Tryz.func85,Tryz.ntmps85
 go_wp2_with fail;refine (HN.out _).mono ?_;rintro e w1 ⟨rfl,hb1⟩;have LB1:=stB LB0 hb1 LB0.out.size;have LR1:=stR LR0 hb1;have LG0_1:=stG LG0_0 hb1;clear LB0 LR0 LG0_0;clear hb1;obtain⟨ha0,hf0,ha1,hf1⟩:=LR1.out.sf2;obtain⟨hk0,hk1⟩:=LR1.out.sc2 (.float .f64 p) (.float .f64 q);have F:=Hd (below_sets (w0:=w) (r:=(w.heap.size+1)) (by omega) [.float .f64 p,.float .f64 q] 0 _ LB1.out)
 simp [sets] at hk0 hk1
 go_wp2;refine bodyPost_ret (v:=.agg #[.float .f64 p,.float .f64 q]) (by simp [results,Tryz.results85,go_sem,hk0,hk1]) rfl ?_
 exact⟨rfl,F.out⟩
end Go.Proofs.YthlmlmfebpjgdaaGreatDoor
