/-
Lemmas for the statement: ReadN KnbT Rdl IraT RCmp Rnd RndB MadeT NegTrue RCmpT EndT ECmpT DigD SubT GuessT ByT ByMT WordT RoundT BitsT OfT MinT LeastT Neg6T.
-/
import Derived.Test.YthlmlmfebpjgdaaGreatDoorM01
import Derived.Test.YthlmlmfebpjgdaaGreatDoorM02
import Derived.Deep.DeepCutAuto
import Derived.Deep.RegionHeld3
set_option linter.unusedSimpArgs false
set_option linter.unusedVariables false
set_option maxHeartbeats 12800000
namespace Go.Proofs.YthlmlmfebpjgdaaGreatDoor
section
open Go.RowKit
attribute [local go_sem] run_store_float run_eqf
def anyB(f:Nat->Bool):Nat->Bool
 | 0=>false
 | n+1=>anyB f n || f n
structure KeepN (G n:Nat) (w w':World):Prop where
 os:w'.os=w.os
 tape:w'.tape=w.tape
 output:w'.output=w.output
 size:w.heap.size<=w'.heap.size
 block:∀ k,k<w.heap.size->(k<G\/G+n<=k)->w'.heap[k]?=w.heap[k]?
theorem KeepN.refl(G n:Nat)(w:World):KeepN G n w w:=⟨rfl,rfl,rfl,Nat.le_refl _,fun _ _ _=>rfl⟩
theorem KeepN.below{G n:Nat}{w w1 w2:World}(h:KeepN G n w w1)(hb:Below w1.heap.size w1 w2):KeepN G n w w2:=
 ⟨hb.os.trans h.os,hb.tape.trans h.tape,hb.output.trans h.output,Nat.le_trans h.size hb.size,fun k hk a=>(hb.block k (Nat.lt_of_lt_of_le hk h.size)).trans (h.block k hk a)⟩
theorem KeepN.drew{G n:Nat}{w w1:World}(h:KeepN G n w w1):KeepN G n w w1.drew:=⟨h.os,h.tape,h.output,h.size,h.block⟩
theorem KeepN.set{G n t:Nat}{w w1:World}(h:KeepN G n w w1)(ht:t<n)(a b:Value):KeepN G n w ((w1.setCell ⟨G+t,0,none⟩ a).setCell ⟨G+t,1,none⟩ b):=
 ⟨h.os,h.tape,h.output,by have:=size_sets (r:=G+t) [a,b] 0 w1;have:=h.size;show w.heap.size<=(sets w1 (G+t) 0 [a,b]).heap.size;omega,
  fun k hk x=>(heap_sets (r:=G+t) (k:=k) (by omega) [a,b] 0 w1).trans (h.block k hk x)⟩
theorem KeepN.cell{G n:Nat}{w w1:World}(h:KeepN G n w w1){ad:Addr}{v:Value}(hc:w.cell? ad=some v)(h0:ad.block<G\/G+n<=ad.block):w1.cell? ad=some v:=by
 have hlt:ad.block<w.heap.size:=by
  unfold World.cell? at hc
  split at hc
  ·rename_i e
   exact (Array.getElem?_eq_some_iff.1 e).1
  ·cases hc
 rw [World.cell?_of_block (w:=w)]
 ·exact hc
 ·exact h.block _ hlt h0
theorem KeepN.toBl{G n B:Nat}{w0 w w':World}(h:KeepN G n w w')(hb:Below B w0 w)(hB:B<=w.heap.size)(h0:B<=G):Below B w0 w':=
 ⟨h.os.trans hb.os,h.tape.trans hb.tape,h.output.trans hb.output,Nat.le_trans hb.size h.size,fun k hk=>(h.block k (by omega) (by omega)).trans (hb.block k hk)⟩
theorem read_n(G n gl cap:Nat)(xs ps:Nat->Nat × Nat)(em:Nat->Bool)(w:World)(hn:n<=100)(hgl:G+n<=gl)
  (hc:∀ k:Nat,k<n->w.cell? ⟨gl,k,none⟩=some (.pointer (some ⟨G+k,0,none⟩)))(hb:∀ k:Nat,k<n->Bx w (G+k) (xs k).1 (xs k).2)
  (hr:∀ k:Nat,k<n->∀ W,Rt 102 #[.agg #[.float .f64 (xs k).1,.float .f64 (xs k).2]] (.agg #[.float .f64 (ps k).1,.float .f64 (ps k).2]) W)
  (he:∀ k:Nat,k<n->Em (em k) (ps k).1 (ps k).2):
  Calls Tryz.prog 75 #[.slice (some ⟨gl,0,none⟩) n cap] w fun e w'=>e=.returned (.bool (anyB em n))/\(∀ k:Nat,k<n->Bx w' (G+k) (ps k).1 (ps k).2)/\KeepN G n w w':=by
 have HC:=Hd hc;have HB:=Hd hb;have HR:=Hd hr;have HE:=Hd he;have HEM:=Hd emptyf;clear hc hb hr he
 go_enter Tryz.func75,Tryz.ntmps75
 go_wp2
 go_loopw [3,5,8] (fun nv _ iv wr=>∃ k:Nat,iv=.int .i64 k/\nv=.bool (anyB em k)/\k<=n/\(∀ t:Nat,t<k->Bx wr (G+t) (ps t).1 (ps t).2)/\(∀ t:Nat,k<=t->t<n->Bx wr (G+t) (xs t).1 (xs t).2)/\KeepN G n w wr) (fun _ _ iv _=>n - (intOf iv).toNat)
 case atStart=>exact⟨0,rfl,rfl,Nat.zero_le _,fun t h=>absurd h (by omega),fun t _ h=>HB.out t h,KeepN.refl _ _ _⟩
 case round=>
  obtain⟨k,rfl,rfl,hk,hd,hl,hkp⟩:=hrel;have HD:=Hd hd;have HL:=Hd hl;have HK:=Hd hkp;clear hd hl hkp
  by_cases hlt:k<n
  ·have hc:=HK.out.cell (HC.out k hlt) (.inr hgl);have hbx:=HL.out k (Nat.le_refl _) hlt;have hem:=HE.out k hlt;have hrd:=HR.out k hlt;have hS:anyB em (k+1)=(anyB em k || em k):=rfl
   obtain⟨p,hp⟩:∃ p,(ps k).1=p:=⟨_,rfl⟩
   obtain⟨q,hq⟩:∃ p,(ps k).2=p:=⟨_,rfl⟩
   obtain⟨x,hx⟩:∃ p,(xs k).1=p:=⟨_,rfl⟩
   obtain⟨y,hy⟩:∃ p,(xs k).2=p:=⟨_,rfl⟩
   rw [hp,hq] at hem hrd;rw [hx,hy] at hrd hbx
   obtain⟨na,hna⟩:∃ b,anyB em k=b:=⟨_,rfl⟩
   obtain⟨ea,hea⟩:∃ b,em k=b:=⟨_,rfl⟩
   rw [hna,hea] at hS;rw [hea] at hem;rw [hna];have HRD:=Hd hrd;have HMM:=Hd hem;have HP:=Hd hp;have HQ:=Hd hq;have HS:=Hd hS;clear hem hrd hp hq hx hy hna hea hS;have q0:_=some (.float .f64 x:Value):=Blk.cell hbx 0;have q1:_=some (.float .f64 y:Value):=Blk.cell hbx 1;go_wp2_with fail;refine cx (HRD.out _) fun w1 hb1=>?_;have hb2:=Bx.keep hbx hb1;have HD1:=Hd fun t h=>(HD.out t h).keep hb1;have HL1:=Hd fun t h h'=>(HL.out t h h').keep hb1;have HK1:=Hd (HK.out.below hb1);clear hb1 q0 q1 HRD HD HL HK hc hbx;have q0:_=some (.float .f64 x:Value):=Blk.cell hb2 0;have q1:_=some (.float .f64 y:Value):=Blk.cell hb2 1;have f0:=Blk.frozen hb2 0;have f1:=Blk.frozen hb2 1;have HB2:=Hd (hb2.set p q)
   go_upto_region 6 with fail
   have HS6:=Hd (show (∀ t:Nat,t<k+1->Bx ((w1.setCell ⟨G+k,0,none⟩ (.float .f64 p)).setCell ⟨G+k,1,none⟩ (.float .f64 q)) (G+t) (ps t).1 (ps t).2)/\(∀ t:Nat,k+1<=t->t<n->Bx ((w1.setCell ⟨G+k,0,none⟩ (.float .f64 p)).setCell ⟨G+k,1,none⟩ (.float .f64 q)) (G+t) (xs t).1 (xs t).2)/\KeepN G n w ((w1.setCell ⟨G+k,0,none⟩ (.float .f64 p)).setCell ⟨G+k,1,none⟩ (.float .f64 q)) from
    ⟨fun t h=>by
      by_cases e:t=k
      ·subst e;rw [HP.out,HQ.out];exact HB2.out
      ·exact (HD1.out t (by omega)).far (by omega) _ _,fun t h h'=>(HL1.out t (by omega) h').far (by omega) _ _,HK1.out.set hlt _ _⟩)
   obtain⟨W2,hW2⟩:∃ W,(w1.setCell ⟨G+k,0,none⟩ (.float .f64 p)).setCell ⟨G+k,1,none⟩ (.float .f64 q)=W:=⟨_,rfl⟩
   rw [hW2] at HS6 ⊢;clear hW2 q0 q1 f0 f1 hb2 HB2 HD1 HL1 HK1
   cases na
   ·obtain⟨hm1,hm2⟩:=HMM.out;clear HMM
    cases ea
    ·have m1:=hm2 rfl;clear hm1 hm2;refine wp_region_held_drew (S:=fun W'=>(∀ t:Nat,t<k+1->Bx W' (G+t) (ps t).1 (ps t).2)/\(∀ t:Nat,k+1<=t->t<n->Bx W' (G+t) (xs t).1 (xs t).2)/\KeepN G n w W') (by kernel_rfl) (by exact⟨fun t h=>HS6.out.1 t h,fun t h h2=>HS6.out.2.1 t h h2,HS6.out.2.2.drew⟩) (fun hHeld=>?_);refine tks 0 ?_;refine tks 1 ?_;refine tks 2 ?_;refine tks 3 ?_;refine tks 4 ?_ (hv:=by intro W2 hSw;have hbx:=hSw.1 k (by omega);rw [HP.out,HQ.out] at hbx;have q0:_=some (.float .f64 p:Value):=Blk.cell hbx 0;have q1:_=some (.float .f64 q:Value):=Blk.cell hbx 1;go_simp;(try with_reducible rfl));refine rdy 5 fun KK hKK=>?_;go_simp;refine cx (HEM.out _) fun w3 hbE=>?_;go_wp2_with fail;refine hKK.out _ _ (⟨fun t h=>(hHeld.1 t h).keep hbE,fun t h h2=>(hHeld.2.1 t h h2).keep hbE,hHeld.2.2.below hbE⟩) (fun _=>?_);clear hKK KK hHeld;rename_i hHeld;(try simp only [Act.put,lay]);refine tks 6 ?_;refine tks 7 ?_;refine tks 8 ?_;refine wpAnyH_done (by kernel_rfl) ?_ _;go_wp2
     go_roundw
     case rel=>exact⟨k+1,by go_num,by rw [HS.out];rfl,by omega,hHeld.1,hHeld.2.1,hHeld.2.2⟩
     case measure=>simp [intOf];omega
    ·obtain⟨m1,m2⟩:=hm1 rfl;clear hm1 hm2;refine wp_region_held_drew (S:=fun W'=>(∀ t:Nat,t<k+1->Bx W' (G+t) (ps t).1 (ps t).2)/\(∀ t:Nat,k+1<=t->t<n->Bx W' (G+t) (xs t).1 (xs t).2)/\KeepN G n w W') (by kernel_rfl) (by exact⟨fun t h=>HS6.out.1 t h,fun t h h2=>HS6.out.2.1 t h h2,HS6.out.2.2.drew⟩) (fun hHeld=>?_);refine tks 0 ?_;refine tks 1 ?_;refine tks 2 ?_;refine tks 3 ?_;refine tks 4 ?_ (hv:=by intro W2 hSw;have hbx:=hSw.1 k (by omega);rw [HP.out,HQ.out] at hbx;have q0:_=some (.float .f64 p:Value):=Blk.cell hbx 0;have q1:_=some (.float .f64 q:Value):=Blk.cell hbx 1;go_simp;(try with_reducible rfl));refine rdy 5 fun KK hKK=>?_;go_simp;refine cx (HEM.out _) fun w3 hbE=>?_;go_wp2_with fail;refine hKK.out _ _ (⟨fun t h=>(hHeld.1 t h).keep hbE,fun t h h2=>(hHeld.2.1 t h h2).keep hbE,hHeld.2.2.below hbE⟩) (fun _=>?_);clear hKK KK hHeld;rename_i hHeld;(try simp only [Act.put,lay]);refine tks 6 ?_;refine tks 7 ?_;refine tks 8 ?_;refine wpAnyH_done (by kernel_rfl) ?_ _;go_wp2
     go_roundw
     case rel=>exact⟨k+1,by go_num,by rw [HS.out];rfl,by omega,hHeld.1,hHeld.2.1,hHeld.2.2⟩
     case measure=>simp [intOf];omega
   ·skip;refine wp_region_held_drew (S:=fun W'=>(∀ t:Nat,t<k+1->Bx W' (G+t) (ps t).1 (ps t).2)/\(∀ t:Nat,k+1<=t->t<n->Bx W' (G+t) (xs t).1 (xs t).2)/\KeepN G n w W') (by kernel_rfl) (by exact⟨fun t h=>HS6.out.1 t h,fun t h h2=>HS6.out.2.1 t h h2,HS6.out.2.2.drew⟩) (fun hHeld=>?_);refine tks 0 ?_;refine tks 1 ?_;refine tkns 2 ?_;refine tkns 3 ?_;refine tkns 4 ?_;refine tkns 5 ?_;refine tkns 6 ?_;refine tks 7 ?_;refine tks 8 ?_;refine wpAnyH_done (by kernel_rfl) ?_ _;go_wp2
    go_roundw
    case rel=>exact⟨k+1,by go_num,by rw [HS.out];rfl,by omega,hHeld.1,hHeld.2.1,hHeld.2.2⟩
    case measure=>simp [intOf];omega
  ·obtain rfl:k=n:=by omega
   go_wp2
   go_ret
   exact⟨rfl,HD.out,HK.out⟩
end
section
open Go.RowKit
theorem KeepN.blk{G n r:Nat}{t:TypeId}{cs:Array Value}{w w':World}(h:KeepN G n w w')(hr:Blk w r t cs)(h0:r<G\/G+n<=r):Blk w' r t cs:=(h.block r hr.lt h0).trans hr
end
section
open Go.RowKit
theorem readL32(w:World){b1 c1 b2 c2 p1 q1 p2 q2:Nat}{d1 d2 d:Bool}(e3:Array Value)(t3:TypeId)(s1:∀ W,Rt 102 #[Zf b1 c1] (Zf p1 q1) W)(m1:Em d1 p1 q1)(s2:∀ W,Rt 102 #[Zf b2 c2] (Zf p2 q2) W)(m2:Em d2 p2 q2)(hnn:(d1 || d2)=d):
  Hid (Calls Tryz.prog 75 #[.slice (some ⟨w.heap.size+1+1+1,0,none⟩) 2 2] ((((w.alloc (.cells (Zv b1 c1) 28)).alloc (.cells (Zv b2 c2) 28)).alloc (.cells e3 t3)).alloc (.cells #[.pointer (some ⟨w.heap.size,0,none⟩),.pointer (some ⟨w.heap.size+1,0,none⟩)] 75)) fun e wk=>e=.returned (.bool d)/\Lies w wk [(w.heap.size,28,(Zv p1 q1)),((w.heap.size+1),28,(Zv p2 q2)),((w.heap.size+2),t3,e3)] []):=by
 have LL:=li3 w (Zv b1 c1) 28 (Zv b2 c2) 28 e3 t3;have hrow:=Blk.at (W:=(((w.alloc (.cells (Zv b1 c1) 28)).alloc (.cells (Zv b2 c2) 28)).alloc (.cells e3 t3))) (g:=w.heap.size+1+1+1) (by simp) 75 #[.pointer (some ⟨w.heap.size,0,none⟩),.pointer (some ⟨w.heap.size+1,0,none⟩)]
 have HRD:=read_n w.heap.size 2 (w.heap.size+1+1+1) 2 (fun k:Nat=>if k=0 then (b1,c1) else (b2,c2)) (fun k:Nat=>if k=0 then (p1,q1) else (p2,q2)) (fun k:Nat=>if k=0 then d1 else d2) _ (by omega) (by omega)
  (fun k hk=>by match k,hk with | 0,_=>exact hrow.cell 0 | 1,_=>exact hrow.cell 1) (fun k hk=>by match k,hk with | 0,_=>exact (LL.out.blk 0 rfl).alloc (.cells #[.pointer (some ⟨w.heap.size,0,none⟩),.pointer (some ⟨w.heap.size+1,0,none⟩)] 75) | 1,_=>exact (LL.out.blk 1 rfl).alloc (.cells #[.pointer (some ⟨w.heap.size,0,none⟩),.pointer (some ⟨w.heap.size+1,0,none⟩)] 75)) (fun k hk=>by match k,hk with | 0,_=>exact s1 | 1,_=>exact s2) (fun k hk=>by match k,hk with | 0,_=>exact m1 | 1,_=>exact m2)
 rw [show anyB (fun k:Nat=>if k=0 then d1 else d2) 2=(d1 || d2) from by simp [anyB],hnn] at HRD;have LLR:=LL.out.alloc (.cells #[.pointer (some ⟨w.heap.size,0,none⟩),.pointer (some ⟨w.heap.size+1,0,none⟩)] 75)
 have HSZ:w.heap.size<=((((w.alloc (.cells (Zv b1 c1) 28)).alloc (.cells (Zv b2 c2) 28)).alloc (.cells e3 t3)).alloc (.cells #[.pointer (some ⟨w.heap.size,0,none⟩),.pointer (some ⟨w.heap.size+1,0,none⟩)] 75)).heap.size:=by simp;omega
 refine Hd (HRD.mono ?_);rintro e wk ⟨rfl,hd,kp⟩
 exact⟨rfl,kp.toBl LLR.b HSZ (Nat.le_refl _),by simp only [List.mem_cons,List.not_mem_nil,or_false,forall_eq_or_imp,forall_eq];exact⟨show Blk wk w.heap.size 28 (Zv p1 q1) from hd 0 (by omega),show Blk wk (w.heap.size+1) 28 (Zv p2 q2) from hd 1 (by omega),kp.blk (LLR.blk 2 rfl) (by omega)⟩,by simp⟩
theorem readL43(w:World){b1 c1 b2 c2 b3 c3 p1 q1 p2 q2 p3 q3:Nat}{d1 d2 d3 d:Bool}(e4:Array Value)(t4:TypeId)(s1:∀ W,Rt 102 #[Zf b1 c1] (Zf p1 q1) W)(m1:Em d1 p1 q1)(s2:∀ W,Rt 102 #[Zf b2 c2] (Zf p2 q2) W)(m2:Em d2 p2 q2)(s3:∀ W,Rt 102 #[Zf b3 c3] (Zf p3 q3) W)(m3:Em d3 p3 q3)(hnn:(d1 || d2 || d3)=d):
  Hid (Calls Tryz.prog 75 #[.slice (some ⟨w.heap.size+1+1+1+1,0,none⟩) 3 3] (((((w.alloc (.cells (Zv b1 c1) 28)).alloc (.cells (Zv b2 c2) 28)).alloc (.cells (Zv b3 c3) 28)).alloc (.cells e4 t4)).alloc (.cells #[.pointer (some ⟨w.heap.size,0,none⟩),.pointer (some ⟨w.heap.size+1,0,none⟩),.pointer (some ⟨w.heap.size+2,0,none⟩)] 75)) fun e wk=>e=.returned (.bool d)/\Lies w wk [(w.heap.size,28,(Zv p1 q1)),((w.heap.size+1),28,(Zv p2 q2)),((w.heap.size+2),28,(Zv p3 q3)),((w.heap.size+3),t4,e4)] []):=by
 have LL:=li4 w (Zv b1 c1) 28 (Zv b2 c2) 28 (Zv b3 c3) 28 e4 t4;have hrow:=Blk.at (W:=((((w.alloc (.cells (Zv b1 c1) 28)).alloc (.cells (Zv b2 c2) 28)).alloc (.cells (Zv b3 c3) 28)).alloc (.cells e4 t4))) (g:=w.heap.size+1+1+1+1) (by simp) 75 #[.pointer (some ⟨w.heap.size,0,none⟩),.pointer (some ⟨w.heap.size+1,0,none⟩),.pointer (some ⟨w.heap.size+2,0,none⟩)]
 have HRD:=read_n w.heap.size 3 (w.heap.size+1+1+1+1) 3 (fun k:Nat=>if k=0 then (b1,c1) else if k=1 then (b2,c2) else (b3,c3)) (fun k:Nat=>if k=0 then (p1,q1) else if k=1 then (p2,q2) else (p3,q3)) (fun k:Nat=>if k=0 then d1 else if k=1 then d2 else d3) _ (by omega) (by omega)
  (fun k hk=>by match k,hk with | 0,_=>exact hrow.cell 0 | 1,_=>exact hrow.cell 1 | 2,_=>exact hrow.cell 2) (fun k hk=>by match k,hk with | 0,_=>exact (LL.out.blk 0 rfl).alloc (.cells #[.pointer (some ⟨w.heap.size,0,none⟩),.pointer (some ⟨w.heap.size+1,0,none⟩),.pointer (some ⟨w.heap.size+2,0,none⟩)] 75) | 1,_=>exact (LL.out.blk 1 rfl).alloc (.cells #[.pointer (some ⟨w.heap.size,0,none⟩),.pointer (some ⟨w.heap.size+1,0,none⟩),.pointer (some ⟨w.heap.size+2,0,none⟩)] 75) | 2,_=>exact (LL.out.blk 2 rfl).alloc (.cells #[.pointer (some ⟨w.heap.size,0,none⟩),.pointer (some ⟨w.heap.size+1,0,none⟩),.pointer (some ⟨w.heap.size+2,0,none⟩)] 75)) (fun k hk=>by match k,hk with | 0,_=>exact s1 | 1,_=>exact s2 | 2,_=>exact s3) (fun k hk=>by match k,hk with | 0,_=>exact m1 | 1,_=>exact m2 | 2,_=>exact m3)
 rw [show anyB (fun k:Nat=>if k=0 then d1 else if k=1 then d2 else d3) 3=(d1 || d2 || d3) from by simp [anyB],hnn] at HRD;have LLR:=LL.out.alloc (.cells #[.pointer (some ⟨w.heap.size,0,none⟩),.pointer (some ⟨w.heap.size+1,0,none⟩),.pointer (some ⟨w.heap.size+2,0,none⟩)] 75)
 have HSZ:w.heap.size<=(((((w.alloc (.cells (Zv b1 c1) 28)).alloc (.cells (Zv b2 c2) 28)).alloc (.cells (Zv b3 c3) 28)).alloc (.cells e4 t4)).alloc (.cells #[.pointer (some ⟨w.heap.size,0,none⟩),.pointer (some ⟨w.heap.size+1,0,none⟩),.pointer (some ⟨w.heap.size+2,0,none⟩)] 75)).heap.size:=by simp;omega
 refine Hd (HRD.mono ?_);rintro e wk ⟨rfl,hd,kp⟩
 exact⟨rfl,kp.toBl LLR.b HSZ (Nat.le_refl _),by simp only [List.mem_cons,List.not_mem_nil,or_false,forall_eq_or_imp,forall_eq];exact⟨show Blk wk w.heap.size 28 (Zv p1 q1) from hd 0 (by omega),show Blk wk (w.heap.size+1) 28 (Zv p2 q2) from hd 1 (by omega),show Blk wk (w.heap.size+2) 28 (Zv p3 q3) from hd 2 (by omega),kp.blk (LLR.blk 3 rfl) (by omega)⟩,by simp⟩
theorem readL54(w:World){b1 c1 b2 c2 b3 c3 b4 c4 p1 q1 p2 q2 p3 q3 p4 q4:Nat}{d1 d2 d3 d4 d:Bool}(e5:Array Value)(t5:TypeId)(s1:∀ W,Rt 102 #[Zf b1 c1] (Zf p1 q1) W)(m1:Em d1 p1 q1)(s2:∀ W,Rt 102 #[Zf b2 c2] (Zf p2 q2) W)(m2:Em d2 p2 q2)(s3:∀ W,Rt 102 #[Zf b3 c3] (Zf p3 q3) W)(m3:Em d3 p3 q3)(s4:∀ W,Rt 102 #[Zf b4 c4] (Zf p4 q4) W)(m4:Em d4 p4 q4)(hnn:(d1 || d2 || d3 || d4)=d):
  Hid (Calls Tryz.prog 75 #[.slice (some ⟨w.heap.size+1+1+1+1+1,0,none⟩) 4 4] ((((((w.alloc (.cells (Zv b1 c1) 28)).alloc (.cells (Zv b2 c2) 28)).alloc (.cells (Zv b3 c3) 28)).alloc (.cells (Zv b4 c4) 28)).alloc (.cells e5 t5)).alloc (.cells #[.pointer (some ⟨w.heap.size,0,none⟩),.pointer (some ⟨w.heap.size+1,0,none⟩),.pointer (some ⟨w.heap.size+2,0,none⟩),.pointer (some ⟨w.heap.size+3,0,none⟩)] 75)) fun e wk=>e=.returned (.bool d)/\Lies w wk [(w.heap.size,28,(Zv p1 q1)),((w.heap.size+1),28,(Zv p2 q2)),((w.heap.size+2),28,(Zv p3 q3)),((w.heap.size+3),28,(Zv p4 q4)),((w.heap.size+4),t5,e5)] []):=by
 have LL:=li5 w (Zv b1 c1) 28 (Zv b2 c2) 28 (Zv b3 c3) 28 (Zv b4 c4) 28 e5 t5;have hrow:=Blk.at (W:=(((((w.alloc (.cells (Zv b1 c1) 28)).alloc (.cells (Zv b2 c2) 28)).alloc (.cells (Zv b3 c3) 28)).alloc (.cells (Zv b4 c4) 28)).alloc (.cells e5 t5))) (g:=w.heap.size+1+1+1+1+1) (by simp) 75 #[.pointer (some ⟨w.heap.size,0,none⟩),.pointer (some ⟨w.heap.size+1,0,none⟩),.pointer (some ⟨w.heap.size+2,0,none⟩),.pointer (some ⟨w.heap.size+3,0,none⟩)]
 have HRD:=read_n w.heap.size 4 (w.heap.size+1+1+1+1+1) 4 (fun k:Nat=>if k=0 then (b1,c1) else if k=1 then (b2,c2) else if k=2 then (b3,c3) else (b4,c4)) (fun k:Nat=>if k=0 then (p1,q1) else if k=1 then (p2,q2) else if k=2 then (p3,q3) else (p4,q4)) (fun k:Nat=>if k=0 then d1 else if k=1 then d2 else if k=2 then d3 else d4) _ (by omega) (by omega)
  (fun k hk=>by match k,hk with | 0,_=>exact hrow.cell 0 | 1,_=>exact hrow.cell 1 | 2,_=>exact hrow.cell 2 | 3,_=>exact hrow.cell 3) (fun k hk=>by match k,hk with | 0,_=>exact (LL.out.blk 0 rfl).alloc (.cells #[.pointer (some ⟨w.heap.size,0,none⟩),.pointer (some ⟨w.heap.size+1,0,none⟩),.pointer (some ⟨w.heap.size+2,0,none⟩),.pointer (some ⟨w.heap.size+3,0,none⟩)] 75) | 1,_=>exact (LL.out.blk 1 rfl).alloc (.cells #[.pointer (some ⟨w.heap.size,0,none⟩),.pointer (some ⟨w.heap.size+1,0,none⟩),.pointer (some ⟨w.heap.size+2,0,none⟩),.pointer (some ⟨w.heap.size+3,0,none⟩)] 75) | 2,_=>exact (LL.out.blk 2 rfl).alloc (.cells #[.pointer (some ⟨w.heap.size,0,none⟩),.pointer (some ⟨w.heap.size+1,0,none⟩),.pointer (some ⟨w.heap.size+2,0,none⟩),.pointer (some ⟨w.heap.size+3,0,none⟩)] 75) | 3,_=>exact (LL.out.blk 3 rfl).alloc (.cells #[.pointer (some ⟨w.heap.size,0,none⟩),.pointer (some ⟨w.heap.size+1,0,none⟩),.pointer (some ⟨w.heap.size+2,0,none⟩),.pointer (some ⟨w.heap.size+3,0,none⟩)] 75)) (fun k hk=>by match k,hk with | 0,_=>exact s1 | 1,_=>exact s2 | 2,_=>exact s3 | 3,_=>exact s4) (fun k hk=>by match k,hk with | 0,_=>exact m1 | 1,_=>exact m2 | 2,_=>exact m3 | 3,_=>exact m4)
 rw [show anyB (fun k:Nat=>if k=0 then d1 else if k=1 then d2 else if k=2 then d3 else d4) 4=(d1 || d2 || d3 || d4) from by simp [anyB],hnn] at HRD;have LLR:=LL.out.alloc (.cells #[.pointer (some ⟨w.heap.size,0,none⟩),.pointer (some ⟨w.heap.size+1,0,none⟩),.pointer (some ⟨w.heap.size+2,0,none⟩),.pointer (some ⟨w.heap.size+3,0,none⟩)] 75)
 have HSZ:w.heap.size<=((((((w.alloc (.cells (Zv b1 c1) 28)).alloc (.cells (Zv b2 c2) 28)).alloc (.cells (Zv b3 c3) 28)).alloc (.cells (Zv b4 c4) 28)).alloc (.cells e5 t5)).alloc (.cells #[.pointer (some ⟨w.heap.size,0,none⟩),.pointer (some ⟨w.heap.size+1,0,none⟩),.pointer (some ⟨w.heap.size+2,0,none⟩),.pointer (some ⟨w.heap.size+3,0,none⟩)] 75)).heap.size:=by simp;omega
 refine Hd (HRD.mono ?_);rintro e wk ⟨rfl,hd,kp⟩
 exact⟨rfl,kp.toBl LLR.b HSZ (Nat.le_refl _),by simp only [List.mem_cons,List.not_mem_nil,or_false,forall_eq_or_imp,forall_eq];exact⟨show Blk wk w.heap.size 28 (Zv p1 q1) from hd 0 (by omega),show Blk wk (w.heap.size+1) 28 (Zv p2 q2) from hd 1 (by omega),show Blk wk (w.heap.size+2) 28 (Zv p3 q3) from hd 2 (by omega),show Blk wk (w.heap.size+3) 28 (Zv p4 q4) from hd 3 (by omega),kp.blk (LLR.blk 4 rfl) (by omega)⟩,by simp⟩
end
section
open Go.RowKit
attribute [local go_sem] run_store_float run_eqf
set_option maxRecDepth 8000 in
theorem both_gen(u1 u2 v1 v2 p1 p2 q1 q2:Nat)(a b:Bool)(w:World)(hx:∀ W,Rt 102 #[Zf u1 u2] (Zf p1 p2) W)(hy:∀ W,Rt 102 #[Zf v1 v2] (Zf q1 q2) W)(ha:Em a p1 p2)(hb:Em b q1 q2):
  Rt 138 #[Zf u1 u2,Zf v1 v2] (.tuple #[Zf p1 p2,Zf q1 q2,.int .i64 ((if a then 1 else 0)+(if b then 2 else 0))]) w:=by
 have HE:=Hd emptyf
 have o01:bits .or .i64 0 1=1:=by decide
 have o02:bits .or .i64 0 2=2:=by decide
 have o12:bits .or .i64 1 2=3:=by decide
 have HX:=Hd hx;have HY:=Hd hy;have HA:=Hd ha;have HB:=Hd hb;clear hx hy ha hb;have LL:=li4 w (Zv u1 u2) 28 (Zv v1 v2) 28 (Zv 0 0) 28 (Zv 0 0) 28
 go_enter Tryz.func138,Tryz.ntmps138
 have PB2:=Hd (LL.out.blk 0 rfl);have PB3:=Hd (LL.out.blk 1 rfl)
 go_upto_region 1 with fail
 go_cut [7] (fun s7 wx=>s7=undef/\Lies w wx [((w.heap.size+2),28,(Zv 0 0)),((w.heap.size+3),28,(Zv 0 0)),((w.heap.size+1),28,(Zv q1 q2)),(w.heap.size,28,(Zv p1 p2))] [])
 case first=>
  replace LL:=Hd (LL.out.loose0 rfl);replace LL:=Hd (LL.out.loose0 rfl);refine regL LL (fun hHeld=>?_);clear LL
  obtain⟨wk,hwk⟩:∃ X,(((((w.alloc (.cells (Zv u1 u2) 28)).alloc (.cells (Zv v1 v2) 28)).alloc (.cells (Zv 0 0) 28)).alloc (.cells (Zv 0 0) 28))).drew=X:=⟨_,rfl⟩
  replace PB2:=Hd PB2.out.drew;replace PB3:=Hd PB3.out.drew;rw [hwk] at hHeld PB2 PB3 ⊢;clear hwk
  repeat' first
   | (have hx:=hR0;clear hx;have BXo:=PB2.out;obtain⟨qr0,qr1⟩:=BXo.c2;go_simp;refine hR0.out _ _ hHeld (fun _=>?_);clear hR0 KK hHeld BXo qr0 qr1;rename_i hHeld;(try simp only [Act.put,lay]);have mk0:=True.intro)
   | (have hx:=hC1;clear hx;go_simp;refine (HX.out _).mono ?_;rintro e wk ⟨rfl,hb1⟩;go_wp2_with fail;refine hC1.out _ _ (hHeld.keep hb1) (fun _=>?_);clear hC1 KK hHeld;rename_i hHeld;(try simp only [Act.put,lay]);(try replace PB2:=Hd (PB2.out.keep hb1));(try replace PB3:=Hd (PB3.out.keep hb1));clear hb1;have mk1:=True.intro)
   | (have hx:=hR2;clear hx;have BXo:=PB3.out;obtain⟨qr0,qr1⟩:=BXo.c2;go_simp;refine hR2.out _ _ hHeld (fun _=>?_);clear hR2 KK hHeld BXo qr0 qr1;rename_i hHeld;(try simp only [Act.put,lay]);have mk2:=True.intro)
   | (have hx:=hC3;clear hx;go_simp;refine (HY.out _).mono ?_;rintro e wk ⟨rfl,hb2⟩;go_wp2_with fail;refine hC3.out _ _ (hHeld.keep hb2) (fun _=>?_);clear hC3 KK hHeld;rename_i hHeld;(try simp only [Act.put,lay]);(try replace PB2:=Hd (PB2.out.keep hb2));(try replace PB3:=Hd (PB3.out.keep hb2));clear hb2;have mk3:=True.intro)
   | (have hx:=hS4;clear hx;obtain⟨ha0,hf0,ha1,hf1⟩:=(hHeld.has 1 rfl).sf2;obtain⟨csx,hbx,-,hcx⟩:=hHeld.has 1 rfl;(try clear PB2);(try clear PB3);clear hbx hcx;go_simp;have HS_1:=(hHeld.has 1 rfl).laid [.float .f64 p1,.float .f64 p2] rfl;refine hS4.out _ _ (hHeld.over 1 rfl [.float .f64 p1,.float .f64 p2] rfl rfl (by first | omega | exact hHeld.le_of 1 rfl) (by simp<;>omega) (by simp<;>omega)) (fun _=>?_);clear hS4 KK hHeld;rename_i hHeld;(try simp only [Act.put,lay]);(try replace HS_0:=HS_0.other (r:=w.heap.size) (by omega) 0 [.float .f64 p1,.float .f64 p2]);replace hHeld:=(show Lies _ (sets wk w.heap.size 0 [.float .f64 p1,.float .f64 p2]) _ _ from hHeld);obtain⟨wk,hwn⟩:∃ X,sets wk w.heap.size 0 [.float .f64 p1,.float .f64 p2]=X:=⟨_,rfl⟩;rw [hwn] at hHeld HS_1;(try rw [hwn] at HS_0);simp only [sets] at hwn;rw [hwn];clear hwn ha0 hf0 ha1 hf1;have mk4:=True.intro)
   | (have hx:=hS5;clear hx;obtain⟨ha0,hf0,ha1,hf1⟩:=(hHeld.has 0 rfl).sf2;obtain⟨csx,hbx,-,hcx⟩:=hHeld.has 0 rfl;(try clear PB2);(try clear PB3);clear hbx hcx;go_simp;have HS_0:=(hHeld.has 0 rfl).laid [.float .f64 q1,.float .f64 q2] rfl;refine hS5.out _ _ (hHeld.over 0 rfl [.float .f64 q1,.float .f64 q2] rfl rfl (by first | omega | exact hHeld.le_of 0 rfl) (by simp<;>omega) (by simp<;>omega)) (fun _=>?_);clear hS5 KK hHeld;rename_i hHeld;(try simp only [Act.put,lay]);(try replace HS_1:=HS_1.other (r:=(w.heap.size+1)) (by omega) 0 [.float .f64 q1,.float .f64 q2]);replace hHeld:=(show Lies _ (sets wk (w.heap.size+1) 0 [.float .f64 q1,.float .f64 q2]) _ _ from hHeld);obtain⟨wk,hwn⟩:∃ X,sets wk (w.heap.size+1) 0 [.float .f64 q1,.float .f64 q2]=X:=⟨_,rfl⟩;rw [hwn] at hHeld HS_0;(try rw [hwn] at HS_1);simp only [sets] at hwn;rw [hwn];clear hwn ha0 hf0 ha1 hf1;have mk5:=True.intro)
   | (have hx:=mk0;have hx:=mk1;have hx:=mk2;have hx:=mk3;have hx:=mk4;have hx:=mk5;refine wpAnyH_done (by kernel_rfl) ?_ _;clear hx mk0 mk1 mk2 mk3 mk4 mk5;go_wp2_with fail;go_meet;exact⟨rfl,(hHeld.tight HS_0).tight HS_1⟩)
   | (have hx:=mk0;have hx:=mk1;have hx:=mk2;have hx:=mk3;have hx:=mk4;refine rdy 5 (fun KK hS5=>?_))
   | (have hx:=mk0;have hx:=mk1;have hx:=mk2;have hx:=mk3;refine rdy 4 (fun KK hS4=>?_))
   | (have hx:=mk0;have hx:=mk1;have hx:=mk2;refine rdy 3 (fun KK hC3=>?_))
   | (have hx:=mk0;have hx:=mk2;refine rdy 1 (fun KK hC1=>?_))
   | (have hx:=mk0;have hx:=mk1;refine rdy 2 (fun KK hR2=>?_))
   | (have hx:=mk2;refine rdy 0 (fun KK hR0=>?_))
   | (have hx:=mk0;refine rd2 1 2 (fun KK hC1=>?_) (fun KK hR2=>?_))
   | (refine rd2 0 2 (fun KK hR0=>?_) (fun KK hR2=>?_))
 case rest=>
 obtain⟨rfl,hcl⟩:=hcut;rename World=>wx;clear LL HX HY PB2 PB3;have LL:=Hd hcl;clear hcl;obtain⟨ha1,ha2⟩:=HA.out;obtain⟨hb1,hb2⟩:=HB.out;clear HA HB
 cases a<;>cases b
 ·skip;have e1:=ha2 rfl;have e3:=hb2 rfl;clear ha1 ha2 hb1 hb2;have E3:=Hd e3;clear e3;go_wp2_with fail;refine regL LL (fun hHeld=>?_);clear LL
  obtain⟨wk,hwk⟩:∃ X,(wx).drew=X:=⟨_,rfl⟩
  rw [hwk] at hHeld  ⊢;clear hwk;refine tkb 0 (fun _ h=>(h.blk 3 rfl).c2) ?_;refine rdy 1 fun KK hKK=>?_;go_simp;refine cs (HE.out _) ?_;clear hKK KK hHeld;intro wk hb1 hHeld;clear hb1;refine tks 2 ?_;refine wpAnyH_done (by kernel_rfl) ?_ _;have LL:=Hd hHeld;clear hHeld;have e3:=E3.out;go_wp2_with fail;refine regL LL (fun hHeld=>?_);clear LL
  obtain⟨wk,hwk⟩:∃ X,(wk).drew=X:=⟨_,rfl⟩
  rw [hwk] at hHeld  ⊢;clear hwk;refine tkb 0 (fun _ h=>(h.blk 2 rfl).c2) ?_;refine rdy 1 fun KK hKK=>?_;go_simp;refine cs (HE.out _) ?_;clear hKK KK hHeld;intro wk hb1 hHeld;clear hb1;refine tks 2 ?_;refine wpAnyH_done (by kernel_rfl) ?_ _;have LL:=Hd hHeld;clear hHeld;clear e1;go_wp2_with fail;clear e3;replace LL:=Hd (LL.out.loose0 rfl);replace LL:=Hd (LL.out.loose0 rfl);refine regL LL (fun hHeld=>?_);clear LL
  obtain⟨wk,hwk⟩:∃ X,(wk).drew=X:=⟨_,rfl⟩
  rw [hwk] at hHeld  ⊢;clear hwk;refine tkb 0 (fun _ h=>(h.blk 1 rfl).c2) ?_;refine tkb 1 (fun _ h=>(h.blk 0 rfl).c2) ?_;refine tks 2 ?_;refine rdy 3 fun KK hKK=>?_;obtain⟨ha0,hf0,ha1,hf1⟩:=(hHeld.has 1 rfl).sf2;go_simp;have HS_1:=(hHeld.has 1 rfl).laid [.float .f64 p1,.float .f64 p2] rfl;refine hKK.out _ _ (hHeld.over 1 rfl [.float .f64 p1,.float .f64 p2] rfl rfl (by first | omega | exact hHeld.le_of 1 rfl) (by simp<;>omega) (by simp<;>omega)) (fun _=>?_);clear hKK KK hHeld;rename_i hHeld;(try simp only [Act.put,lay])
  replace hHeld:=(show Lies _ (sets wk (w.heap.size+2) 0 [.float .f64 p1,.float .f64 p2]) _ _ from hHeld)
  obtain⟨wk,hwn⟩:∃ X,sets wk (w.heap.size+2) 0 [.float .f64 p1,.float .f64 p2]=X:=⟨_,rfl⟩
  rw [hwn] at hHeld  HS_1
  simp only [sets] at hwn
  rw [hwn];clear hwn;refine rdy 4 fun KK hKK=>?_;obtain⟨ha0,hf0,ha1,hf1⟩:=(hHeld.has 0 rfl).sf2;go_simp;have HS_0:=(hHeld.has 0 rfl).laid [.float .f64 q1,.float .f64 q2] rfl;refine hKK.out _ _ (hHeld.over 0 rfl [.float .f64 q1,.float .f64 q2] rfl rfl (by first | omega | exact hHeld.le_of 0 rfl) (by simp<;>omega) (by simp<;>omega)) (fun _=>?_);clear hKK KK hHeld;rename_i hHeld;(try simp only [Act.put,lay]);replace HS_1:=HS_1.other (r:=(w.heap.size+3)) (by omega) 0 [.float .f64 q1,.float .f64 q2];refine tks 5 ?_;refine wpAnyH_done (by kernel_rfl) ?_ _;have LB:=Hd hHeld.b;clear hHeld;obtain⟨hk4_0,hk4_1⟩:=HS_1.c2;clear HS_1;obtain⟨hk5_0,hk5_1⟩:=HS_0.c2;clear HS_0
  simp [sets] at hk4_0 hk4_1 hk5_0 hk5_1
  go_wp2;refine bodyPost_ret (v:=.tuple #[Zf p1 p2,Zf q1 q2,.int .i64 0]) (by simp [results,Tryz.results138,go_sem,hk4_0,hk4_1,hk5_0,hk5_1]) rfl ?_
  exact⟨rfl,LB.out⟩
 ·skip;have e1:=ha2 rfl;obtain⟨e3,e4⟩:=hb1 rfl;clear ha1 ha2 hb1 hb2;have E3:=Hd e3;have E4:=Hd e4;clear e3 e4;go_wp2_with fail;refine regL LL (fun hHeld=>?_);clear LL
  obtain⟨wk,hwk⟩:∃ X,(wx).drew=X:=⟨_,rfl⟩
  rw [hwk] at hHeld  ⊢;clear hwk;refine tkb 0 (fun _ h=>(h.blk 3 rfl).c2) ?_;refine rdy 1 fun KK hKK=>?_;go_simp;refine cs (HE.out _) ?_;clear hKK KK hHeld;intro wk hb1 hHeld;clear hb1;refine tks 2 ?_;refine wpAnyH_done (by kernel_rfl) ?_ _;have LL:=Hd hHeld;clear hHeld;have e3:=E3.out;have e4:=E4.out;go_wp2_with fail;refine regL LL (fun hHeld=>?_);clear LL
  obtain⟨wk,hwk⟩:∃ X,(wk).drew=X:=⟨_,rfl⟩
  rw [hwk] at hHeld  ⊢;clear hwk;refine tkb 0 (fun _ h=>(h.blk 2 rfl).c2) ?_;refine rdy 1 fun KK hKK=>?_;go_simp;refine cs (HE.out _) ?_;clear hKK KK hHeld;intro wk hb1 hHeld;clear hb1;refine tks 2 ?_;refine wpAnyH_done (by kernel_rfl) ?_ _;have LL:=Hd hHeld;clear hHeld;clear e1;go_wp2_with fail;clear e3 e4;replace LL:=Hd (LL.out.loose0 rfl);replace LL:=Hd (LL.out.loose0 rfl);refine regL LL (fun hHeld=>?_);clear LL
  obtain⟨wk,hwk⟩:∃ X,(wk).drew=X:=⟨_,rfl⟩
  rw [hwk] at hHeld  ⊢;clear hwk;refine tkb 0 (fun _ h=>(h.blk 1 rfl).c2) ?_;refine tkb 1 (fun _ h=>(h.blk 0 rfl).c2) ?_;refine tks 2 ?_;refine rdy 3 fun KK hKK=>?_;obtain⟨ha0,hf0,ha1,hf1⟩:=(hHeld.has 1 rfl).sf2;go_simp;have HS_1:=(hHeld.has 1 rfl).laid [.float .f64 p1,.float .f64 p2] rfl;refine hKK.out _ _ (hHeld.over 1 rfl [.float .f64 p1,.float .f64 p2] rfl rfl (by first | omega | exact hHeld.le_of 1 rfl) (by simp<;>omega) (by simp<;>omega)) (fun _=>?_);clear hKK KK hHeld;rename_i hHeld;(try simp only [Act.put,lay])
  replace hHeld:=(show Lies _ (sets wk (w.heap.size+2) 0 [.float .f64 p1,.float .f64 p2]) _ _ from hHeld)
  obtain⟨wk,hwn⟩:∃ X,sets wk (w.heap.size+2) 0 [.float .f64 p1,.float .f64 p2]=X:=⟨_,rfl⟩
  rw [hwn] at hHeld  HS_1
  simp only [sets] at hwn
  rw [hwn];clear hwn;refine rdy 4 fun KK hKK=>?_;obtain⟨ha0,hf0,ha1,hf1⟩:=(hHeld.has 0 rfl).sf2;go_simp;have HS_0:=(hHeld.has 0 rfl).laid [.float .f64 q1,.float .f64 q2] rfl;refine hKK.out _ _ (hHeld.over 0 rfl [.float .f64 q1,.float .f64 q2] rfl rfl (by first | omega | exact hHeld.le_of 0 rfl) (by simp<;>omega) (by simp<;>omega)) (fun _=>?_);clear hKK KK hHeld;rename_i hHeld;(try simp only [Act.put,lay]);replace HS_1:=HS_1.other (r:=(w.heap.size+3)) (by omega) 0 [.float .f64 q1,.float .f64 q2];refine tks 5 ?_;refine wpAnyH_done (by kernel_rfl) ?_ _;have LB:=Hd hHeld.b;clear hHeld;obtain⟨hk4_0,hk4_1⟩:=HS_1.c2;clear HS_1;obtain⟨hk5_0,hk5_1⟩:=HS_0.c2;clear HS_0
  simp [sets] at hk4_0 hk4_1 hk5_0 hk5_1
  go_wp2;refine bodyPost_ret (v:=.tuple #[Zf p1 p2,Zf q1 q2,.int .i64 2]) (by simp [results,Tryz.results138,go_sem,hk4_0,hk4_1,hk5_0,hk5_1]) rfl ?_
  exact⟨rfl,LB.out⟩
 ·skip;obtain⟨e1,e2⟩:=ha1 rfl;have e3:=hb2 rfl;clear ha1 ha2 hb1 hb2;have E3:=Hd e3;clear e3;go_wp2_with fail;refine regL LL (fun hHeld=>?_);clear LL
  obtain⟨wk,hwk⟩:∃ X,(wx).drew=X:=⟨_,rfl⟩
  rw [hwk] at hHeld  ⊢;clear hwk;refine tkb 0 (fun _ h=>(h.blk 3 rfl).c2) ?_;refine rdy 1 fun KK hKK=>?_;go_simp;refine cs (HE.out _) ?_;clear hKK KK hHeld;intro wk hb1 hHeld;clear hb1;refine tks 2 ?_;refine wpAnyH_done (by kernel_rfl) ?_ _;have LL:=Hd hHeld;clear hHeld;have e3:=E3.out;go_wp2_with fail;refine regL LL (fun hHeld=>?_);clear LL
  obtain⟨wk,hwk⟩:∃ X,(wk).drew=X:=⟨_,rfl⟩
  rw [hwk] at hHeld  ⊢;clear hwk;refine tkb 0 (fun _ h=>(h.blk 2 rfl).c2) ?_;refine rdy 1 fun KK hKK=>?_;go_simp;refine cs (HE.out _) ?_;clear hKK KK hHeld;intro wk hb1 hHeld;clear hb1;refine tks 2 ?_;refine wpAnyH_done (by kernel_rfl) ?_ _;have LL:=Hd hHeld;clear hHeld;clear e1 e2;go_wp2_with fail;clear e3;replace LL:=Hd (LL.out.loose0 rfl);replace LL:=Hd (LL.out.loose0 rfl);refine regL LL (fun hHeld=>?_);clear LL
  obtain⟨wk,hwk⟩:∃ X,(wk).drew=X:=⟨_,rfl⟩
  rw [hwk] at hHeld  ⊢;clear hwk;refine tkb 0 (fun _ h=>(h.blk 1 rfl).c2) ?_;refine tkb 1 (fun _ h=>(h.blk 0 rfl).c2) ?_;refine tks 2 ?_;refine rdy 3 fun KK hKK=>?_;obtain⟨ha0,hf0,ha1,hf1⟩:=(hHeld.has 1 rfl).sf2;go_simp;have HS_1:=(hHeld.has 1 rfl).laid [.float .f64 p1,.float .f64 p2] rfl;refine hKK.out _ _ (hHeld.over 1 rfl [.float .f64 p1,.float .f64 p2] rfl rfl (by first | omega | exact hHeld.le_of 1 rfl) (by simp<;>omega) (by simp<;>omega)) (fun _=>?_);clear hKK KK hHeld;rename_i hHeld;(try simp only [Act.put,lay])
  replace hHeld:=(show Lies _ (sets wk (w.heap.size+2) 0 [.float .f64 p1,.float .f64 p2]) _ _ from hHeld)
  obtain⟨wk,hwn⟩:∃ X,sets wk (w.heap.size+2) 0 [.float .f64 p1,.float .f64 p2]=X:=⟨_,rfl⟩
  rw [hwn] at hHeld  HS_1
  simp only [sets] at hwn
  rw [hwn];clear hwn;refine rdy 4 fun KK hKK=>?_;obtain⟨ha0,hf0,ha1,hf1⟩:=(hHeld.has 0 rfl).sf2;go_simp;have HS_0:=(hHeld.has 0 rfl).laid [.float .f64 q1,.float .f64 q2] rfl;refine hKK.out _ _ (hHeld.over 0 rfl [.float .f64 q1,.float .f64 q2] rfl rfl (by first | omega | exact hHeld.le_of 0 rfl) (by simp<;>omega) (by simp<;>omega)) (fun _=>?_);clear hKK KK hHeld;rename_i hHeld;(try simp only [Act.put,lay]);replace HS_1:=HS_1.other (r:=(w.heap.size+3)) (by omega) 0 [.float .f64 q1,.float .f64 q2];refine tks 5 ?_;refine wpAnyH_done (by kernel_rfl) ?_ _;have LB:=Hd hHeld.b;clear hHeld;obtain⟨hk4_0,hk4_1⟩:=HS_1.c2;clear HS_1;obtain⟨hk5_0,hk5_1⟩:=HS_0.c2;clear HS_0
  simp [sets] at hk4_0 hk4_1 hk5_0 hk5_1
  go_wp2;refine bodyPost_ret (v:=.tuple #[Zf p1 p2,Zf q1 q2,.int .i64 1]) (by simp [results,Tryz.results138,go_sem,hk4_0,hk4_1,hk5_0,hk5_1]) rfl ?_
  exact⟨rfl,LB.out⟩
 ·skip;obtain⟨e1,e2⟩:=ha1 rfl;obtain⟨e3,e4⟩:=hb1 rfl;clear ha1 ha2 hb1 hb2;have E3:=Hd e3;have E4:=Hd e4;clear e3 e4;go_wp2_with fail;refine regL LL (fun hHeld=>?_);clear LL
  obtain⟨wk,hwk⟩:∃ X,(wx).drew=X:=⟨_,rfl⟩
  rw [hwk] at hHeld  ⊢;clear hwk;refine tkb 0 (fun _ h=>(h.blk 3 rfl).c2) ?_;refine rdy 1 fun KK hKK=>?_;go_simp;refine cs (HE.out _) ?_;clear hKK KK hHeld;intro wk hb1 hHeld;clear hb1;refine tks 2 ?_;refine wpAnyH_done (by kernel_rfl) ?_ _;have LL:=Hd hHeld;clear hHeld;have e3:=E3.out;have e4:=E4.out;go_wp2_with fail;refine regL LL (fun hHeld=>?_);clear LL
  obtain⟨wk,hwk⟩:∃ X,(wk).drew=X:=⟨_,rfl⟩
  rw [hwk] at hHeld  ⊢;clear hwk;refine tkb 0 (fun _ h=>(h.blk 2 rfl).c2) ?_;refine rdy 1 fun KK hKK=>?_;go_simp;refine cs (HE.out _) ?_;clear hKK KK hHeld;intro wk hb1 hHeld;clear hb1;refine tks 2 ?_;refine wpAnyH_done (by kernel_rfl) ?_ _;have LL:=Hd hHeld;clear hHeld;clear e1 e2;go_wp2_with fail;clear e3 e4;replace LL:=Hd (LL.out.loose0 rfl);replace LL:=Hd (LL.out.loose0 rfl);refine regL LL (fun hHeld=>?_);clear LL
  obtain⟨wk,hwk⟩:∃ X,(wk).drew=X:=⟨_,rfl⟩
  rw [hwk] at hHeld  ⊢;clear hwk;refine tkb 0 (fun _ h=>(h.blk 1 rfl).c2) ?_;refine tkb 1 (fun _ h=>(h.blk 0 rfl).c2) ?_;refine tks 2 ?_;refine rdy 3 fun KK hKK=>?_;obtain⟨ha0,hf0,ha1,hf1⟩:=(hHeld.has 1 rfl).sf2;go_simp;have HS_1:=(hHeld.has 1 rfl).laid [.float .f64 p1,.float .f64 p2] rfl;refine hKK.out _ _ (hHeld.over 1 rfl [.float .f64 p1,.float .f64 p2] rfl rfl (by first | omega | exact hHeld.le_of 1 rfl) (by simp<;>omega) (by simp<;>omega)) (fun _=>?_);clear hKK KK hHeld;rename_i hHeld;(try simp only [Act.put,lay])
  replace hHeld:=(show Lies _ (sets wk (w.heap.size+2) 0 [.float .f64 p1,.float .f64 p2]) _ _ from hHeld)
  obtain⟨wk,hwn⟩:∃ X,sets wk (w.heap.size+2) 0 [.float .f64 p1,.float .f64 p2]=X:=⟨_,rfl⟩
  rw [hwn] at hHeld  HS_1
  simp only [sets] at hwn
  rw [hwn];clear hwn;refine rdy 4 fun KK hKK=>?_;obtain⟨ha0,hf0,ha1,hf1⟩:=(hHeld.has 0 rfl).sf2;go_simp;have HS_0:=(hHeld.has 0 rfl).laid [.float .f64 q1,.float .f64 q2] rfl;refine hKK.out _ _ (hHeld.over 0 rfl [.float .f64 q1,.float .f64 q2] rfl rfl (by first | omega | exact hHeld.le_of 0 rfl) (by simp<;>omega) (by simp<;>omega)) (fun _=>?_);clear hKK KK hHeld;rename_i hHeld;(try simp only [Act.put,lay]);replace HS_1:=HS_1.other (r:=(w.heap.size+3)) (by omega) 0 [.float .f64 q1,.float .f64 q2];refine tks 5 ?_;refine wpAnyH_done (by kernel_rfl) ?_ _;have LB:=Hd hHeld.b;clear hHeld;obtain⟨hk4_0,hk4_1⟩:=HS_1.c2;clear HS_1;obtain⟨hk5_0,hk5_1⟩:=HS_0.c2;clear HS_0
  simp [sets] at hk4_0 hk4_1 hk5_0 hk5_1
  go_wp2;refine bodyPost_ret (v:=.tuple #[Zf p1 p2,Zf q1 q2,.int .i64 3]) (by simp [results,Tryz.results138,go_sem,hk4_0,hk4_1,hk5_0,hk5_1]) rfl ?_
  exact⟨rfl,LB.out⟩
set_option maxRecDepth 8000 in
theorem inter_in(u1 u2 v1 v2 p1 p2 q1 q2 m1 m2:Nat)(kk:Int)(w:World)(hB:∀ W,Rt 138 #[Zf u1 u2,Zf v1 v2] (.tuple #[Zf p1 p2,Zf q1 q2,.int .i64 kk]) W)
  (hmx:∀ W ts t,(Builtin.max_ ts t (Zv p1 q1)).run Tryz.prog W=.ok (.float .f64 m1) W)(hmn:∀ W ts t,(Builtin.min_ ts t (Zv p2 q2)).run Tryz.prog W=.ok (.float .f64 m2) W)(hk:kk=0)(ho:(FloatKind.f64.format.order m1 m2 == some Ordering.gt)=false):
  Rt 62 #[Zf u1 u2,Zf v1 v2] (Zf m1 m2) w:=by
 have HB:=Hd hB;have HMX:=Hd hmx;have HMN:=Hd hmn;have HO:=Hd ho;clear hB hmx hmn ho;subst hk;have LL:=li3 w (Zv u1 u2) 28 (Zv v1 v2) 28 (Zv 0 0) 28
 go_enter Tryz.func62,Tryz.ntmps62
 obtain⟨q1_0,q1_1⟩:=(LL.out.blk 0 rfl).c2;obtain⟨q2_0,q2_1⟩:=(LL.out.blk 1 rfl).c2;go_wp2_with fail;refine cx (HB.out _) fun wk hb=>?_;replace LL:=stL LL hb;clear hb q1_0 q1_1 q2_0 q2_1;obtain⟨q3_0,q3_1⟩:=(LL.out.blk 0 rfl).c2;obtain⟨q4_0,q4_1⟩:=(LL.out.blk 1 rfl).c2;have fz2_0:=(LL.out.blk 0 rfl).frozen 0;have fz2_1:=(LL.out.blk 0 rfl).frozen 1;have fz3_0:=(LL.out.blk 1 rfl).frozen 0;have fz3_1:=(LL.out.blk 1 rfl).frozen 1
 go_upto_region 2 with fail
 clear q3_0 q3_1 q4_0 q4_1 fz2_0 fz2_1 fz3_0 fz3_1;replace LL:=Hd (LL.out.part 0 rfl 0 [.float .f64 p1,.float .f64 p2] (by omega) (by simp<;>omega) (by simp<;>omega))
 simp only [List.eraseIdx,laid,List.cons_append,List.nil_append,List.setIfInBounds_toArray,List.set_cons_zero,List.set_cons_succ,Nat.zero_add,Nat.reduceAdd] at LL
 replace LL:=Hd (LL.out.part 0 rfl 0 [.float .f64 q1,.float .f64 q2] (by omega) (by simp<;>omega) (by simp<;>omega))
 simp only [List.eraseIdx,laid,List.cons_append,List.nil_append,List.setIfInBounds_toArray,List.set_cons_zero,List.set_cons_succ,Nat.zero_add,Nat.reduceAdd] at LL
 obtain⟨wn,hwn⟩:∃ X,(sets (sets wk w.heap.size 0 [.float .f64 p1,.float .f64 p2]) (w.heap.size+1) 0 [.float .f64 q1,.float .f64 q2])=X:=⟨_,rfl⟩
 rw [hwn] at LL
 simp only [sets,Nat.reduceAdd] at hwn
 rw [hwn];clear hwn;obtain⟨q5_0,q5_1⟩:=(LL.out.blk 1 rfl).c2;obtain⟨q6_0,q6_1⟩:=(LL.out.blk 2 rfl).c2;have hmx:=HMX.out;have hmn:=HMN.out
 go_upto_region 3 with fail
 clear hmx hmn q5_0 q5_1 q6_0 q6_1;obtain⟨j6,hg,hb_j6,hl_j6,hr_j6,-⟩:=LL.out.fresh 28 (Zv m1 m2)
 simp only [List.mem_cons,List.not_mem_nil,or_false,forall_eq_or_imp,forall_eq,false_imp_iff,implies_true] at hl_j6 hr_j6
 replace LL:=Hd (LL.out.new 28 (Zv m1 m2))
 simp only [List.cons_append,List.nil_append] at LL
 rw [hg] at LL ⊢;clear hg
 obtain⟨wn,hwn⟩:∃ X,wn.alloc (.cells (Zv m1 m2) 28)=X:=⟨_,rfl⟩
 rw [hwn] at LL  ⊢;clear hwn;obtain⟨q7_0,q7_1⟩:=(LL.out.blk 3 rfl).c2;have ho:=HO.out;replace LL:=Hd (LL.out.loose0 rfl);obtain⟨ha4_0,hf4_0,ha4_1,hf4_1⟩:=(LL.out.has 0 rfl).sf2;have LF:=Hd (LL.out.wr [.float .f64 m1,.float .f64 m2]);obtain⟨hk4_0,hk4_1⟩:=(LF.out.blk 3 rfl).c2
 simp [sets] at hk4_0 hk4_1
 clear LL;go_wp2;refine bodyPost_ret (v:=Zf m1 m2) (by simp [results,Tryz.results62,go_sem,hk4_0,hk4_1]) rfl ?_
 exact⟨rfl,LF.out.b⟩
set_option maxRecDepth 8000 in
theorem inter_out(u1 u2 v1 v2 p1 p2 q1 q2 m1 m2:Nat)(kk:Int)(w:World)(hB:∀ W,Rt 138 #[Zf u1 u2,Zf v1 v2] (.tuple #[Zf p1 p2,Zf q1 q2,.int .i64 kk]) W)
  (hmx:∀ W ts t,(Builtin.max_ ts t (Zv p1 q1)).run Tryz.prog W=.ok (.float .f64 m1) W)(hmn:∀ W ts t,(Builtin.min_ ts t (Zv p2 q2)).run Tryz.prog W=.ok (.float .f64 m2) W)(hk:kk≠0\/kk=0/\FloatKind.f64.format.order m1 m2=some Ordering.gt):
  Rt 62 #[Zf u1 u2,Zf v1 v2] (Zf 9218868437227405312 18442240474082181120) w:=by
 have HB:=Hd hB;have HMX:=Hd hmx;have HMN:=Hd hmn;clear hB hmx hmn;have HE:=Hd emptyf
 rcases hk with hk | ⟨rfl,ho⟩
 ·skip;have LL:=li3 w (Zv u1 u2) 28 (Zv v1 v2) 28 (Zv 0 0) 28;have HO:=Hd hk;clear hk
  go_enter Tryz.func62,Tryz.ntmps62
  obtain⟨q1_0,q1_1⟩:=(LL.out.blk 0 rfl).c2;obtain⟨q2_0,q2_1⟩:=(LL.out.blk 1 rfl).c2;go_wp2_with fail;refine cx (HB.out _) fun wk hb=>?_;replace LL:=stL LL hb;clear hb q1_0 q1_1 q2_0 q2_1;obtain⟨q3_0,q3_1⟩:=(LL.out.blk 0 rfl).c2;obtain⟨q4_0,q4_1⟩:=(LL.out.blk 1 rfl).c2;have fz2_0:=(LL.out.blk 0 rfl).frozen 0;have fz2_1:=(LL.out.blk 0 rfl).frozen 1;have fz3_0:=(LL.out.blk 1 rfl).frozen 0;have fz3_1:=(LL.out.blk 1 rfl).frozen 1
  go_upto_region 2 with fail
  clear q3_0 q3_1 q4_0 q4_1 fz2_0 fz2_1 fz3_0 fz3_1;replace LL:=Hd (LL.out.part 0 rfl 0 [.float .f64 p1,.float .f64 p2] (by omega) (by simp<;>omega) (by simp<;>omega))
  simp only [List.eraseIdx,laid,List.cons_append,List.nil_append,List.setIfInBounds_toArray,List.set_cons_zero,List.set_cons_succ,Nat.zero_add,Nat.reduceAdd] at LL
  replace LL:=Hd (LL.out.part 0 rfl 0 [.float .f64 q1,.float .f64 q2] (by omega) (by simp<;>omega) (by simp<;>omega))
  simp only [List.eraseIdx,laid,List.cons_append,List.nil_append,List.setIfInBounds_toArray,List.set_cons_zero,List.set_cons_succ,Nat.zero_add,Nat.reduceAdd] at LL
  obtain⟨wn,hwn⟩:∃ X,(sets (sets wk w.heap.size 0 [.float .f64 p1,.float .f64 p2]) (w.heap.size+1) 0 [.float .f64 q1,.float .f64 q2])=X:=⟨_,rfl⟩
  rw [hwn] at LL
  simp only [sets,Nat.reduceAdd] at hwn
  rw [hwn];clear hwn;obtain⟨q5_0,q5_1⟩:=(LL.out.blk 1 rfl).c2;obtain⟨q6_0,q6_1⟩:=(LL.out.blk 2 rfl).c2;have hmx:=HMX.out;have hmn:=HMN.out
  go_upto_region 3 with fail
  clear hmx hmn q5_0 q5_1 q6_0 q6_1;obtain⟨j6,hg,hb_j6,hl_j6,hr_j6,-⟩:=LL.out.fresh 28 (Zv m1 m2)
  simp only [List.mem_cons,List.not_mem_nil,or_false,forall_eq_or_imp,forall_eq,false_imp_iff,implies_true] at hl_j6 hr_j6
  replace LL:=Hd (LL.out.new 28 (Zv m1 m2))
  simp only [List.cons_append,List.nil_append] at LL
  rw [hg] at LL ⊢;clear hg
  obtain⟨wn,hwn⟩:∃ X,wn.alloc (.cells (Zv m1 m2) 28)=X:=⟨_,rfl⟩
  rw [hwn] at LL  ⊢;clear hwn;have hk:=HO.out;obtain⟨q7_0,q7_1⟩:=(LL.out.blk 3 rfl).c2;go_wp2_with fail;refine cx (HE.out _) fun wk hb=>?_;replace LL:=stL LL hb;clear hb q7_0 q7_1 hk;replace LL:=Hd (LL.out.loose0 rfl);obtain⟨ha4_0,hf4_0,ha4_1,hf4_1⟩:=(LL.out.has 0 rfl).sf2;have LF:=Hd (LL.out.wr [.float .f64 9218868437227405312,.float .f64 18442240474082181120]);obtain⟨hk4_0,hk4_1⟩:=(LF.out.blk 3 rfl).c2
  simp [sets] at hk4_0 hk4_1
  clear LL;go_wp2;refine bodyPost_ret (v:=Zf 9218868437227405312 18442240474082181120) (by simp [results,Tryz.results62,go_sem,hk4_0,hk4_1]) rfl ?_
  exact⟨rfl,LF.out.b⟩
 ·skip;have LL:=li3 w (Zv u1 u2) 28 (Zv v1 v2) 28 (Zv 0 0) 28;have HO:=Hd ho;clear ho
  go_enter Tryz.func62,Tryz.ntmps62
  obtain⟨q1_0,q1_1⟩:=(LL.out.blk 0 rfl).c2;obtain⟨q2_0,q2_1⟩:=(LL.out.blk 1 rfl).c2;go_wp2_with fail;refine cx (HB.out _) fun wk hb=>?_;replace LL:=stL LL hb;clear hb q1_0 q1_1 q2_0 q2_1;obtain⟨q3_0,q3_1⟩:=(LL.out.blk 0 rfl).c2;obtain⟨q4_0,q4_1⟩:=(LL.out.blk 1 rfl).c2;have fz2_0:=(LL.out.blk 0 rfl).frozen 0;have fz2_1:=(LL.out.blk 0 rfl).frozen 1;have fz3_0:=(LL.out.blk 1 rfl).frozen 0;have fz3_1:=(LL.out.blk 1 rfl).frozen 1
  go_upto_region 2 with fail
  clear q3_0 q3_1 q4_0 q4_1 fz2_0 fz2_1 fz3_0 fz3_1;replace LL:=Hd (LL.out.part 0 rfl 0 [.float .f64 p1,.float .f64 p2] (by omega) (by simp<;>omega) (by simp<;>omega))
  simp only [List.eraseIdx,laid,List.cons_append,List.nil_append,List.setIfInBounds_toArray,List.set_cons_zero,List.set_cons_succ,Nat.zero_add,Nat.reduceAdd] at LL
  replace LL:=Hd (LL.out.part 0 rfl 0 [.float .f64 q1,.float .f64 q2] (by omega) (by simp<;>omega) (by simp<;>omega))
  simp only [List.eraseIdx,laid,List.cons_append,List.nil_append,List.setIfInBounds_toArray,List.set_cons_zero,List.set_cons_succ,Nat.zero_add,Nat.reduceAdd] at LL
  obtain⟨wn,hwn⟩:∃ X,(sets (sets wk w.heap.size 0 [.float .f64 p1,.float .f64 p2]) (w.heap.size+1) 0 [.float .f64 q1,.float .f64 q2])=X:=⟨_,rfl⟩
  rw [hwn] at LL
  simp only [sets,Nat.reduceAdd] at hwn
  rw [hwn];clear hwn;obtain⟨q5_0,q5_1⟩:=(LL.out.blk 1 rfl).c2;obtain⟨q6_0,q6_1⟩:=(LL.out.blk 2 rfl).c2;have hmx:=HMX.out;have hmn:=HMN.out
  go_upto_region 3 with fail
  clear hmx hmn q5_0 q5_1 q6_0 q6_1;obtain⟨j6,hg,hb_j6,hl_j6,hr_j6,-⟩:=LL.out.fresh 28 (Zv m1 m2)
  simp only [List.mem_cons,List.not_mem_nil,or_false,forall_eq_or_imp,forall_eq,false_imp_iff,implies_true] at hl_j6 hr_j6
  replace LL:=Hd (LL.out.new 28 (Zv m1 m2))
  simp only [List.cons_append,List.nil_append] at LL
  rw [hg] at LL ⊢;clear hg
  obtain⟨wn,hwn⟩:∃ X,wn.alloc (.cells (Zv m1 m2) 28)=X:=⟨_,rfl⟩
  rw [hwn] at LL  ⊢;clear hwn;have ho:=HO.out;obtain⟨q7_0,q7_1⟩:=(LL.out.blk 3 rfl).c2;go_wp2_with fail;refine cx (HE.out _) fun wk hb=>?_;replace LL:=stL LL hb;clear hb q7_0 q7_1 ho;replace LL:=Hd (LL.out.loose0 rfl);obtain⟨ha4_0,hf4_0,ha4_1,hf4_1⟩:=(LL.out.has 0 rfl).sf2;have LF:=Hd (LL.out.wr [.float .f64 9218868437227405312,.float .f64 18442240474082181120]);obtain⟨hk4_0,hk4_1⟩:=(LF.out.blk 3 rfl).c2
  simp [sets] at hk4_0 hk4_1
  clear LL;go_wp2;refine bodyPost_ret (v:=Zf 9218868437227405312 18442240474082181120) (by simp [results,Tryz.results62,go_sem,hk4_0,hk4_1]) rfl ?_
  exact⟨rfl,LF.out.b⟩
theorem inter_gen(i j i' j':Int)(u1 u2 v1 v2:Nat)(w:World)(h:Iv i j)(h':Iv i' j')(r1:∀ W,Rt 102 #[Zf u1 u2] (Zf (pat i) (pat j)) W)
  (r2:∀ W,Rt 102 #[Zf v1 v2] (.agg #[.float .f64 (pat i'),.float .f64 (pat j')]) W):
  Rt 62 #[Zf u1 u2,Zf v1 v2] (Zf (pat (it i j i' j').1) (pat (it i j i' j').2)) w:=by
 have HB:=fun W=>both_gen u1 u2 v1 v2 (pat i) (pat j) (pat i') (pat j') _ _ W r1 r2 (em_idx h) (em_idx h');have hmx:=fun W ts t=>run_maxf h.lo h'.lo W ts t;have hmn:=fun W ts t=>run_minf h.hi h'.hi W ts t
 have bz1:-(M:Int)<=max i i'/\max i i'<=M:=by have:=h.lo;have:=h'.lo;omega
 have bz2:-(M:Int)<=min j j'/\min j j'<=M:=by have:=h.hi;have:=h'.hi;omega
 have ho:=order_pat bz1.1 bz1.2 bz2.1 bz2.2;unfold it
 by_cases hc:j<i\/j'<i'\/min j j'<max i i'
 ·rw [if_pos hc,pat_max,pat_min];refine inter_out _ _ _ _ _ _ _ _ _ _ _ w HB hmx hmn ?_
  by_cases c:j<i\/j'<i'
  ·refine .inl ?_
   rcases c with c | c
   ·rw [decide_eq_true c];cases decide (j'<i')<;>decide
   ·rw [decide_eq_true c];cases decide (j<i)<;>decide
  ·refine .inr ⟨?_,?_⟩
   ·rw [decide_eq_false (show ¬ j<i by omega),decide_eq_false (show ¬ j'<i' by omega)];rfl
   ·rw [ho,Int.compare_eq_gt.2 (by omega)]
 ·rw [if_neg hc];refine inter_in _ _ _ _ _ _ _ _ _ _ _ w HB hmx hmn ?_ ?_
  ·rw [decide_eq_false (show ¬ j<i by omega),decide_eq_false (show ¬ j'<i' by omega)];rfl
  ·rw [ho]
   rcases Int.lt_or_eq_of_le (show max i i'<=min j j' by omega) with k | k
   ·rw [Int.compare_eq_lt.2 k];rfl
   ·rw [Int.compare_eq_eq.2 k];rfl
theorem both_any(p1 p2 q1 q2:Nat)(a b:Bool)(w:World)(hx:∀ W,Rt 102 #[Zf p1 p2] (Zf p1 p2) W)
  (hy:∀ W,Rt 102 #[Zf q1 q2] (Zf q1 q2) W)(ha:Em a p1 p2)(hb:Em b q1 q2):
  Rt 138 #[Zf p1 p2,Zf q1 q2] (.tuple #[Zf p1 p2,Zf q1 q2,.int .i64 ((if a then 1 else 0)+(if b then 2 else 0))]) w:=
 both_gen p1 p2 q1 q2 p1 p2 q1 q2 a b w hx hy ha hb
theorem inter_idx(i j i' j':Int)(w:World)(h:Iv i j)(h':Iv i' j'):
  Rt 62 #[Zf (pat i) (pat j),.agg #[.float .f64 (pat i'),.float .f64 (pat j')]] (Zf (pat (it i j i' j').1) (pat (it i j i' j').2)) w:=
 inter_gen i j i' j' _ _ _ _ w h h' (fun W=>readf_idx i j W h) (fun W=>readf_idx i' j' W h')
end
section
open Go.RowKit
def rc(x y:Rat):Int:=if x<y then -1 else if y<x then 1 else 0
theorem div_lt{a b c d:Rat}(hc:0<c)(hd:0<d):a / c<b / d↔a*d<b*c:=by
 have h1:0<c*d:=Rat.mul_pos hc hd
 have e1:a / c*(c*d)=a*d:=by
  rw [<- Rat.mul_assoc,Rat.div_mul_cancel (by grind)]
 have e2:b / d*(c*d)=b*c:=by
  rw [Rat.mul_comm c d,<- Rat.mul_assoc,Rat.div_mul_cancel (by grind)]
 rw [<- e1,<- e2]
 exact (Rat.mul_lt_mul_right h1).symm
theorem rv_lt_false{p q p' q':Nat}(hq:0<q)(hq':0<q'):rv false p q<rv false p' q'↔p*q'<p'*q:=by
 unfold rv
 simp only [Bool.false_eq_true,if_false]
 rw [div_lt (cast_pos hq) (cast_pos hq'),<- Rat.natCast_mul,<- Rat.natCast_mul,Rat.natCast_lt_natCast]
end
section
open Go.RowKit
def Sc(n m:Nat)(f:Int):Prop:=(0<=f->m*2^f.toNat<=n/\n<m*2^(f.toNat+1))/\(f<0->m<=n*2^(-f).toNat/\n*2^(-f).toNat<2*m)
theorem blen_bounds{n:Nat}(h:0<n):∃ L,blen n=L+1/\2^L<=n/\n<2^(L+1):=by
 have h1:=pow_blen_le h;have h2:=lt_pow_blen n
 have h3:blen n≠0:=by rw [Ne,blen_eq_zero];omega
 refine⟨blen n - 1,by omega,?_,?_⟩
 ·exact h1
 ·rwa [show blen n - 1+1=blen n from by omega]
theorem scale_keep{n m:Nat}{f:Int}(hn:0<n)(hm:0<m)(hf:f=(blen n:Int) - blen m)(h1:0<=f->m*2^f.toNat<=n)(h2:f<0->m<=n*2^(-f).toNat):Sc n m f:=by
 obtain⟨L,e1,a1,a2⟩:=blen_bounds hn;obtain⟨R,e2,b1,b2⟩:=blen_bounds hm;refine⟨fun h=>⟨h1 h,?_⟩,fun h=>⟨h2 h,?_⟩⟩
 ·obtain⟨k,rfl⟩:∃ k:Nat,f=k:=⟨f.toNat,by omega⟩
  rw [Int.toNat_natCast]
  have:L=R+k:=by omega
  subst this
  calc n<2^(R+k+1):=a2
   _=2^R*2^(k+1):=by rw [<- Nat.pow_add];congr 1
   _<=m*2^(k+1):=Nat.mul_le_mul_right _ b1
 ·obtain⟨k,hk⟩:∃ k:Nat,-f=k:=⟨(-f).toNat,by omega⟩
  rw [hk,Int.toNat_natCast]
  have:R=L+k:=by omega
  subst this
  calc n*2^k<2^(L+1)*2^k:=Nat.mul_lt_mul_of_pos_right a2 (Nat.two_pow_pos k)
   _=2*2^(L+k):=by rw [<- Nat.pow_add,show L+1+k=(L+k)+1 from by omega,Nat.pow_succ,Nat.mul_comm]
   _<=2*m:=Nat.mul_le_mul_left _ b1
theorem scale_down{n m:Nat}{f:Int}(hn:0<n)(hm:0<m)(hf:f=(blen n:Int) - blen m)(h1:0<=f->n<m*2^f.toNat)(h2:f<0->n*2^(-f).toNat<m):Sc n m (f - 1):=by
 obtain⟨L,e1,a1,a2⟩:=blen_bounds hn;obtain⟨R,e2,b1,b2⟩:=blen_bounds hm
 rcases Int.lt_trichotomy f 0 with h | h | h
 ·refine⟨fun h'=>by omega,fun _=>?_⟩;have h2:=h2 h
  obtain⟨k,hk⟩:∃ k:Nat,-f=k:=⟨(-f).toNat,by omega⟩
  rw [hk,Int.toNat_natCast] at h2;rw [show -(f - 1)=((k+1:Nat):Int) from by omega,Int.toNat_natCast]
  have:R=L+k:=by omega
  subst this;refine⟨?_,by rw [Nat.pow_succ,<- Nat.mul_assoc];omega⟩;refine Nat.le_of_lt ?_
  calc m<2^(L+k+1):=b2
   _=2^L*2^(k+1):=by rw [<- Nat.pow_add];congr 1
   _<=n*2^(k+1):=Nat.mul_le_mul_right _ a1
 ·subst h;refine⟨fun h'=>by omega,fun _=>?_⟩;have h1:=h1 (by omega)
  simp at h1 ⊢
  have:R=L:=by omega
  subst this;rw [Nat.pow_succ] at b2
  omega
 ·refine⟨fun _=>?_,fun h'=>by omega⟩;have h1:=h1 (by omega)
  obtain⟨k,hk⟩:∃ k:Nat,f=((k+1:Nat):Int):=⟨(f - 1).toNat,by omega⟩
  rw [hk,Int.toNat_natCast] at h1;rw [show f - 1=(k:Int) from by omega,Int.toNat_natCast];refine⟨?_,h1⟩
  have:L=R+(k+1):=by omega
  subst this;refine Nat.le_of_lt ?_
  calc m*2^k<2^(R+1)*2^k:=Nat.mul_lt_mul_of_pos_right b2 (Nat.two_pow_pos k)
   _=2^(R+(k+1)):=by rw [<- Nat.pow_add];congr 1;omega
   _<=n:=a1
def lastBit(f:Int):Int:=if f - 52 < -1074 then -1074 else f - 52
def upN(n:Nat)(e:Int):Nat:=n*2^(-e).toNat
def upM(m:Nat)(e:Int):Nat:=m*2^e.toNat
theorem w_lt{n m:Nat}{f:Int}(hm:0<m)(h:Sc n m f):upN n (lastBit f) / upM m (lastBit f)<2^53:=by
 have hM:0<upM m (lastBit f):=Nat.mul_pos hm (Nat.two_pow_pos _);rw [Nat.div_lt_iff_lt_mul hM]
 have he:f - 52<=lastBit f:=by unfold lastBit;split<;>omega
 obtain⟨e,hee⟩:∃ e,lastBit f=e:=⟨_,rfl⟩
 rw [hee] at he ⊢;unfold upN upM
 rcases Int.lt_or_le f 0 with hf | hf
 ·have h2:=(h.2 hf).2
  obtain⟨k,hk⟩:∃ k:Nat,-f=k:=⟨(-f).toNat,by omega⟩
  rw [hk,Int.toNat_natCast] at h2
  rcases Int.lt_or_le e 0 with h0 | h0
  ·rw [show e.toNat=0 from by omega,Nat.pow_zero,Nat.mul_one]
   calc n*2^(-e).toNat<=n*2^(k+52):=Nat.mul_le_mul_left _ (Nat.pow_le_pow_right (by omega) (by omega))
    _=n*2^k*2^52:=by rw [Nat.pow_add,Nat.mul_assoc]
    _<2*m*2^52:=Nat.mul_lt_mul_of_pos_right h2 (Nat.two_pow_pos 52)
    _=2^53*m:=by omega
  ·rw [show (-e).toNat=0 from by omega,Nat.pow_zero,Nat.mul_one];have h3:n<=n*2^k:=Nat.le_mul_of_pos_right _ (Nat.two_pow_pos k);have h4:m<=m*2^e.toNat:=Nat.le_mul_of_pos_right _ (Nat.two_pow_pos _);have:2*m<=2^53*(m*2^e.toNat):=Nat.mul_le_mul (by omega) h4
   omega
 ·have h2:=(h.1 hf).2
  obtain⟨k,rfl⟩:∃ k:Nat,f=k:=⟨f.toNat,by omega⟩
  rw [Int.toNat_natCast] at h2
  rcases Int.lt_or_le e 0 with h0 | h0
  ·rw [show e.toNat=0 from by omega,Nat.pow_zero,Nat.mul_one]
   calc n*2^(-e).toNat<m*2^(k+1)*2^(-e).toNat:=Nat.mul_lt_mul_of_pos_right h2 (Nat.two_pow_pos _)
    _=m*2^(k+1+(-e).toNat):=by rw [Nat.mul_assoc,<- Nat.pow_add]
    _<=m*2^53:=Nat.mul_le_mul_left _ (Nat.pow_le_pow_right (by omega) (by omega))
    _=2^53*m:=Nat.mul_comm _ _
  ·rw [show (-e).toNat=0 from by omega,Nat.pow_zero,Nat.mul_one]
   calc n<m*2^(k+1):=h2
    _<=m*2^(53+e.toNat):=Nat.mul_le_mul_left _ (Nat.pow_le_pow_right (by omega) (by omega))
    _=2^53*(m*2^e.toNat):=by rw [Nat.pow_add];ac_rfl
theorem w_ge{n m:Nat}{f:Int}(hm:0<m)(h:Sc n m f)(hb:-1074<lastBit f):2^52<=upN n (lastBit f) / upM m (lastBit f):=by
 have hM:0<upM m (lastBit f):=Nat.mul_pos hm (Nat.two_pow_pos _);rw [Nat.le_div_iff_mul_le hM]
 have he:lastBit f=f - 52:=by unfold lastBit at *;split at*<;> omega
 rw [he];unfold upN upM
 rcases Int.lt_or_le f 0 with hf | hf
 ·have h2:=(h.2 hf).1
  obtain⟨k,hk⟩:∃ k:Nat,-f=k:=⟨(-f).toNat,by omega⟩
  rw [hk,Int.toNat_natCast] at h2;rw [show (f - 52).toNat=0 from by omega,Nat.pow_zero,Nat.mul_one,show -(f - 52)=((k+52:Nat):Int) from by omega,Int.toNat_natCast,Nat.pow_add]
  calc 2^52*m<=2^52*(n*2^k):=Nat.mul_le_mul_left _ h2
   _=n*(2^k*2^52):=by ac_rfl
 ·have h2:=(h.1 hf).1
  obtain⟨k,rfl⟩:∃ k:Nat,f=k:=⟨f.toNat,by omega⟩
  rw [Int.toNat_natCast] at h2
  rcases Int.lt_or_le (k:Int) 52 with h0 | h0
  ·rw [show ((k:Int) - 52).toNat=0 from by omega,Nat.pow_zero,Nat.mul_one]
   have:52=k+(-((k:Int) - 52)).toNat:=by omega
   calc 2^52*m=2^(k+(-((k:Int) - 52)).toNat)*m:=by rw [<- this]
    _=m*2^k*2^(-((k:Int) - 52)).toNat:=by rw [Nat.pow_add];ac_rfl
    _<=n*2^(-((k:Int) - 52)).toNat:=Nat.mul_le_mul_right _ h2
  ·rw [show (-((k:Int) - 52)).toNat=0 from by omega,Nat.pow_zero,Nat.mul_one]
   have:k=52+((k:Int) - 52).toNat:=by omega
   calc 2^52*(m*2^((k:Int) - 52).toNat)=m*2^(52+((k:Int) - 52).toNat):=by rw [Nat.pow_add];ac_rfl
    _=m*2^k:=by rw [<- this]
    _<=n:=h2
theorem units{n m U:Nat}{e:Int}(hm:0<m)(he:-(U:Int)<=e):
  (upN n e / upM m e)*2^(e+U).toNat*m<=n*2^U/\n*2^U<(upN n e / upM m e+1)*2^(e+U).toNat*m /\
   (upN n e % upM m e=0->n*2^U=(upN n e / upM m e)*2^(e+U).toNat*m)/\(upN n e % upM m e≠0->(upN n e / upM m e)*2^(e+U).toNat*m<n*2^U):=by
 have hM:0<upM m e:=Nat.mul_pos hm (Nat.two_pow_pos _);have h1:=Nat.div_add_mod (upN n e) (upM m e);have h2:=Nat.mod_lt (upN n e) hM
 obtain⟨c,hc,hN,hP⟩:∃ c,0<c/\n*2^U=upN n e*c/\2^(e+U).toNat*m=upM m e*c:=by
  rcases Int.lt_or_le e 0 with h0 | h0
  ·refine⟨2^(e+U).toNat,Nat.two_pow_pos _,?_,?_⟩
   ·unfold upN;rw [Nat.mul_assoc,<- Nat.pow_add]
    congr 2;omega
   ·unfold upM;rw [show e.toNat=0 from by omega,Nat.pow_zero,Nat.mul_one,Nat.mul_comm]
  ·refine⟨2^U,Nat.two_pow_pos _,?_,?_⟩
   ·unfold upN;rw [show (-e).toNat=0 from by omega,Nat.pow_zero,Nat.mul_one]
   ·unfold upM;rw [show (e+U).toNat=e.toNat+U from by omega,Nat.pow_add];ac_rfl
 obtain⟨D,hD⟩:∃ D,upM m e=D:=⟨_,rfl⟩
 obtain⟨q,hq⟩:∃ q,upN n e / D=q:=⟨_,rfl⟩
 obtain⟨r,hr⟩:∃ r,upN n e % D=r:=⟨_,rfl⟩
 rw [hD] at h1 h2 hP ⊢;rw [hq,hr] at h1;rw [hr] at h2;rw [hq,hr,hN,Nat.mul_assoc,Nat.mul_assoc,hP,<- h1]
 have e1:q*(D*c)=D*q*c:=by ac_rfl
 have e2:(q+1)*(D*c)=(D*q+D)*c:=by rw [Nat.add_mul,Nat.one_mul,e1,Nat.add_mul]
 rw [e1,e2];refine⟨Nat.mul_le_mul_right _ (by omega),Nat.mul_lt_mul_of_pos_right (by omega) hc,fun h=>by rw [h,Nat.add_zero],fun h=>Nat.mul_lt_mul_of_pos_right (by omega) hc⟩
end
section
open Go.RowKit
def cutT(n m:Nat)(e:Int):Nat:=(e+1074).toNat*2^52+upN n e / upM m e
def capT(n m:Nat)(e:Int):Nat:=(e+1074).toNat*2^52+(upN n e / upM m e+if upN n e % upM m e=0 then 0 else 1)
theorem lastBit_bounds{f:Int}(hf:f<=1023):-1074<=lastBit f/\lastBit f<=971:=by unfold lastBit;split<;>omega
theorem mag_cut{n m:Nat}{f:Int}(hm:0<m)(h:Sc n m f)(c:Nat)(hc:c<=1):
  mag ((lastBit f+1074).toNat*2^52+(upN n (lastBit f) / upM m (lastBit f)+c))=(upN n (lastBit f) / upM m (lastBit f)+c)*2^(lastBit f+1074).toNat:=by
 have h1:=w_lt hm h;refine mag_form _ _ ?_ (by omega)
 by_cases hb:-1074<lastBit f
 ·have:=w_ge hm h hb;right;omega
 ·left;omega
theorem cut_lt{n m:Nat}{f:Int}(hm:0<m)(h:Sc n m f)(hf:f<=1023):cutT n m (lastBit f)<M:=by
 have h1:=w_lt hm h;have h2:=lastBit_bounds hf;unfold cutT;rw [M_val];omega
theorem cap_le{n m:Nat}{f:Int}(hm:0<m)(h:Sc n m f)(hf:f<=1023):capT n m (lastBit f)<=M:=by
 have h1:=w_lt hm h;have h2:=lastBit_bounds hf
 unfold capT;rw [M_val];split<;>omega
theorem cut_law{n m U:Nat}{f:Int}(hU:U=1074)(hm:0<m)(h:Sc n m f)(hf:f<=1023)(r:Nat):r<=cutT n m (lastBit f)↔mag r*m<=n*2^U:=by
 have hb:=lastBit_bounds hf;obtain⟨u1,u2,-,-⟩:=units (n:=n) (U:=U) hm (show -(U:Int)<=lastBit f by omega);have m0:=mag_cut hm h 0 (by omega);have m1:=mag_cut hm h 1 (by omega);rw [Nat.add_zero] at m0;rw [show (lastBit f+(U:Int)).toNat=(lastBit f+1074).toNat from by omega] at u1 u2;rw [<- m0] at u1;rw [<- m1] at u2
 have e:(lastBit f+1074).toNat*2^52+(upN n (lastBit f) / upM m (lastBit f)+1)=cutT n m (lastBit f)+1:=by unfold cutT;omega
 rw [e] at u2
 constructor
 ·intro hr;have h1:mag r<=mag (cutT n m (lastBit f)):=mag_le_iff.2 hr
  exact Nat.le_trans (Nat.mul_le_mul_right m h1) u1
 ·intro hr
  by_cases hc:r<=cutT n m (lastBit f)
  ·exact hc
  ·have h1:mag (cutT n m (lastBit f)+1)<=mag r:=mag_le_iff.2 (by omega);have h2:=Nat.mul_le_mul_right m h1
   exact absurd (Nat.lt_of_lt_of_le u2 h2) (by omega)
theorem cap_law{n m U:Nat}{f:Int}(hU:U=1074)(hm:0<m)(h:Sc n m f)(hf:f<=1023)(r:Nat):capT n m (lastBit f)<=r↔n*2^U<=mag r*m:=by
 have hb:=lastBit_bounds hf;obtain⟨u1,u2,u3,u4⟩:=units (n:=n) (U:=U) hm (show -(U:Int)<=lastBit f by omega);have m0:=mag_cut hm h 0 (by omega);have m1:=mag_cut hm h 1 (by omega);rw [Nat.add_zero] at m0;rw [show (lastBit f+(U:Int)).toNat=(lastBit f+1074).toNat from by omega] at u1 u2 u3 u4;rw [<- m0] at u1 u3 u4;rw [<- m1] at u2
 have e:(lastBit f+1074).toNat*2^52+(upN n (lastBit f) / upM m (lastBit f)+1)=cutT n m (lastBit f)+1:=by unfold cutT;omega
 have e0:(lastBit f+1074).toNat*2^52+(upN n (lastBit f) / upM m (lastBit f))=cutT n m (lastBit f):=rfl;rw [e] at u2;rw [e0] at u1 u3 u4
 by_cases hz:upN n (lastBit f) % upM m (lastBit f)=0
 ·have hc:capT n m (lastBit f)=cutT n m (lastBit f):=by unfold capT cutT;rw [if_pos hz,Nat.add_zero]
  rw [hc,u3 hz]
  constructor
  ·intro hr;exact Nat.mul_le_mul_right m (mag_le_iff.2 hr)
  ·intro hr
   exact mag_le_iff.1 (Nat.le_of_mul_le_mul_right hr hm)
 ·have hc:capT n m (lastBit f)=cutT n m (lastBit f)+1:=by unfold capT cutT;rw [if_neg hz];omega
  rw [hc];have u4:=u4 hz
  constructor
  ·intro hr
   exact Nat.le_trans (Nat.le_of_lt u2) (Nat.mul_le_mul_right m (mag_le_iff.2 hr))
  ·intro hr;have h2:=Nat.lt_of_mul_lt_mul_right (Nat.lt_of_lt_of_le u4 hr);have:=mag_lt_iff.1 h2
   omega
theorem over_law{n m U:Nat}{f:Int}(hU:U=1074)(hm:0<m)(h:Sc n m f)(hf:1023<f)(r:Nat)(hr:r<M):mag r*m<n*2^U:=by
 have h1:=(h.1 (by omega)).1;have h2:mag r<mag M:=mag_lt_iff.2 hr
 have h3:mag M=2^52*2^2046:=by
  have:=mag_form 2046 (2^52) (.inr (Nat.le_refl _)) (by decide);rw [<- this];rfl
 rw [h3] at h2
 obtain⟨k,rfl⟩:∃ k:Nat,f=((1024+k:Nat):Int):=⟨(f - 1024).toNat,by omega⟩
 rw [Int.toNat_natCast] at h1
 obtain⟨V,hV⟩:∃ V,V=2046:=⟨_,rfl⟩
 rw [<- hV] at h2
 calc mag r*m<2^52*2^V*m:=Nat.mul_lt_mul_of_pos_right h2 hm
  _=m*2^(52+V):=by rw [Nat.pow_add];ac_rfl
  _<=m*2^(1024+k+U):=Nat.mul_le_mul_left _ (Nat.pow_le_pow_right (by omega) (by omega))
  _=m*2^(1024+k)*2^U:=by rw [Nat.pow_add 2 (1024+k) U,Nat.mul_assoc]
  _<=n*2^U:=Nat.mul_le_mul_right _ h1
theorem rv_le_false{p q p' q':Nat}(hq:0<q)(hq':0<q'):rv false p q<=rv false p' q'↔p*q'<=p'*q:=by
 have:=rv_lt_false (p:=p') (p':=p) hq' hq
 constructor
 ·intro h
  by_cases hc:p*q'<=p'*q
  ·exact hc
  ·exact absurd (this.2 (by omega)) (by grind)
 ·intro h
  by_cases hc:rv false p q<=rv false p' q'
  ·exact hc
  ·have:=this.1 (by grind);omega
theorem fl_nat(r:Nat){U:Nat}(hU:U=1074):fl (r:Int)=rv false (mag r) (2^U):=by
 unfold rv fl;rw [if_neg (by decide),val_nat];refine eq_div (cast_ne (Nat.two_pow_pos U)) ?_;rw [<- zpow_nat,show (-1074:Int)=-(U:Int) from by omega,Rat.mul_assoc,<- zpow_add,show -(U:Int)+(U:Int)=0 from by omega,Rat.zpow_zero,Rat.mul_one]
 rfl
theorem fl_neg(i:Int):fl (-i)=- fl i:=by
 unfold fl;rw [val_neg,Rat.intCast_neg];grind
theorem fl_lt_iff{i j:Int}:fl i<fl j↔i<j:=by
 unfold fl;rw [Rat.mul_lt_mul_right (zpow_pos _),Rat.intCast_lt_intCast,val_lt_iff]
theorem fl_le_iff{i j:Int}:fl i<=fl j↔i<=j:=by
 have:=@fl_lt_iff j i
 constructor
 ·intro h
  by_cases hc:i<=j
  ·exact hc
  ·exact absurd (this.2 (by omega)) (by grind)
 ·intro h
  by_cases hc:fl i<=fl j
  ·exact hc
  ·have:=this.1 (by grind);omega
theorem fl_zero:fl 0=0:=by unfold fl;rw [val_zero];grind
def Rnd(d:Int)(x:Rat)(i:Int):Prop:=
 (d=-1/\-(M:Int)<=i/\i<M/\∀ j:Int,-(M:Int)<j->j<M->(j<=i↔fl j<=x)) \/
 (d=1/\-(M:Int)<i/\i<=M/\∀ j:Int,-(M:Int)<j->j<M->(i<=j↔x<=fl j))
theorem Rnd.neg{d:Int}{x:Rat}{i:Int}(h:Rnd d x i):Rnd (-d) (-x) (-i):=by
 rcases h with ⟨rfl,h1,h2,h3⟩ | ⟨rfl,h1,h2,h3⟩
 ·refine .inr ⟨rfl,by omega,by omega,fun j hj hj'=>?_⟩;have:=h3 (-j) (by omega) (by omega);rw [fl_neg] at this
  constructor
  ·intro h;have:=this.1 (by omega);grind
  ·intro h;have:=this.2 (by grind);omega
 ·refine .inl ⟨rfl,by omega,by omega,fun j hj hj'=>?_⟩;have:=h3 (-j) (by omega) (by omega);rw [fl_neg] at this
  constructor
  ·intro h;have:=this.1 (by omega);grind
  ·intro h;have:=this.2 (by grind);omega
theorem Rnd.exact{d a i:Int}(h:Rnd d (fl a) i)(h0:-(M:Int)<a)(h1:a<M):i=a:=by
 rcases h with ⟨rfl,a1,a2,a3⟩ | ⟨rfl,a1,a2,a3⟩
 ·have h2:=(a3 a h0 h1).2 Rat.le_refl
  by_cases hc:i=a
  ·exact hc
  ·have:=(a3 i (by omega) a2).1 (by omega);rw [fl_le_iff] at this;omega
 ·have h2:=(a3 a h0 h1).2 Rat.le_refl
  by_cases hc:i=a
  ·exact hc
  ·have:=(a3 i a1 (by omega)).1 (by omega);rw [fl_le_iff] at this;omega
theorem rnd_zero{d:Int}(hd:d=-1\/d=1):Rnd d 0 0:=by
 rw [<- fl_zero]
 rcases hd with rfl | rfl
 ·exact .inl ⟨rfl,by rw [M_val];omega,by rw [M_val];omega,fun j _ _=>fl_le_iff.symm⟩
 ·exact .inr ⟨rfl,by rw [M_val];omega,by rw [M_val];omega,fun j _ _=>fl_le_iff.symm⟩
theorem rnd_down{n m t U:Nat}(hU:U=1074)(hn:0<n)(hm:0<m)(ht:t<M)(h:∀ r:Nat,r<M->(r<=t↔mag r*m<=n*2^U)):Rnd (-1) (rv false n m) t:=by
 refine .inl ⟨rfl,by omega,by omega,fun j hj hj'=>?_⟩
 rcases Int.lt_or_le j 0 with h0 | h0
 ·have h1:fl j<fl 0:=fl_lt_iff.2 h0;rw [fl_zero] at h1;have h2:=rv_pos hn hm
  constructor
  ·intro _;grind
  ·intro _;omega
 ·obtain⟨r,rfl⟩:∃ r:Nat,j=r:=⟨j.toNat,by omega⟩
  rw [fl_nat r hU,rv_le_false (Nat.two_pow_pos U) hm,<- h r (by omega)]
  omega
theorem rnd_up{n m t U:Nat}(hU:U=1074)(hn:0<n)(hm:0<m)(ht:t<=M)(h:∀ r:Nat,r<M->(t<=r↔n*2^U<=mag r*m)):Rnd 1 (rv false n m) t:=by
 have hp:0<n*2^U:=Nat.mul_pos hn (Nat.two_pow_pos U)
 have h0:0<t:=by
  have h1:=h 0 (by rw [M_val];omega);rw [mag_zero,Nat.zero_mul] at h1
  omega
 refine .inr ⟨rfl,by omega,by omega,fun j hj hj'=>?_⟩
 rcases Int.lt_or_le j 0 with h0 | h0
 ·have h1:fl j<fl 0:=fl_lt_iff.2 h0;rw [fl_zero] at h1;have h2:=rv_pos hn hm
  constructor
  ·intro _;omega
  ·intro _;grind
 ·obtain⟨r,rfl⟩:∃ r:Nat,j=r:=⟨j.toNat,by omega⟩
  rw [fl_nat r hU,rv_le_false hm (Nat.two_pow_pos U),<- h r (by omega)]
  omega
def sg(neg:Bool)(t:Nat):Int:=if neg then -(t:Int) else (t:Int)
def ansT(p q:Nat)(f:Int)(away:Bool):Nat:=if 1023<f then (if away then M else M - 1) else (if away then capT p q (lastBit f) else cutT p q (lastBit f))
theorem rnd_ans{p q:Nat}{f d:Int}{neg:Bool}(hp:0<p)(hq:0<q)(h:Sc p q f)(hd:d=-1\/d=1):Rnd d (rv neg p q) (sg neg (ansT p q f (decide (d=1) != neg))):=by
 obtain⟨U,hU⟩:∃ U,U=1074:=⟨_,rfl⟩
 have up:Rnd 1 (rv false p q) (ansT p q f true):=by
  unfold ansT
  by_cases hf:1023<f
  ·rw [if_pos hf,if_pos rfl];refine rnd_up hU hp hq (Nat.le_refl _) fun r hr=>?_;have:=over_law hU hq h hf r hr
   omega
  ·rw [if_neg hf,if_pos rfl]
   exact rnd_up hU hp hq (cap_le hq h (by omega)) fun r _=>cap_law hU hq h (by omega) r
 have down:Rnd (-1) (rv false p q) (ansT p q f false):=by
  unfold ansT
  by_cases hf:1023<f
  ·rw [if_pos hf,if_neg (by decide)];refine rnd_down hU hp hq (by rw [M_val];omega) fun r hr=>?_;have:=over_law hU hq h hf r hr
   omega
  ·rw [if_neg hf,if_neg (by decide)]
   exact rnd_down hU hp hq (cut_lt hq h (by omega)) fun r _=>cut_law hU hq h (by omega) r
 rcases hd with rfl | rfl<;>cases neg
 ·exact down
 ·have:=up.neg;rw [<- rv_true] at this
  exact this
 ·exact up
 ·have:=down.neg;rw [<- rv_true] at this
  exact this
end
section
open Go.RowKit
end
section
open Go.RowKit
end
section
open Go.RowKit
end
section
open Go.RowKit
def es(i:Int):Int:=if i=M then 1 else if i=-(M:Int) then -1 else 0
def ex(i:Int):Rat:=if es i=0 then fl i else 0
theorem es_max:es M=1:=rfl
theorem es_min:es (-(M:Int))=-1:=by decide
theorem ex_max:ex M=0:=rfl
theorem ex_min:ex (-(M:Int))=0:=by unfold ex;rw [es_min];rfl
theorem es_mid{i:Int}(h:-(M:Int)<i)(h':i<M):es i=0:=by unfold es;rw [if_neg (by omega),if_neg (by omega)]
theorem ex_mid{i:Int}(h:-(M:Int)<i)(h':i<M):ex i=fl i:=by unfold ex;rw [es_mid h h'];rfl
end
section
open Go.RowKit
def ec(s:Int)(x:Rat)(t:Int)(y:Rat):Int:=if s=t then (if s=0 then rc x y else 0) else if s<t then -1 else 1
theorem ec_lt{s t:Int}(x y:Rat)(h:s<t):ec s x t y=-1:=by unfold ec;rw [if_neg (by omega),if_pos h]
theorem ec_gt{s t:Int}(x y:Rat)(h:t<s):ec s x t y=1:=by unfold ec;rw [if_neg (by omega),if_neg (by omega)]
theorem ec_inf{s t:Int}(x y:Rat)(h:s=t)(h0:s≠0):ec s x t y=0:=by unfold ec;rw [if_pos h,if_neg h0]
theorem ec_zero(x y:Rat):ec 0 x 0 y=rc x y:=by unfold ec;rw [if_pos rfl,if_pos rfl]
end
def SubInv(rs ys cur:List Nat)(x i c b:Nat):Prop:=
 W32 cur/\cur.length=rs.length/\(∀ j:Nat,i<=j->cur[j]?.getD 0=rs[j]?.getD 0)/\c<4294967296/\b<=1 /\
  num (cur.take i)+x*num (ys.take i)=num (rs.take i)+2^(32*i)*(b+c)
theorem SubInv.start{rs ys:List Nat}(x:Nat)(h:W32 rs):SubInv rs ys rs x 0 0 0:=
 ⟨h,rfl,fun _ _=>rfl,by omega,by omega,by simp [num]⟩
theorem SubInv.step{rs ys cur:List Nat}{x i c b t d b':Nat}(h:SubInv rs ys cur x i c b)(hi:i<rs.length)(hx:x<4294967296)(hy:W32 ys)
  (ht:t=c+ys[i]?.getD 0*x)(hd:d<4294967296)(hb':b'<=1)(he:d+(t % 4294967296+b)=rs[i]?.getD 0+4294967296*b'):
  SubInv rs ys (cur.set i d) x (i+1) (t / 4294967296) b':=by
 obtain⟨hw,hl,hr,hc,hb,hs⟩:=h;have h1:=hy.get i;have h2:ys[i]?.getD 0*x<=4294967295*4294967295:=Nat.mul_le_mul (by omega) (by omega);refine⟨hw.set _ hd,by simp [hl],fun j hj=>?_,by omega,hb',?_⟩
 ·rw [List.getElem?_set_ne (by omega)];exact hr j (by omega)
 ·have e1:num ((cur.set i d).take (i+1))=num (cur.take i)+2^(32*i)*d:=by
   rw [num_take_next,List.take_set_of_le (Nat.le_refl _),List.getElem?_set_self (by omega)];rfl
  rw [e1,num_take_next,num_take_next,pow32,Nat.mul_add x]
  have e2:x*(2^(32*i)*ys[i]?.getD 0)=2^(32*i)*(ys[i]?.getD 0*x):=by
   rw [Nat.mul_left_comm,Nat.mul_comm x]
  rw [e2];generalize ys[i]?.getD 0*x=z at *;generalize 2^(32*i)=p at *
  have e3:p*(b+c)+p*d+p*z=p*rs[i]?.getD 0+2^32*p*(b'+t / 4294967296):=by
   rw [Nat.mul_comm (2^32) p,Nat.mul_assoc,<- Nat.mul_add,<- Nat.mul_add,<- Nat.mul_add]
   congr 1;omega
  omega
theorem SubInv.done{rs ys cur:List Nat}{x c b:Nat}(h:SubInv rs ys cur x rs.length c b)(hr:W32 rs)(hm:ys.length<=rs.length)(hle:x*num ys<=num rs):
  num cur=num rs - x*num ys:=by
 obtain⟨hw,hl,_,hc,hb,hs⟩:=h;rw [List.take_of_length_le (by omega),List.take_of_length_le (Nat.le_refl _),List.take_of_length_le hm] at hs;have h1:=num_lt hw;have h2:=num_lt hr;rw [hl] at h1
 have h3:b+c=0:=by
  rcases Nat.eq_zero_or_pos (b+c) with h3 | h3
  ·exact h3
  ·exfalso
   have:=Nat.mul_le_mul_left (2^(32*rs.length)) h3
   omega
 rw [h3] at hs
 omega
theorem num_shift_up{rs:List Nat}(h:rs≠[])(hz:rs[rs.length - 1]?.getD 0=0)(u:Nat):num (u :: rs.take (rs.length - 1))=u+4294967296*num rs:=by
 rw [num_cons];have hl:0<rs.length:=List.length_pos_iff.2 h
 have e:num rs=num (rs.take (rs.length - 1)):=by
  have:=num_take_next rs (rs.length - 1);rw [Nat.sub_add_cancel hl,List.take_of_length_le (Nat.le_refl _),hz] at this
  omega
 rw [<- e]
def ByInv(us qs:List Nat)(V R i:Nat):Prop:=W32 qs/\qs.length=us.length/\num (us.drop i)=num (qs.drop i)*V+R/\R<V
theorem ByInv.start(us:List Nat){V:Nat}(hV:0<V):ByInv us (List.replicate us.length 0) V 0 us.length:=
 ⟨W32.replicate _,by simp,by simp [num],hV⟩
theorem num_drop_cons(l:List Nat)(i:Nat):num (l.drop i)=l[i]?.getD 0+4294967296*num (l.drop (i+1)):=by
 rw [num_tail (l.drop i),List.getElem?_drop,List.tail_drop];rfl
theorem ByInv.step{us qs:List Nat}{V R i d R':Nat}(h:ByInv us qs V R (i+1))(hi:i<us.length)(hd:d<4294967296)(he:us[i]?.getD 0+4294967296*R=d*V+R')(hR:R'<V):
  ByInv us (qs.set i d) V R' i:=by
 obtain⟨hw,hl,hs,_⟩:=h;refine⟨hw.set _ hd,by simp [hl],?_,hR⟩;rw [num_drop_cons us,hs,num_drop_cons (qs.set i d),List.getElem?_set_self (by omega)];rw [List.drop_set_of_lt (by omega)]
 show _=(d+4294967296*num (qs.drop (i+1)))*V+R'
 rw [Nat.mul_add,Nat.add_mul,Nat.mul_assoc];generalize num (qs.drop (i+1))*V=z at *
 omega
theorem ByInv.done{us qs:List Nat}{V R:Nat}(h:ByInv us qs V R 0):num us / V=num qs/\num us % V=R:=by
 obtain⟨_,_,hs,hR⟩:=h;rw [List.drop_zero,List.drop_zero] at hs;rw [hs,Nat.mul_comm]
 constructor
 ·rw [Nat.mul_add_div (by omega),Nat.div_eq_of_lt hR,Nat.add_zero]
 ·rw [Nat.mul_add_mod,Nat.mod_eq_of_lt hR]
section
open Go.RowKit
end
section
open Go.RowKit
end
section
open Go.RowKit
def Moved(rs cur:List Nat)(j:Nat):Prop:=cur.length=rs.length/\∀ t:Nat,t<rs.length->cur[t]?.getD 0=if j<t then rs[t - 1]?.getD 0 else rs[t]?.getD 0
theorem Moved.start(rs:List Nat):Moved rs rs (rs.length - 1):=⟨rfl,fun t ht=>by rw [if_neg (by omega)]⟩
theorem Moved.step{rs cur:List Nat}{j:Nat}(h:Moved rs cur (j+1))(hj:j+1<rs.length):Moved rs (cur.set (j+1) (rs[j]?.getD 0)) j:=by
 obtain⟨hl,hm⟩:=h;refine⟨by simp [hl],fun t ht=>?_⟩
 by_cases h1:t=j+1
 ·subst h1;rw [List.getElem?_set_self (by omega),if_pos (by omega)];rfl
 ·rw [List.getElem?_set_ne (by omega),hm t ht]
  by_cases h2:j<t
  ·rw [if_pos h2,if_pos (by omega)]
  ·rw [if_neg h2,if_neg (by omega)]
theorem Moved.done{rs cur:List Nat}(h:Moved rs cur 0)(h0:rs≠[])(hz:rs[rs.length - 1]?.getD 0=0)(u:Nat):num (cur.set 0 u)=u+4294967296*num rs:=by
 rw [<- num_shift_up h0 hz];have hl:0<rs.length:=List.length_pos_iff.2 h0;refine num_ext fun t=>?_
 rcases Nat.eq_zero_or_pos t with h1 | h1
 ·subst h1;rw [List.getElem?_set_self (by rw [h.1];exact hl)];rfl
 ·rw [List.getElem?_set_ne (by omega)]
  obtain⟨t,rfl⟩:∃ i,t=i+1:=⟨t - 1,by omega⟩
  rw [List.getElem?_cons_succ]
  rcases Nat.lt_or_ge (t+1) rs.length with h2 | h2
  ·rw [h.2 _ h2,if_pos (by omega),List.getElem?_take_of_lt (by omega)];rfl
  ·rw [List.getElem?_eq_none (by rw [h.1];exact h2),List.getElem?_eq_none (by rw [List.length_take];omega)]
end
section
open Go.RowKit
end
section
open Go.RowKit
end
section
open Go.RowKit
def fdec(p q:Nat)(f:Int):Bool:=if 0<=f then decide (p<q*2^f.toNat) else decide (p*2^(-f).toNat<q)
def fout(p q:Nat)(f:Int):Int:=if fdec p q f then f - 1 else f
theorem fout_sc{p q:Nat}{f:Int}(hp:0<p)(hq:0<q)(hf:f=(blen p:Int) - blen q):Sc p q (fout p q f):=by
 unfold fout
 by_cases h:fdec p q f=true
 ·rw [if_pos h];unfold fdec at h;refine scale_down hp hq hf (fun h0=>?_) (fun h0=>?_)
  ·rw [if_pos h0] at h;exact of_decide_eq_true h
  ·rw [if_neg (by omega)] at h;exact of_decide_eq_true h
 ·rw [if_neg h];unfold fdec at h;refine scale_keep hp hq hf (fun h0=>?_) (fun h0=>?_)
  ·rw [if_pos h0] at h;simp at h;exact h
  ·rw [if_neg (by omega)] at h;simp at h;exact h
end
section
open Go.RowKit
end
section
open Go.RowKit
theorem pat_ne_max{i:Int}(h0:-(M:Int)<=i)(h1:i<M):((pat i:Int) == 9218868437227405312)=false:=by
 rw [beq_eq_false_iff_ne];intro h;have:=pat_inj h0 (by omega) (show -(M:Int)<=(M:Int) by rw [M_val];omega) (Int.le_refl _) (by rw [pat_max];omega)
 omega
end
section
open Go.RowKit
end
section
open Go.RowKit
end
section
open Go.RowKit
theorem es_bounds(i:Int):-1<=es i/\es i<=1:=by unfold es;split<;>(try split)<;>omega
theorem es_zero{i:Int}(h:es i=0):i≠M/\i≠-(M:Int):=by
 unfold es at h
 split at h
 ·cases h
 ·split at h
  ·cases h
  ·exact⟨by assumption,by assumption⟩
theorem ex_zero{i:Int}(h:es i=0):ex i=fl i:=by unfold ex;rw [if_pos h]
end
end Go.Proofs.YthlmlmfebpjgdaaGreatDoor
