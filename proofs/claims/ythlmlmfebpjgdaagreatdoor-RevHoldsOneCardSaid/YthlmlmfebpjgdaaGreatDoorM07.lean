/-
Lemmas for the statement: NdigT NbackT NquoT NextT LdT NshrT.
-/
import Derived.Test.YthlmlmfebpjgdaaGreatDoorM03
import Derived.Test.YthlmlmfebpjgdaaGreatDoorM06
import Derived.Deep.DeepCutAuto
import Derived.Deep.CutRange
import Derived.Deep.RegionHeld3
import Derived.Test.YthlmlmfebpjgdaaGreatDoorM05
import Derived.Test.YthlmlmfebpjgdaaGreatDoorM04
import Derived.Test.YthlmlmfebpjgdaaGreatDoorM01
import Derived.Laws.FloatArith
import Derived.Laws.Bits128
import Derived.Outline
set_option linter.unusedSimpArgs false
set_option linter.unusedVariables false
set_option maxHeartbeats 12800000
namespace Go.Proofs.YthlmlmfebpjgdaaGreatDoor
open Go.Proofs.Tryz
open Go.RowKit
set_option maxRecDepth 100000 in
theorem digit_any(ad:Addr)(B:Option Addr)(n c d:Nat)(pre ws post ys:List Nat)(w:World)(hr:Win w ad pre ws post)(hrw:W32 ws)(hy:U32s w B n d ys)(hne:∀ b,B=some b->0<n->b.block≠ad.block)(hrl:ws.length=n+1)(hc:n+1<=c)(hn:2<=n)(hs:n<=1073741824)
  (hlt:num ws<num ys*4294967296)(hv1:2147483648<=ys[n - 1]?.getD 0):
  Calls prog 265 #[.slice (some ad) (n+1) c,.slice B n d] w fun e w'=>
   ∃ rs,e=.returned (.int .u32 ((num ws / num ys:Nat):Int))/\Win w' ad pre rs post/\W32 rs/\rs.length=n+1/\num rs=num ws % num ys/\w.grownBy w' (some ad.block):=by
 have hV0:0<num ys:=by
  rcases Nat.eq_zero_or_pos (num ys) with h | h
  ·rw [h] at hlt;omega
  ·exact h
 obtain⟨k,hk⟩:∃ k,n=k+2:=⟨n - 2,by omega⟩
 have tU:=num_top3 (l:=ws) (k:=k) (by omega);have tV:=num_top2 (l:=ys) (k:=k) (by rw [hy.len];omega);have lU:=num_take_lt hrw (k:=k) (by omega);have lV:=num_take_lt hy.w32 (k:=k) (by rw [hy.len];omega);rw [show k=n - 2 from by omega,show n - 2+1=n - 1 from by omega] at tU tV;rw [show n - 2+2=n from by omega] at tU;rw [show k=n - 2 from by omega] at lU lV;have cu2:=hr.cell (i:=n) (by omega);have cu1:=hr.cell (i:=n - 1) (by omega);have cu0:=hr.cell (i:=n - 2) (by omega);obtain⟨bd,rfl,cv1⟩:=hy.cell (j:=n - 1) (by omega);have cv0:=hy.cellAt (j:=n - 2) (by omega);have xu2:ws[n]?.getD 0<4294967296:=hrw.get n;have xu1:ws[n - 1]?.getD 0<4294967296:=hrw.get (n - 1);have xu0:ws[n - 2]?.getD 0<4294967296:=hrw.get (n - 2);have xv1:=hy.lt (n - 1);have xv0:=hy.lt (n - 2)
 obtain⟨u2,eu2⟩:∃ z,ws[n]?.getD 0=z:=⟨_,rfl⟩
 obtain⟨u1,eu1⟩:∃ z,ws[n - 1]?.getD 0=z:=⟨_,rfl⟩
 obtain⟨u0,eu0⟩:∃ z,ws[n - 2]?.getD 0=z:=⟨_,rfl⟩
 obtain⟨v1,ev1⟩:∃ z,ys[n - 1]?.getD 0=z:=⟨_,rfl⟩
 obtain⟨v0,ev0⟩:∃ z,ys[n - 2]?.getD 0=z:=⟨_,rfl⟩
 rw [eu2] at tU cu2 xu2;rw [eu1] at tU cu1 xu1;rw [eu0] at tU cu0 xu0;rw [ev1] at tV cv1 xv1 hv1;rw [ev0] at tV cv0 xv0;have EU0:=Hd eu0;have EV1:=Hd ev1;have EV0:=Hd ev0;clear eu2 eu1 eu0 ev1 ev0 hk
 obtain⟨top,htop⟩:∃ t,u2*4294967296+u1=t:=⟨_,rfl⟩
 rw [show u1+4294967296*u2=top from by omega] at tU
 obtain⟨P,hP⟩:∃ P,2^(32*(n - 2))=P:=⟨_,rfl⟩
 obtain⟨lu,hlu⟩:∃ P,num (ws.take (n - 2))=P:=⟨_,rfl⟩
 obtain⟨lv,hlv⟩:∃ P,num (ys.take (n - 2))=P:=⟨_,rfl⟩
 rw [hP,hlu] at tU;rw [hP,hlv] at tV;rw [hP,hlu] at lU;rw [hP,hlv] at lV;clear hP hlu hlv
 obtain⟨U,hU⟩:∃ P,num ws=P:=⟨_,rfl⟩
 obtain⟨V,hV⟩:∃ P,num ys=P:=⟨_,rfl⟩
 rw [hU] at tU hlt ⊢;rw [hV] at tV hlt hV0 ⊢;have KS:=Hd (kn_start tU tV lU xu0 (by omega));have KB:=Hd (fun x hx=>kn_big (x:=x) hlt hx);have KT:=Hd (fun x r ht h=>kn_step (x:=x) (r:=r) tU tV lU ht h);have KE:=Hd (fun x r ht h=>kn_end (x:=x) (r:=r) tU tV lV xv0 (by omega) hlt ht h);have HR:=Hd hr;have HY:=Hd hy;have HRW:=Hd hrw;have HRL:=Hd hrl;have HU:=Hd hU;have HV:=Hd hV;have HLT:=Hd hlt;have HV0:=Hd hV0;have HNE:=Hd hne;have hor:=or_join (i:=32) (x:=u2) (y:=u1) (by omega) (by omega) (by omega);rw [show ((u2*2^32:Nat):Int)=(u2:Int)*4294967296 from by omega,show ((u2*2^32+u1:Nat):Int)=(top:Int) from by omega] at hor
 have htl:top<18446744073709551616:=by omega
 have hdiv:(top:Int) / (v1:Int)=((top / v1:Nat):Int):=by simp
 have hmod:(top:Int) % (v1:Int)=((top % v1:Nat):Int):=by simp
 have hmod2:(top:Int).tmod (v1:Int)=((top % v1:Nat):Int):=by rw [Int.tmod_eq_emod_of_nonneg (by omega)];simp
 obtain⟨x0,hx0⟩:∃ z,top / v1=z:=⟨_,rfl⟩
 obtain⟨r0,hr0⟩:∃ z,top % v1=z:=⟨_,rfl⟩
 have HT0:=Hd (show x0*v1+r0=top from by rw [<- hx0,<- hr0,Nat.mul_comm];exact Nat.div_add_mod _ _)
 have hr0l:r0<v1:=by rw [<- hr0];exact Nat.mod_lt _ (by omega)
 have hx0l:x0<=8589934592:=by
  have h1:x0*2147483648<=x0*v1:=Nat.mul_le_mul_left _ hv1;have h2:=HT0.out
  omega
 rw [hx0] at hdiv KS;rw [hr0] at hmod hmod2;clear tU tV lU lV hlt hr hy hrw hrl hU hV hV0 hne htop hx0 hr0
 have hv0:((v1:Int) == 0)=false:=by simp;omega
 go_enter func265,ntmps265
 go_wp2_with fail
 go_quiet (fail)
 revert nq;intro nqa
 go_wp2_with fail
 go_quiet (fail)
 go_wp2
 obtain⟨W1,hW1⟩:∃ W,(w.drewN nqa).drewN nq=W:=⟨_,rfl⟩
 have G1:=Hd (show w.grownBy W1 (some ad.block) from by rw [<- hW1];exact⟨rfl,rfl,rfl,Nat.le_refl _,fun _ _ _=>rfl⟩);have R1:=Hd (show Win W1 ad pre ws post from by rw [<- hW1];exact HR.out);rw [hW1];clear hW1 HR cu2 cu1 cu0 cv1 cv0 hor hdiv hmod hmod2 xu2 xu1
 go_loopw [7,8] (fun xv rv wr=>∃ x r:Nat,xv=.int .u64 x/\rv=.int .u64 r/\U<(x+1)*V/\x*v1+r=top/\x<=8589934592/\r<8589934592/\Win wr ad pre ws post/\w.grownBy wr (some ad.block)) (fun xv _ _=>(intOf xv).toNat)
 case atStart=>exact⟨x0,r0,rfl,rfl,KS.out,HT0.out,hx0l,by omega,R1.out,G1.out⟩
 case round=>
  obtain⟨x,r,rfl,rfl,hx,ht,hxl,hrl,hr,hg⟩:=hrel;clear R1 G1 KS HT0 hx0l hr0l;have R:=Hd hr;have G:=Hd hg;have HX:=Hd hx;have HT:=Hd ht
  obtain⟨cc,hcc⟩:∃ cc,decide (r<4294967296/\(4294967296<=x\/r*4294967296+u0<x*v0))=cc:=⟨_,rfl⟩
  have CC:=Hd hcc;clear hr hg hx ht hcc
  go_upto_region 4 with fail
  go_cut [74] from 47 to 84 (fun s74 wx=>s74=.bool cc/\Win wx ad pre ws post/\w.grownBy wx (some ad.block))
  case first=>
   have HB2:=Hd (HY.out.grown G.out HNE.out)
   by_cases h1:r<4294967296
   ·have g1:((r:Int) / 4294967296 == 0)=true:=by simp;omega
    by_cases h2:4294967296<=x
    ·have g2:((x:Int) / 4294967296 == 0)=false:=by simp;omega
     have g3:((x:Int) / 4294967296 != 0)=true:=by simp;omega
     obtain rfl:cc=true:=by rw [<- CC.out];simp [h1,h2]
     go_wp2_with fail;refine wp_region_held_drew (S:=fun W'=>Win W' ad pre ws post/\U32s W' (some bd) n d ys/\w.grownBy W' (some ad.block)) (by kernel_rfl) (by exact⟨R.out.drewN 1,HB2.out.drew,G.out.drawn 1⟩) (fun hHeld=>?_);refine tks 0 ?_;refine tks 1 ?_;refine tks 2 ?_;refine tks 3 ?_;refine tks 4 ?_;refine tks 5 ?_;refine tks 6 ?_;refine tks 7 ?_;refine tkns 8 ?_;refine tkns 9 ?_;refine tkns 10 ?_;refine tkns 11 ?_;refine tkns 12 ?_;refine tkns 13 ?_;refine tkns 14 ?_;refine tkns 15 ?_;refine tkns 16 ?_;refine tkns 17 ?_;refine tkns 18 ?_;refine tkns 19 ?_;refine tkns 20 ?_;refine tkns 21 ?_;refine tkns 22 ?_;refine tkns 23 ?_;refine tkns 24 ?_;refine tkns 25 ?_;refine tks 26 ?_;refine tks 27 ?_;refine wpAnyH_done (by kernel_rfl) ?_ _;go_wp2_with fail
     go_meet
     case rel=>exact⟨rfl,hHeld.1,hHeld.2.2⟩
    ·have g2:((x:Int) / 4294967296 == 0)=true:=by simp;omega
     have g3:((x:Int) / 4294967296 != 0)=false:=by simp;omega
     have hm1:x*v0<=4294967295*4294967295:=Nat.mul_le_mul (by omega) (by omega)
     obtain⟨z,hz⟩:∃ z,x*v0=z:=⟨_,rfl⟩
     have e1:(x:Int)*(v0:Int)=(z:Int):=by rw [<- hz];simp
     have hor:=or_join (i:=32) (x:=r) (y:=u0) (by omega) (by omega) (by omega);rw [show ((r*2^32:Nat):Int)=(r:Int)*4294967296 from by omega,show ((r*2^32+u0:Nat):Int)=(r:Int)*4294967296+(u0:Int) from by omega] at hor
     have hc3:decide ((r:Int)*4294967296+(u0:Int)<(z:Int))=cc:=by
      rw [<- CC.out,hz];have:¬ 4294967296<=x:=h2
      simp only [h1,this,true_and,false_or]
      congr 1
      apply propext
      omega
     rw [hz] at hm1;clear hz
     have hor1:IntKind.u64.wrap ((r:Int)*4294967296)=(r:Int)*4294967296:=by rw [IntKind.wrap_u64];omega
     have hz1:IntKind.u64.wrap (z:Int)=(z:Int):=by rw [IntKind.wrap_u64];omega
     have hu1:IntKind.u64.wrap (u0:Int)=(u0:Int):=by rw [IntKind.wrap_u64];omega
     have hv2:IntKind.u64.wrap (v0:Int)=(v0:Int):=by rw [IntKind.wrap_u64];omega
     obtain⟨m2,hm2⟩:∃ m,n - 2=m:=⟨_,rfl⟩
     have hw:IntKind.i64.wrap ((n:Int) - 2)=(m2:Int):=by rw [IntKind.wrap_i64];omega
     have hb2:(m2:Int)<(n:Int):=by omega
     have hb3:(m2:Int)<(n:Int)+1:=by omega
     have HM2:=Hd hm2;clear hm2;go_wp2_with fail;refine wp_region_held_drew (S:=fun W'=>Win W' ad pre ws post/\U32s W' (some bd) n d ys/\w.grownBy W' (some ad.block)) (by kernel_rfl) (by exact⟨R.out.drewN 1,HB2.out.drew,G.out.drawn 1⟩) (fun hHeld=>?_);refine tks 0 ?_;refine tks 1 ?_;refine tks 2 ?_;refine tks 3 ?_;refine tks 4 ?_;refine tks 5 ?_;refine tks 6 ?_;refine tks 7 ?_;refine tks 8 ?_;refine tks 9 ?_;refine tks 10 ?_;refine tks 11 ?_;refine tks 12 ?_;refine tks 13 ?_ (hv:=by intro W2 hSw;have cu0:=hSw.1.cell (i:=n - 2) (by have:=HRL.out;omega);rw [EU0.out,HM2.out] at cu0;have cv0:=hSw.2.1.cellAt (j:=n - 2) (by omega);rw [EV0.out,HM2.out] at cv0;go_simp;(try with_reducible rfl));refine tks 14 ?_;refine tks 15 ?_;refine tks 16 ?_;refine tks 17 ?_;refine tks 18 ?_;refine tks 19 ?_;refine tks 20 ?_;refine tks 21 ?_;refine tks 22 ?_ (hv:=by intro W2 hSw;have cu0:=hSw.1.cell (i:=n - 2) (by have:=HRL.out;omega);rw [EU0.out,HM2.out] at cu0;have cv0:=hSw.2.1.cellAt (j:=n - 2) (by omega);rw [EV0.out,HM2.out] at cv0;go_simp;(try with_reducible rfl));refine tks 23 ?_;refine tks 24 ?_;refine tks 25 ?_;refine tks 26 ?_;refine tks 27 ?_;refine wpAnyH_done (by kernel_rfl) ?_ _;go_wp2_with fail
     go_meet
     case rel=>exact⟨rfl,hHeld.1,hHeld.2.2⟩
   ·have g1:((r:Int) / 4294967296 == 0)=false:=by simp;omega
    obtain rfl:cc=false:=by rw [<- CC.out];simp [h1]
    go_wp2_with fail;refine wp_region_held_drew (S:=fun W'=>Win W' ad pre ws post/\U32s W' (some bd) n d ys/\w.grownBy W' (some ad.block)) (by kernel_rfl) (by exact⟨R.out.drewN 1,HB2.out.drew,G.out.drawn 1⟩) (fun hHeld=>?_);refine tks 0 ?_;refine tks 1 ?_;refine tks 2 ?_;refine tks 3 ?_;refine tkns 4 ?_;refine tkns 5 ?_;refine tkns 6 ?_;refine tkns 7 ?_;refine tkns 8 ?_;refine tkns 9 ?_;refine tkns 10 ?_;refine tkns 11 ?_;refine tkns 12 ?_;refine tkns 13 ?_;refine tkns 14 ?_;refine tkns 15 ?_;refine tkns 16 ?_;refine tkns 17 ?_;refine tkns 18 ?_;refine tkns 19 ?_;refine tkns 20 ?_;refine tkns 21 ?_;refine tkns 22 ?_;refine tkns 23 ?_;refine tkns 24 ?_;refine tkns 25 ?_;refine tkns 26 ?_;refine tks 27 ?_;refine wpAnyH_done (by kernel_rfl) ?_ _;go_wp2_with fail
    go_meet
    case rel=>exact⟨rfl,hHeld.1,hHeld.2.2⟩
  case rest=>
   obtain⟨rfl,hr,hg⟩:=hcut;clear R G;have R:=Hd hr;have G:=Hd hg;clear hr hg
   cases cc
   ·have hE:=KE.out x r HT.out (by
     have hc:=CC.out
     simp only [decide_eq_false_iff_not,not_and,Nat.not_le,not_or,Nat.not_lt] at hc
     by_cases h1:r<4294967296
     ·exact .inr (hc h1)
     ·exact .inl (by omega))
    have hx32:x<4294967296:=hE.1;have HXV:=Hd hE.2;clear hE CC HT KT KB KE hxl hrl EU0 EV1 EV0;go_wp2
    go_loopw [9,10,11,12,87] (fun bv cv _ _ iv wr=>∃ (i c b:Nat) (cur:List Nat),iv=.int .i64 i/\cv=.int .u64 c/\bv=.int .u32 b/\i<=n/\SubInv ws ys cur x i c b/\Win wr ad pre cur post/\w.grownBy wr (some ad.block)) (fun _ _ _ _ iv _=>n - (intOf iv).toNat)
    case atStart=>exact⟨0,0,0,ws,rfl,rfl,rfl,Nat.zero_le _,SubInv.start _ HRW.out,R.out,G.out⟩
    case round=>
     obtain⟨i,c,b,cur,rfl,rfl,rfl,hi,hinv,harr,hgr⟩:=hrel;clear R G;have HI:=Hd hinv;have R:=Hd harr;have G:=Hd hgr;have hc32:c<4294967296:=hinv.2.2.2.1;have hb1:b<=1:=hinv.2.2.2.2.1
     have hcl:cur.length=n+1:=by rw [hinv.2.1,HRL.out]
     have hu1:cur[i]?.getD 0<4294967296:=hinv.1.get i;have hcu:=harr.cell (i:=i) (by omega);rw [hinv.2.2.1 i (Nat.le_refl _)] at hcu hu1;have hf:=harr.frozen i
     obtain⟨u,huu⟩:∃ z,ws[i]?.getD 0=z:=⟨_,rfl⟩
     rw [huu] at hcu hu1;have HUU:=Hd huu;have HCL:=Hd hcl;clear hinv harr hgr huu hcl
     by_cases hlt:i<n
     ·have hy:=(HY.out.grown G.out HNE.out).cellAt (j:=i) hlt;have hy1:ys[i]?.getD 0<4294967296:=HY.out.lt i
      obtain⟨y,hyy⟩:∃ y,ys[i]?.getD 0=y:=⟨_,rfl⟩
      rw [hyy] at hy hy1;have HYY:=Hd hyy;clear hyy;have hz1:y*x<=4294967295*4294967295:=Nat.mul_le_mul (by omega) (by omega)
      obtain⟨z,hz⟩:∃ z,y*x=z:=⟨_,rfl⟩
      rw [hz] at hz1
      have e1:(x:Int)*(y:Int)=(z:Int):=by rw [<- hz,Nat.mul_comm];simp
      have HZ:=Hd hz;clear hz
      obtain⟨t,ht⟩:∃ t,c+z=t:=⟨_,rfl⟩
      obtain⟨D,hD⟩:∃ D,(u+8589934592 - t % 4294967296 - b) % 4294967296=D:=⟨_,rfl⟩
      obtain⟨bo,hbo⟩:∃ D,(if u<t % 4294967296+b then 1 else 0)=D:=⟨_,rfl⟩
      have hS:=fun W=>sub32_any u (t % 4294967296) b W hu1 (by omega) hb1;rw [hD,hbo] at hS
      have hbo1:bo<=1:=by rw [<- hbo];split<;>omega
      have hD1:D<4294967296:=by omega
      have HEQ:=Hd (show D+(t % 4294967296+b)=u+4294967296*bo from by rw [<- hbo];split<;>omega)
      obtain⟨tl,htl2⟩:∃ z,t % 4294967296=z:=⟨_,rfl⟩
      obtain⟨th,hth⟩:∃ z,t / 4294967296=z:=⟨_,rfl⟩
      rw [htl2] at hS HEQ;have HS:=Hd hS;have HT':=Hd ht;have HTL:=Hd htl2;have HTH:=Hd hth
      have ct:(c:Int)+(z:Int)=(t:Int):=by omega
      have cl:(t:Int) % 4294967296=(tl:Int):=by omega
      have ch:(t:Int) / 4294967296=(th:Int):=by omega
      have tb:t<18446744073709551616:=by omega
      have tlb:tl<4294967296:=by omega
      have thb:th<4294967296:=by omega
      clear hD hbo hS ht htl2 hth;go_wp2_with fail;refine cy (HS.out _) ?_;go_wp2
      go_roundw
      case rel=>
       refine⟨i+1,th,bo,cur.set i D,by go_num,rfl,rfl,by omega,?_,R.out.set (by have:=HCL.out;omega) _,grown_setw G.out _ _⟩;rw [<- HTH.out]
       exact HI.out.step (by rw [HRL.out];omega) hx32 HY.out.w32 (by rw [HYY.out,HZ.out,HT'.out]) hD1 hbo1 (by rw [HTL.out,HUU.out];exact HEQ.out)
      case measure=>simp [intOf];omega
     ·obtain rfl:i=n:=by omega
      obtain⟨D,hD⟩:∃ D,(u+8589934592 - c - b) % 4294967296=D:=⟨_,rfl⟩
      obtain⟨bo,hbo⟩:∃ D,(if u<c+b then 1 else 0)=D:=⟨_,rfl⟩
      have hS:=fun W=>sub32_any u c b W hu1 (by omega) hb1;rw [hD,hbo] at hS
      have hbo1:bo<=1:=by rw [<- hbo];split<;>omega
      have hD1:D<4294967296:=by omega
      have HEQ:=Hd (show D+(c % 4294967296+b)=u+4294967296*bo from by rw [<- hbo];split<;>omega);have HS:=Hd hS;have HC32:=Hd hc32;clear hD hbo hS hlt hi;go_wp2_with fail;refine cy (HS.out _) ?_;have hst:=HI.out.step (d:=D) (b':=bo) (by rw [HRL.out];omega) hx32 HY.out.w32 (t:=c) (by rw [List.getElem?_eq_none (by rw [HY.out.len];omega)];simp) hD1 hbo1 (by rw [HUU.out];exact HEQ.out)
      have hth0:c / 4294967296=0:=by have:=HC32.out;omega
      have hlast:=hst.last (by rw [HRL.out]) HRW.out (by rw [HY.out.len];omega) hth0;rw [HU.out,HV.out] at hlast;have hmw:W32 (cur.set i D):=hst.1
      have hml:(cur.set i D).length=i+1:=by simp [HCL.out]
      have R2:=Hd (R.out.set (i:=i) (by have:=HCL.out;omega) D);have G2:=Hd (grown_setw G.out i (wd D))
      obtain⟨ms,hms⟩:∃ m,cur.set i D=m:=⟨_,rfl⟩
      rw [hms] at hlast hmw hml R2;have HLAST:=Hd hlast;have HMW:=Hd hmw;have HML:=Hd hml;clear hst hth0 hlast hmw hml hms R G HI HEQ HS HUU HCL hc32 HC32
      rcases Nat.eq_zero_or_pos bo with h0 | h0
      ·subst h0;go_wp2;have hl:=HLAST.out;have hx:=HX.out;rw [Nat.mul_zero,Nat.add_zero] at hl;rw [Nat.add_mul,Nat.one_mul] at hx;have hk:=kn_ok' hl (by omega)
       go_ret
       exact⟨ms,ret_int (show ((x:Nat):Int)=((U / V:Nat):Int) from by rw [hk.1]),R2.out,HMW.out,HML.out,by rw [hk.2],G2.out⟩
      ·obtain rfl:bo=1:=by omega
       have HVL:=Hd (show V<2^(32*(i+1)) from by
        have h:=num_lt HY.out.w32;rw [HY.out.len,HV.out] at h
        exact Nat.lt_of_lt_of_le h (Nat.pow_le_pow_right (by omega) (by omega)))
       have HML2:=Hd (show num ms<2^(32*(i+1)) from by
        have h:=num_lt HMW.out
        rwa [HML.out] at h)
       go_wp2
       go_loopw [13,14,15,135] (fun ov _ _ iv wr=>∃ (t o:Nat) (cur:List Nat),iv=.int .i64 t/\ov=.int .u32 o/\t<=i/\GiveInv ms ys cur t o/\Win wr ad pre cur post/\w.grownBy wr (some ad.block)) (fun _ _ _ iv _=>i - (intOf iv).toNat)
       case atStart=>exact⟨0,0,ms,rfl,rfl,Nat.zero_le _,GiveInv.start _ _,R2.out,G2.out⟩
       case round=>
        obtain⟨t,o,cur2,rfl,rfl,hi2,hinv2,harr2,hgr2⟩:=hrel;clear R2 G2 hf hcu;have HI2:=Hd hinv2;have R3:=Hd harr2;have G3:=Hd hgr2;have ho1:=hinv2.carry
        have hcl2:cur2.length=i+1:=by rw [hinv2.len (by rw [HML.out];omega),HML.out]
        have hm1:ms[t]?.getD 0<4294967296:=HMW.out.get t;have hcm:=harr2.cell (i:=t) (by omega);rw [hinv2.at] at hcm;have hf2:=harr2.frozen t
        obtain⟨m,hmm⟩:∃ z,ms[t]?.getD 0=z:=⟨_,rfl⟩
        rw [hmm] at hcm hm1;have HMM:=Hd hmm;have HCL2:=Hd hcl2;clear hinv2 harr2 hgr2 hmm hcl2
        by_cases hlt2:t<i
        ·have hy:=(HY.out.grown G3.out HNE.out).cellAt (j:=t) hlt2;have hy1:ys[t]?.getD 0<4294967296:=HY.out.lt t
         obtain⟨y,hyy⟩:∃ y,ys[t]?.getD 0=y:=⟨_,rfl⟩
         rw [hyy] at hy hy1;have HYY:=Hd hyy;clear hyy;go_wp2
         go_roundw
         case rel=>
          refine⟨t+1,(o+m+y) / 4294967296,cur2.set t ((o+m+y) % 4294967296),by go_num,by go_num,by omega,HI2.out.step (by rw [HML.out];omega) HMW.out HY.out.w32 (by rw [HMM.out,HYY.out]),?_,grown_setw G3.out _ _⟩;rw [show ((m:Int)+(y:Int)+(o:Int)) % 4294967296=(((o+m+y) % 4294967296:Nat):Int) from by omega]
          exact R3.out.set (by have:=HCL2.out;omega) _
         case measure=>simp [intOf];omega
        ·obtain rfl:t=i:=by omega
         obtain⟨e,he⟩:∃ e,(m+o) % 4294967296=e:=⟨_,rfl⟩
         have he2:((m:Int)+(o:Int)) % 4294967296=(e:Int):=by omega
         have he1:e<4294967296:=by omega
         have hx0:0<x:=by
          rcases Nat.eq_zero_or_pos x with h | h
          ·have h1:=HLAST.out;have h2:=HML2.out;subst h
           omega
          ·exact h
         have hle:num ms+num ys<2^(32*(t+1))*2:=by rw [HV.out];have:=HVL.out;have:=HML2.out;omega
         have hge:2^(32*(t+1))<=num ms+num ys:=by rw [HV.out];have:=HLAST.out;have:=HXV.out;omega
         have hdn:=HI2.out.done (d:=e) HML.out (by rw [HY.out.len];omega) (by rw [HMM.out];exact he.symm) HMW.out hle hge;have R4:=Hd (R3.out.set (i:=t) (by have:=HCL2.out;omega) e);have G4:=Hd (grown_setw G3.out t (wd e))
         obtain⟨fs,hfs⟩:∃ l,cur2.set t e=l:=⟨_,rfl⟩
         rw [hfs] at hdn R4;rw [HV.out] at hdn;have HDN:=Hd hdn
         have hxe:((x:Int) - 1)=((x - 1:Nat):Int):=by omega
         have hxe2:((x - 1:Nat):Int)<4294967296:=by omega
         clear hdn hfs hle hge HI2 R3 G3 HMM HCL2 he hlt2 hi2 HVL;go_wp2;have hd:=HDN.out;have hl:=HLAST.out;have hm2:=HML2.out
         have hx1:(x - 1)*V+V=x*V:=by rw [<- Nat.succ_mul];congr 1;omega
         have hk:=kn_ok' (q:=x - 1) (R:=num fs) (U:=U) (V:=V) (by omega) (by omega)
         go_ret
         exact⟨fs,ret_int (show ((x - 1:Nat):Int)=((U / V:Nat):Int) from by rw [hk.1]),R4.out,hd.2.1,hd.2.2,by rw [hk.2],G4.out⟩
   ·have hc:=CC.out
    simp only [decide_eq_true_eq] at hc
    have h1:r<4294967296:=hc.1
    have h2:0<x/\U<(x - 1+1)*V:=by
     rcases hc.2 with h | h
     ·exact⟨by omega,KB.out x h⟩
     ·exact KT.out x r HT.out h
    have h3:0<x:=h2.1;have HX2:=Hd h2.2;have hT:=HT.out;have HT2:=Hd (show (x - 1)*v1+(r+v1)=top from by rw [Nat.sub_mul];have:v1<=x*v1:=Nat.le_mul_of_pos_left _ h3;omega);have cv1:=(HY.out.grown G.out HNE.out).cellAt (j:=n - 1) (by omega);rw [EV1.out] at cv1;clear hc h2 hT;go_wp2
    go_roundw
    case rel=>exact⟨x - 1,r+v1,by go_num,by go_num,HX2.out,HT2.out,by omega,by omega,R.out,G.out⟩
    case measure=>simp [intOf];omega
theorem back_win(ad:Addr)(n c s:Nat)(pre rs post:List Nat)(w:World)(hr:Win w ad pre rs post)(hc:n<=c)(hrw:W32 rs)(hrl:rs.length=n)(hs:s<32)(hn:n<=1073741824):
  Calls prog 266 #[.slice (some ad) n c,.int .i64 (s:Int)] w fun e w'=>
   ∃ k,e=.returned (.slice (some ad) k k)/\U32s w' (some ad) k k (digs (num rs / 2^s))/\w.grownBy w' (some ad.block):=by
 have HR:=Hd hr;have HRW:=Hd hrw;have HRL:=Hd hrl;clear hr hrw hrl
 go_enter func266,ntmps266
 go_wp2
 go_loopw [5,6,9] (fun _ _ iv wr=>∃ (i:Nat) (cur:List Nat),iv=.int .i64 i/\i<=n/\BackArr rs cur s i/\Win wr ad pre cur post/\w.grownBy wr (some ad.block)) (fun _ _ iv _=>n - (intOf iv).toNat)
 case atStart=>exact⟨0,rs,rfl,Nat.zero_le _,BackArr.start _ _,HR.out,World.grownBy.refl w _⟩
 case round=>
  obtain⟨i,cur,rfl,hi,hinv,harr,hgr⟩:=hrel;have HI:=Hd hinv;have HA:=Hd harr;have HG:=Hd hgr;clear hinv harr hgr
  by_cases hlt:i<n
  ·have hf:=HA.out.frozen i
   have hll:cur.length=n:=by rw [HI.out.len (by rw [HRL.out];exact hi),HRL.out]
   have hcc:=HA.out.cell (i:=i) (by rw [hll];exact hlt);rw [HI.out.at (Nat.le_refl _)] at hcc;have hx1:=HRW.out.get i
   obtain⟨x,hxx⟩:∃ r,rs[i]?.getD 0=r:=⟨_,rfl⟩
   rw [hxx] at hcc hx1;have HXX:=Hd hxx;clear hxx
   by_cases hl2:i+1<n
   ·have hc2:=HA.out.cell (i:=i+1) (by rw [hll];exact hl2);rw [HI.out.at (by omega)] at hc2;rw [show ad.add (i+1)=⟨ad.block,ad.off+(i+1),none⟩ from by unfold Addr.add;simp] at hc2;have hy1:=HRW.out.get (i+1)
    obtain⟨y,hyy⟩:∃ r,rs[i+1]?.getD 0=r:=⟨_,rfl⟩
    rw [hyy] at hc2 hy1;have HYY:=Hd hyy;have HLL:=Hd hll;clear hyy hll;have hor:=or_join' (i:=32) (x:=y) (y:=x) (by omega) (by omega) (by omega);rw [show (2:Nat)^32=4294967296 from rfl,show ((y*4294967296:Nat):Int)=(y:Int)*4294967296 from by omega] at hor
    obtain⟨v,hv⟩:∃ v,x+y*4294967296=v:=⟨_,rfl⟩
    rw [hv] at hor
    have hsh:(v:Int) / (2:Int)^s=((v / 2^s:Nat):Int):=by rw [Int.natCast_ediv,Int.natCast_pow];rfl
    obtain⟨z,hz⟩:∃ z,v / 2^s=z:=⟨_,rfl⟩
    rw [hz] at hsh;have HV:=Hd hv;have HZ:=Hd hz
    have hv1:v<18446744073709551616:=by omega
    clear hv hz
    have i1:((i:Int)+1).toNat=i+1:=by omega
    go_wp2
    go_roundw
    case rel=>
     refine⟨i+1,cur.set i (z % 4294967296),by go_num,by omega,?_,?_,grown_setw HG.out _ _⟩
     ·rw [<- HZ.out]
      exact HI.out.step (by rw [HRL.out];exact hlt) HRW.out hs (by rw [HXX.out,HYY.out,<- HV.out];omega)
     ·exact HA.out.set (by rw [HLL.out];exact hlt) (z % 4294967296)
    case measure=>simp [intOf];omega
   ·have HYY:=Hd (show rs[i+1]?.getD 0=0 by rw [List.getElem?_eq_none (by rw [HRL.out];omega)];rfl)
    have hsh:(x:Int) / (2:Int)^s=((x / 2^s:Nat):Int):=by rw [Int.natCast_ediv,Int.natCast_pow];rfl
    obtain⟨z,hz⟩:∃ z,x / 2^s=z:=⟨_,rfl⟩
    rw [hz] at hsh;have HZ:=Hd hz;have HLL:=Hd hll;clear hz hll;go_wp2
    go_roundw
    case rel=>
     refine⟨i+1,cur.set i (z % 4294967296),by go_num,by omega,?_,?_,grown_setw HG.out _ _⟩
     ·rw [<- HZ.out]
      exact HI.out.step (by rw [HRL.out];exact hlt) HRW.out hs (by rw [HXX.out,HYY.out];omega)
     ·exact HA.out.set (by rw [HLL.out];exact hlt) (z % 4294967296)
    case measure=>simp [intOf];omega
  ·obtain rfl:i=n:=by omega
   have hi1:=HI.out;have hw1:=hi1.w32 HRW.out
   have hl1:cur.length=i:=by rw [hi1.len (by rw [HRL.out];exact Nat.le_refl _),HRL.out]
   have hu:=HA.out.u32s hw1 hl1 (by omega) hc
   have hd:num cur=num rs / 2^s:=by
    have hl:=HRL.out;subst hl
    exact hi1.done HRW.out
   have HC:=Hd (cut_any _ _ _ _ _ hu);have HD:=Hd hu.cutd;rw [hd] at HD
   obtain⟨kk,hkk⟩:∃ kk,wlen cur=kk:=⟨_,rfl⟩
   rw [hkk] at HC HD;clear hkk hu hd hi1 hw1 hl1;go_wp2_with fail;refine HC.out.mono ?_;rintro e w' ⟨rfl,rfl⟩;go_wp2
   go_ret
   exact⟨kk,rfl,HD.out,HG.out⟩
theorem back_any(g n s:Nat)(rs:List Nat)(w:World)(hr:Arr w g rs)(hrw:W32 rs)(hrl:rs.length=n)(hs:s<32)(hn:n<=1073741824):
  Calls prog 266 #[.slice (some ⟨g,0,none⟩) n n,.int .i64 (s:Int)] w fun e w'=>
   ∃ k,e=.returned (.slice (some ⟨g,0,none⟩) k k)/\U32s w' (some ⟨g,0,none⟩) k k (digs (num rs / 2^s))/\w.grownBy w' (some g):=
 back_win ⟨g,0,none⟩ n n s [] rs [] w hr.win (Nat.le_refl _) hrw hrl hs hn
theorem nquo_any(A B:Option Addr)(n c m d:Nat)(xs ys:List Nat)(w:World)(hx:U32s w A n c xs)(hy:U32s w B m d ys)(hl1:wlen xs<=16384)(hl2:wlen ys<=16384)(h0:0<num ys):
  Calls prog 240 #[.slice A n c,.slice B m d] w (NewQR w (num xs / num ys) (num xs % num ys)):=by
 have HQ1:=Hd (words_q A n c xs w hx);have HQ2:=Hd (words_q B m d ys w hy);have n1:=hx.small;have n2:=hy.small;have cc1:=hx.cap;have cc2:=hy.cap;have l1:=wlen_le xs;have l2:=wlen_le ys;rw [hx.len] at l1;rw [hy.len] at l2;have e1:=num_trim xs;have e2:=num_trim ys;rw [trim_eq_take] at e1 e2;have t1:=wlen_spec ys;have HX0:=hx.take l1;have HY0:=hy.take l2;have hyt:=trim_eq_digs hy.w32;rw [trim_eq_take] at hyt;have hxt:=trim_eq_digs hx.w32;rw [trim_eq_take] at hxt;have hp0:=mt wlen_eq_zero.1 (show ¬ num ys=0 by omega)
 obtain⟨p,hp⟩:∃ p,wlen xs=p:=⟨_,rfl⟩
 obtain⟨q,hq⟩:∃ p,wlen ys=p:=⟨_,rfl⟩
 rw [hp] at HQ1 l1 hl1 e1 HX0 hxt;rw [hq] at HQ2 l2 hl2 e2 HY0 hyt hp0;rw [hq] at t1
 have hyq:(ys.take q)[q - 1]?.getD 0≠0:=by
  rw [List.getElem?_take_of_lt (by omega)]
  rcases t1.2 with h | h
  ·omega
  ·exact h
 obtain⟨us,hus⟩:∃ l,xs.take p=l:=⟨_,rfl⟩
 obtain⟨vs,hvs⟩:∃ l,ys.take q=l:=⟨_,rfl⟩
 rw [hus] at e1 HX0 hxt;rw [hvs] at e2 HY0 hyt hyq
 have wu:wlen us=p:=by rw [hxt,wlen_digs,<- hxt,HX0.len]
 have wv:wlen vs=q:=by rw [hyt,wlen_digs,<- hyt,HY0.len]
 rw [<- e1] at hxt;have HXT:=Hd hxt;rw [<- e1,<- e2];rw [<- e2] at h0;have HX:=Hd HX0;have HY:=Hd HY0;have HV0:=Hd h0;have HYQ:=Hd hyq;have WU:=Hd wu;have WV:=Hd wv
 have hq0:0<q:=by omega
 clear hx hy hp hq e1 e2 HX0 HY0 hus hvs h0 hyq t1 hyt hxt hp0 wu wv
 have hz0:((q:Int) == 0)=false:=by simp;omega
 go_enter func240,ntmps240
 go_wp2_with fail
 go_quiet ((first | (go_at_call_of 203 (Value.slice A n c);exact Calls.quiet_of_same (HQ1.out _)) | (go_at_call_of 203 (Value.slice B m d);exact Calls.quiet_of_same (HQ2.out _))))
 obtain⟨w1,hw1⟩:∃ w1,w.drewN nq=w1:=⟨_,rfl⟩
 have HB1:=Hd (show Below w.heap.size w w1 from by rw [<- hw1];exact below_drewN (Below.refl _ _) nq);have HX1:=Hd (show U32s w1 A p c us from by rw [<- hw1];exact HX.out.keep (Nat.le_refl _) fun _ _ _=>rfl);have HY1:=Hd (show U32s w1 B q d vs from by rw [<- hw1];exact HY.out.keep (Nat.le_refl _) fun _ _ _=>rfl);rw [hw1];clear hw1 HQ1 HQ2 HX HY
 obtain⟨w2,hw2⟩:∃ w2,w1.alloc (.cells #[.slice A p c,.slice B q d] 40)=w2:=⟨_,rfl⟩
 have hb2:Below w1.heap.size w1 w2:=by rw [<- hw2];exact below_alloc w1 _
 have hx2:=HX1.out.below hb2;have hy2:=HY1.out.below hb2;have HLG:=Hd (long_two w1.heap.size A p c us B q d vs w2 hx2 (by rw [<- hw2];simp [World.cell?_alloc_new]) (by rw [WU.out];exact hl1) hy2 (by rw [<- hw2];simp [World.cell?_alloc_new]) (by rw [WV.out];exact hl2));have HB2:=Hd (HB1.out.trans (hb2.mono HB1.out.size));have HX2:=Hd hx2;have HY2:=Hd hy2;have HW2:=Hd hw2;clear hb2 hx2 hy2 hw2 HX1 HY1 HB1;go_wp2_with fail;rw [HW2.out];refine HLG.out.mono ?_;rintro e w' ⟨rfl,rfl⟩;clear HLG HW2;have HC:=Hd (ncmp_any A B p c q d us vs w2 HX2.out HY2.out)
 obtain⟨cc,ecc⟩:∃ z,cmp3 (num us) (num vs)=z:=⟨_,rfl⟩
 rw [ecc] at HC;have ECC:=Hd ecc;clear ecc;go_wp2_with fail;refine HC.out.mono ?_;rintro e w3 ⟨rfl,k,hk⟩
 have hb3:Below w2.heap.size w2 w3:=by rw [hk];exact below_drewN (Below.refl _ _) k
 have HB3:=Hd (HB2.out.trans (hb3.mono HB2.out.size));have HX3:=Hd (HX2.out.below hb3);have HY3:=Hd (HY2.out.below hb3);clear hb3 hk HC HX2 HY2 HB2 w2
 by_cases hneg:cc<0
 ·have hlt:=ECC.out;have hlt2:num us<num vs:=cmp3_neg.1 (by rw [hlt];exact hneg);have HN:=Hd (nnorm_any A p c us w3 HX3.out);have D1:=Hd (Nat.div_eq_of_lt hlt2);have D2:=Hd (Nat.mod_eq_of_lt hlt2);clear hlt hlt2 ECC;go_wp2_with fail;refine HN.out.mono ?_;rintro e w4 ⟨g,nn,rfl,hl,ha,hg,hb4⟩;have HU:=Hd (ha.u32s' (W32.digs _) hl (by rw [<- HXT.out,HX3.out.len] at hl;omega));have HB4:=Hd (HB3.out.trans (hb4.mono HB3.out.size));clear hl ha hg hb4 HB3 HX3 HY3 HN;go_wp2
  go_ret3
  exact⟨none,0,0,_,nn,nn,rfl,by rw [D1.out,digs_zero];exact U32s.nil _ _ _,by rw [D2.out];exact HU.out,HB4.out⟩
 ·have hge:num vs<=num us:=cmp3_nonneg.1 (by have:=ECC.out;omega);have HGE:=Hd hge;clear ECC hge
  by_cases hq1:q=1
  ·subst hq1;obtain⟨ad,rfl,hc⟩:=HY3.out.cell (j:=0) (by omega);have hy1:=HY3.out.lt 0;have hyy:=HYQ.out
   have hval:num vs=vs[0]?.getD 0:=by
    have:=num_take_next vs 0;rw [List.take_of_length_le (by rw [HY3.out.len];omega)] at this;rw [this];simp [num]
   simp only [Nat.sub_self] at hyy
   obtain⟨y,ey⟩:∃ y,vs[0]?.getD 0=y:=⟨_,rfl⟩
   rw [ey] at hc hy1 hyy hval;rw [show ad.add 0=ad from by simp [Addr.add]] at hc;have HO:=Hd (one_any A p c y us w3 HX3.out hy1 (by omega) (by omega))
   obtain⟨Q,hQ⟩:∃ z,num us / y=z:=⟨_,rfl⟩
   obtain⟨R,hR⟩:∃ z,num us % y=z:=⟨_,rfl⟩
   rw [hQ,hR] at HO;have D1:=Hd (show num us / num vs=Q from by rw [hval,hQ]);have D2:=Hd (show num us % num vs=R from by rw [hval,hR]);clear hval ey hyy hQ hR HGE HX3 HY3 HV0 HYQ WU WV hz0;go_wp2_with fail;refine HO.out.mono ?_;rintro e w4 ⟨A2,n3,c3,B2,m3,d3,rfl,hu,hv,hb4⟩;have HU:=Hd hu;have HV:=Hd hv;have HB4:=Hd (HB3.out.trans (hb4.mono HB3.out.size));clear hu hv hb4 HB3 HO;go_wp2
   go_ret3
   exact⟨_,n3,c3,_,m3,d3,rfl,by rw [D1.out];exact HU.out,by rw [D2.out];exact HV.out,HB4.out⟩
  ·have hq2:2<=q:=by omega
   obtain⟨ad,rfl,hc⟩:=HY3.out.cell (j:=q - 1) (by omega);have hy1:=HY3.out.lt (q - 1);have hyy:=HYQ.out
   obtain⟨y,ey⟩:∃ y,vs[q - 1]?.getD 0=y:=⟨_,rfl⟩
   rw [ey] at hc hy1 hyy
   obtain⟨s,es⟩:∃ s,32 - blen y=s:=⟨_,rfl⟩
   have hts:=top_set (n:=q - 1) (s:=s) (y:=y) HY3.out.w32 (by rw [HY3.out.len];omega) ey es.symm (by omega);rw [show q - 1+1=q from by omega] at hts
   have hby:0<blen y:=by
    rcases Nat.eq_zero_or_pos (blen y) with h | h
    ·rw [blen_eq_zero] at h;omega
    ·exact h
   have hs32:s<32:=by omega
   have HLZ:=Hd fun W=>lead32_any y W hy1;rw [es] at HLZ;have HTS:=Hd hts
   have HSH:=Hd fun A n c xs W (h1:U32s W A n c xs) h2=>((shift_any A n c s xs W h1 hs32 h2).mono (by
    rintro e w' ⟨zs,⟨g,k,rfl,hl,ha,hg,hb⟩,hz,hn,hv⟩
    obtain rfl:k=n+1:=by omega
    exact⟨g,zs,rfl,ha,hb,hg,hz,hn,hv⟩):Calls prog 258 #[.slice A n c,.int .i64 (s:Int)] W fun e w'=>∃ g zs,e=.returned (.slice (some ⟨g,0,none⟩) (n+1) (n+1))/\Arr w' g zs/\Below W.heap.size W w'/\W.heap.size<=g/\W32 zs/\zs.length=n+1/\num zs=num xs*2^s)
   clear ey es hts hyy hby HYQ
   have hz1:((q:Int) == 1)=false:=by simp;omega
   have hqq:(q:Int)<=(q:Int)+1:=by omega
   go_wp2_with fail;refine cy (HLZ.out _) ?_;clear HLZ hc;go_wp2_with fail;refine wp_region_held_drew (S:=fun W'=>U32s W' A p c us/\U32s W' (some ad) q d vs/\Below w.heap.size w W') (by kernel_rfl) (by exact⟨HX3.out.drew,HY3.out.drew,HB3.out.drew⟩) (fun hHeld=>?_);refine tks 0 ?_;refine tks 1 ?_;refine tks 3 ?_;refine tks 4 ?_;refine tks 6 ?_;refine tks 7 ?_;refine rdy 2 fun KK hKK=>?_;go_simp;refine (HSH.out _ _ _ _ _ hHeld.1 (by omega)).mono ?_;rintro e w4 ⟨g1,zs,rfl,ha4,hb4,hg4,hz4,hn4,hv4⟩;go_wp2_with fail;refine hKK.out _ _ (⟨hHeld.1.below hb4,hHeld.2.1.below hb4,hHeld.2.2.trans (hb4.mono hHeld.2.2.size)⟩) (fun _=>?_);clear hKK KK hHeld;rename_i hHeld;(try simp only [Act.put,lay]);refine rdy 5 fun KK hKK=>?_;go_simp;refine (HSH.out _ _ _ _ _ hHeld.2.1 (by omega)).mono ?_;rintro e w5 ⟨g2,zt,rfl,ha5,hb5,hg5,hz5,hn5,hv5⟩;go_wp2_with fail;refine hKK.out _ _ (⟨hHeld.1.below hb5,hHeld.2.1.below hb5,hHeld.2.2.trans (hb5.mono hHeld.2.2.size)⟩) (fun _=>?_);clear hKK KK hHeld;rename_i hHeld;(try simp only [Act.put,lay]);refine tks 8 ?_;refine tks 9 ?_;refine tks 10 ?_;refine wpAnyH_done (by kernel_rfl) ?_ _;have HA1:=Hd (ha4.below hb5 ha4.lt);have HB5:=Hd hHeld.2.2;have hg1:w.heap.size<=g1:=Nat.le_trans HB3.out.size hg4;have hg12:g1<g2:=Nat.lt_of_lt_of_le ha4.lt hg5;have tw:=top_word (n:=q - 1) hz5 (by rw [show q - 1+1=q from by omega,hv5];exact HTS.out.1) (by rw [hv5];exact HTS.out.2);rw [show q - 1+1=q from by omega,hv5] at tw;have HVS:=Hd ((ha5.u32s' hz5 hn5 (by omega)).take (k:=q) (by omega))
   obtain⟨vt,hvt⟩:∃ l,zt.take q=l:=⟨_,rfl⟩
   rw [hvt] at tw HVS;have HV1:=Hd tw.1;have HVV:=Hd tw.2;have HVL:=Hd HTS.out.1
   have hpq:q<=p:=by
    rcases Nat.lt_or_ge p q with h | h
    ·exfalso
     have h1:=num_lt HX3.out.w32;rw [HX3.out.len] at h1;have h2:=le_num_wlen (l:=vs) (by rw [WV.out];omega);rw [WV.out] at h2;have h3:2^(32*p)<=2^(32*(q - 1)):=Nat.pow_le_pow_right (by omega) (by omega);have:=HGE.out
     omega
    ·exact h
   obtain⟨L,hL⟩:∃ L,p - q+1=L:=⟨_,rfl⟩
   have eL:(p:Int) - (q:Int)+1=(L:Int):=by omega
   have hLp:L+q=p+1:=by omega
   have HUV:=Hd (show num us<2^(32*p) from by have h:=num_lt HX3.out.w32;rwa [HX3.out.len] at h)
   have HQ0:=Hd (show QuoInv zs (List.replicate L 0) zs (num vs*2^s) L from by
    refine QuoInv.start (n:=q) hz4 (by omega) ?_ ?_
    ·have h:=HTS.out.2
     have h2:2^(32*q)=2^(32*(q - 1))*4294967296:=by rw [show 32*q=32*(q - 1)+32 from by omega,Nat.pow_add]
     omega
    ·rw [hv4];have h:=HTS.out.2
     have h3:2147483648*2^(32*(q - 1))*2^(32*L)=2147483648*2^(32*p):=by rw [Nat.mul_assoc,<- Nat.pow_add];congr 2;omega
     have h4:2147483648*2^(32*(q - 1))*2^(32*L)<=num vs*2^s*2^(32*L):=Nat.mul_le_mul_right _ h;have h5:2^s<=2147483648:=Nat.pow_le_pow_right (n:=2) (by omega) (show s<=31 by omega);have h6:num us*2^s<=num us*2147483648:=Nat.mul_le_mul_left _ h5;have:=HUV.out
     omega)
   have HZV:=Hd hv4;have HZN:=Hd hn4;have HVP:=Hd (show 0<num vs*2^s from Nat.mul_pos HV0.out (Nat.two_pow_pos _));have hmk:=fun W=>make_u32 (N:=(L:Int)) (n:=L) rfl (by omega) W;clear hHeld hb4 hb5 ha4 ha5 hg4 hg5 hz4 hn4 hv4 hz5 hn5 hv5 tw hvt HTS HX3 HY3 HB3 HGE HSH HUV hL;go_wp2
   obtain⟨w6,hw6⟩:∃ W,w5.alloc (.cells (Array.replicate L (wd 0)) 117)=W:=⟨_,rfl⟩
   have HB6:=Hd (show Below w.heap.size w w6 from by rw [<- hw6];exact HB5.out.alloc HB5.out.size _);have HA6:=Hd (show Arr w6 g1 zs from by rw [<- hw6];exact HA1.out.alloc _);have HS6:=Hd (show U32s w6 (some ⟨g2,0,none⟩) q (q+1) vt from by rw [<- hw6];exact HVS.out.alloc _);have HR6:=Hd (show Arr w6 w5.heap.size (List.replicate L 0) from by rw [<- hw6];exact Arr.zeros _ _)
   have hg23:g2<w5.heap.size:=by
    obtain⟨ad',e',h1,h2⟩:=HVS.out.at_ (by omega)
    cases e';exact h1
   obtain⟨g3,hg3⟩:∃ g,w5.heap.size=g:=⟨_,rfl⟩
   rw [hw6];rw [hg3] at hg23 HR6 ⊢;clear hw6 hg3 HA1 HVS HB5 hmk w5
   obtain⟨V,hV⟩:∃ V,num vs*2^s=V:=⟨_,rfl⟩
   rw [hV] at HVV HVL HQ0 HVP;have HVE:=Hd hV;clear hV
   have hqp:(q:Int)<=(p:Int)+1:=by omega
   go_loopw [10,11,74] (fun _ _ iv wr=>∃ (i:Nat) (qs cur:List Nat),iv=.int .i64 i/\i<=L/\QuoInv zs qs cur V (L - i)/\qs.length=L/\Arr wr g3 qs/\Arr wr g1 cur/\U32s wr (some ⟨g2,0,none⟩) q (q+1) vt/\Below w.heap.size w wr) (fun _ _ iv _=>L - (intOf iv).toNat)
   case atStart=>exact⟨0,_,zs,rfl,Nat.zero_le _,HQ0.out,by simp,HR6.out,HA6.out,HS6.out,HB6.out⟩
   case round=>
    obtain⟨i,qs,cur,rfl,hi,hinv,hql,hq3,ha1,hs2,hb⟩:=hrel;clear HQ0 HR6 HA6 HS6 HB6
    have hcl:cur.length=p+1:=by rw [hinv.2.2.1,HZN.out]
    have HI:=Hd hinv;have HQ:=Hd hq3;have HA:=Hd ha1;have HS:=Hd hs2;have HB:=Hd hb;have HQL:=Hd hql;have HCL:=Hd hcl;clear hinv hq3 ha1 hs2 hb
    by_cases hlt:i<L
    ·obtain⟨j,hj⟩:∃ j,L - 1 - i=j:=⟨_,rfl⟩
     have ej:(L:Int) - 1 - (i:Int)=(j:Int):=by omega
     have hjL:(j:Int)<(L:Int):=by omega
     have hjq:j+q+1<=cur.length:=by omega
     have hI2:QuoInv zs qs cur V (j+1):=by have h:=HI.out;rw [show L - i=j+1 from by omega] at h;exact h
     have hz:=hI2.zero hjq HVL.out;have hsp:=split3 hjq;have hst:=fun rs h1 h2 h3=>hI2.step (rs:=rs) hjq HVL.out HVP.out (by omega) h1 h2 h3
     obtain⟨pre,hpre⟩:∃ l,cur.take j=l:=⟨_,rfl⟩
     obtain⟨ws,hws⟩:∃ l,(cur.drop j).take (q+1)=l:=⟨_,rfl⟩
     obtain⟨post,hpost⟩:∃ l,cur.drop (j+(q+1))=l:=⟨_,rfl⟩
     have hww:W32 ws:=by rw [<- hws];exact (hI2.2.1.drop _).take _
     rw [hpre,hws,hpost] at hsp;rw [hpre,hws] at hz;rw [hpre,hws,hpost] at hst
     have hwin:Win wr ⟨g1,j,none⟩ pre ws post:=⟨g1,by rw [hsp.2.1],by rw [<- hsp.1];exact HA.out⟩
     have HDG:=Hd fun c (hc:q+1<=c)=>digit_any ⟨g1,j,none⟩ (some ⟨g2,0,none⟩) q c (q+1) pre ws post vt wr hwin hww HS.out (by intro b e _;cases e;show g2≠g1;omega) hsp.2.2 hc hq2 (by omega) (by rw [HVV.out];exact hz.2.1) HV1.out;rw [HVV.out] at HDG
     obtain⟨D,hD⟩:∃ D,num ws / V=D:=⟨_,rfl⟩
     rw [hD] at HDG hst;have HST:=Hd hst;have HJ:=Hd hj;have hf3:=HQ.out.frozen j;have hcq:=HQ.out.cell (j:=j) (by omega)
     obtain⟨q0,hq0⟩:∃ z,qs[j]?.getD 0=z:=⟨_,rfl⟩
     rw [hq0] at hcq
     have b1:(j:Int)<=(j:Int)+(q:Int)+1:=by omega
     have b2:(j:Int)+(q:Int)+1<=(p:Int)+1:=by omega
     clear hI2 hz hsp hst hpre hws hpost hww hwin hD hj hjq hq0 hql hcl;go_wp2_with fail;rw [show j+q+1 - j=q+1 from by omega];refine (HDG.out _ (by omega)).mono ?_;rintro e w' ⟨rs,rfl,hwin2,hrw2,hrl2,hrv2,hgr2⟩;obtain⟨g',e',ha'⟩:=hwin2
     injection e' with e1 e2
     subst e1;have hq':Arr w' g3 qs:=HQ.out.of_block (hgr2.block g3 HQ.out.lt (by intro e;injection e;omega));have HQ':=Hd (hq'.set j D);have HA':=Hd (ha'.far (p:=⟨g3,j,none⟩) (show g1≠g3 by omega) (wd D));have HS':=Hd ((HS.out.grown hgr2 (by intro b e _;cases e;show g2≠g1;omega)).far (p:=⟨g3,j,none⟩) (by intro b e;cases e;show g2≠g3;omega) (wd D));have HB':=Hd ((below_grown HB.out hgr2 hg1 HB.out.size).setCell (p:=⟨g3,j,none⟩) (show w.heap.size<=g3 by omega) (wd D));have HSN:=Hd (HST.out rs hrw2 hrl2 hrv2).1;have hf3:=hq'.frozen j;have hcq':=hq'.cell (j:=j) (by rw [HQL.out];omega)
     obtain⟨q1,hq1⟩:∃ z,qs[j]?.getD 0=z:=⟨_,rfl⟩
     rw [hq1] at hcq';clear hq1 hq' ha' e2 hrw2 hrl2 hrv2 hgr2 HST HDG HQ HA HS HB HI hcq;go_wp2
     go_roundw
     case rel=>exact⟨i+1,qs.set j D,_,by go_num,by omega,by rw [show L - (i+1)=j from by have:=HJ.out;omega];exact HSN.out,by simp [HQL.out],HQ'.out,HA'.out,HS'.out,HB'.out⟩
     case measure=>simp [intOf];omega
    ·obtain rfl:i=L:=by omega
     have hdn:=HI.out;rw [Nat.sub_self,<- HVE.out] at hdn;have hqd:=hdn.done HZV.out (by rw [HVE.out];exact HVL.out);have hw1:W32 qs:=hdn.1;have hw2:W32 cur:=hdn.2.1;have hut:=(HA.out.u32s' hw2 hcl (by omega)).take (k:=q) (by omega);have hwt:=hut.w32;have hlt':=hut.len;have HC1:=Hd fun W (h:U32s W (some ⟨g1,0,none⟩) q (p+1) (cur.take q))=>cut_any _ _ _ _ _ h;have HUT:=Hd hut
     obtain⟨k1,hk1⟩:∃ k,wlen (cur.take q)=k:=⟨_,rfl⟩
     rw [hk1] at HC1
     have hk1q:k1<=q:=by rw [<- hk1];have:=wlen_le (cur.take q);omega
     have hku:=HQ.out.u32s' hw1 hql (by omega);have HC2:=Hd (cut_any _ _ _ _ _ hku);have HD:=Hd hku.cutd;rw [hqd.1] at HD
     obtain⟨k2,hk2⟩:∃ k,wlen qs=k:=⟨_,rfl⟩
     rw [hk2] at HC2 HD
     have hwin:Win wr ⟨g1,0,none⟩ [] (cur.take k1) (cur.drop k1):=⟨g1,rfl,by simpa using HA.out⟩
     have hnk:num (cur.take k1)=num (cur.take q):=by
      have h:=num_take_all (l:=cur.take q) (n:=k1) (by omega)
      rwa [List.take_take,Nat.min_eq_left hk1q] at h
     have HBK:=Hd (back_win ⟨g1,0,none⟩ k1 k1 s [] (cur.take k1) (cur.drop k1) wr hwin (Nat.le_refl _) (hw2.take _) (by simp;omega) hs32 (by omega));rw [hnk,hqd.2] at HBK;clear hdn hqd hw1 hw2 hut hwt hlt' hk1 hku hk2 hwin hnk HA HQ HI hcl hql HVP HVL HVV HVE HZV HZN HS HCL HQL;go_wp2_with fail;refine cy (HC1.out _ HUT.out) ?_;clear HC1 HUT;go_wp2_with fail;refine HC2.out.mono ?_;rintro e w' ⟨rfl,rfl⟩;go_wp2_with fail;refine HBK.out.mono ?_;rintro e w' ⟨k3,rfl,hu3,hgr3⟩;have HU3:=Hd hu3;have HD3:=Hd (HD.out.grown hgr3 (by intro b e _;cases e;show g3≠g1;omega));have HB3:=Hd (below_grown HB.out hgr3 hg1 HB.out.size);clear hu3 hgr3 HBK HC2 HD HB hlt hi;go_wp2
     go_ret3
     exact⟨_,k2,k2,_,k3,k3,rfl,HD3.out,HU3.out,HB3.out⟩
section
attribute [local go_sem] run_store_float run_frombits run_bitsof run_negf
theorem next_up(s:Nat)(w:World)(hs:L64 s)(hf:rungOf s<M):Calls prog 227 (Zv s 9218868437227405312) w (NextTo w (idx s+1)):=by
 have hM:M=9218868437227405312:=rfl
 have hr:rungOf s<=M:=by omega
 have hc:=pat_cases hs;have hb:=idx_bounds hr;have N1:=Hd (isnanf s w hr);have N2:=Hd (isnanf 9218868437227405312 w real_max);have o1:=ord_lt hr real_max (by rw [idx_max];omega);have o2:=ord_gt real_max hr (by rw [idx_max];omega)
 rcases Int.lt_trichotomy (idx s) 0 with h | h | h
 ·have o3:=ord_lt hr real_zero (by rw [idx_zero];exact h);have hc2:=pat_cases (b:=s - 1) (by omega);have H:=Hd (show s - 1<18446744073709551616/\rungOf (s - 1)<=M/\idx (s - 1)=idx s+1 from by omega)
  have e1:(s:Int) - 1=((s - 1:Nat):Int):=by omega
  have f1:∀ W:World,(callFunc 74 #[.int .u64 ((s:Int) - 1)]).run prog W=.ok (.value (.float .f64 (s - 1))) W:=fun W=>by rw [e1];exact run_frombits (s - 1) W
  have b1:0<=(s:Int) - 1/\(s:Int) - 1<18446744073709551616:=by omega
  clear hc hc2 hb h hM e1 hr hf
  go_enter func227,ntmps227
  go_wp2_with fail;refine N1.out.mono ?_;rintro e w' ⟨rfl,rfl⟩;go_wp2_with fail;refine N2.out.mono ?_;rintro e w' ⟨rfl,rfl⟩;go_wp2
  go_ret
  exact⟨_,rfl,H.out.1,H.out.2.1,H.out.2.2,rfl⟩
 ·have o3:=ord_eq hr real_zero (by rw [idx_zero];exact h);have HC:=Hd (copy_pos w);have f1:∀ W:World,(callFunc 74 #[.int .u64 1]).run prog W=.ok (.value (.float .f64 1)) W:=fun W=>run_frombits 1 W;have H:=Hd (show rungOf 1<=M/\idx 1=idx s+1 from⟨by decide,by rw [h];decide⟩);clear hc hb h hM hr hf
  go_enter func227,ntmps227
  go_wp2_with fail;refine N1.out.mono ?_;rintro e w' ⟨rfl,rfl⟩;go_wp2_with fail;refine N2.out.mono ?_;rintro e w' ⟨rfl,rfl⟩;go_wp2_with fail;refine HC.out.mono ?_;rintro e w' ⟨rfl,rfl⟩;go_wp2
  go_ret
  exact⟨_,rfl,by decide,H.out.1,H.out.2,rfl⟩
 ·have o3:=ord_gt hr real_zero (by rw [idx_zero];exact h);have hc2:=pat_cases (b:=s+1) (by omega);have H:=Hd (show s+1<18446744073709551616/\rungOf (s+1)<=M/\idx (s+1)=idx s+1 from by omega)
  have e1:(s:Int)+1=((s+1:Nat):Int):=by omega
  have f1:∀ W:World,(callFunc 74 #[.int .u64 ((s:Int)+1)]).run prog W=.ok (.value (.float .f64 (s+1))) W:=fun W=>by rw [e1];exact run_frombits (s+1) W
  have b1:0<=(s:Int)+1/\(s:Int)+1<18446744073709551616:=by omega
  clear hc hc2 hb h hM e1 hr hf
  go_enter func227,ntmps227
  go_wp2_with fail;refine N1.out.mono ?_;rintro e w' ⟨rfl,rfl⟩;go_wp2_with fail;refine N2.out.mono ?_;rintro e w' ⟨rfl,rfl⟩;go_wp2
  go_ret
  exact⟨_,rfl,H.out.1,H.out.2.1,H.out.2.2,rfl⟩
theorem next_down(s:Nat)(w:World)(hs:L64 s)(hf:rungOf s<M):Calls prog 227 (Zv s 18442240474082181120) w (NextTo w (idx s - 1)):=by
 have hM:M=9218868437227405312:=rfl
 have hr:rungOf s<=M:=by omega
 have hc:=pat_cases hs;have hb:=idx_bounds hr;have N1:=Hd (isnanf s w hr);have N2:=Hd (isnanf 18442240474082181120 w real_min);have o1:=ord_gt hr real_min (by rw [idx_min];omega);have o2:=ord_lt real_min hr (by rw [idx_min];omega)
 rcases Int.lt_trichotomy (idx s) 0 with h | h | h
 ·have o3:=ord_lt hr real_zero (by rw [idx_zero];exact h);have hc2:=pat_cases (b:=s+1) (by omega);have H:=Hd (show s+1<18446744073709551616/\rungOf (s+1)<=M/\idx (s+1)=idx s - 1 from by omega)
  have e1:(s:Int)+1=((s+1:Nat):Int):=by omega
  have f1:∀ W:World,(callFunc 74 #[.int .u64 ((s:Int)+1)]).run prog W=.ok (.value (.float .f64 (s+1))) W:=fun W=>by rw [e1];exact run_frombits (s+1) W
  have b1:0<=(s:Int)+1/\(s:Int)+1<18446744073709551616:=by omega
  clear hc hc2 hb h hM e1 hr hf
  go_enter func227,ntmps227
  go_wp2_with fail;refine N1.out.mono ?_;rintro e w' ⟨rfl,rfl⟩;go_wp2_with fail;refine N2.out.mono ?_;rintro e w' ⟨rfl,rfl⟩;go_wp2
  go_ret
  exact⟨_,rfl,H.out.1,H.out.2.1,H.out.2.2,rfl⟩
 ·have o3:=ord_eq hr real_zero (by rw [idx_zero];exact h);have HC:=Hd (copy_neg w);have f1:∀ W:World,(callFunc 74 #[.int .u64 1]).run prog W=.ok (.value (.float .f64 1)) W:=fun W=>run_frombits 1 W;have H:=Hd (show rungOf 9223372036854775809<=M/\idx 9223372036854775809=idx s - 1 from⟨by decide,by rw [h];decide⟩);clear hc hb h hM hr hf
  go_enter func227,ntmps227
  go_wp2_with fail;refine N1.out.mono ?_;rintro e w' ⟨rfl,rfl⟩;go_wp2_with fail;refine N2.out.mono ?_;rintro e w' ⟨rfl,rfl⟩;go_wp2_with fail;refine HC.out.mono ?_;rintro e w' ⟨rfl,rfl⟩;go_wp2
  go_ret
  exact⟨_,rfl,by decide,H.out.1,H.out.2,rfl⟩
 ·have o3:=ord_gt hr real_zero (by rw [idx_zero];exact h);have hc2:=pat_cases (b:=s - 1) (by omega);have H:=Hd (show s - 1<18446744073709551616/\rungOf (s - 1)<=M/\idx (s - 1)=idx s - 1 from by omega)
  have e1:(s:Int) - 1=((s - 1:Nat):Int):=by omega
  have f1:∀ W:World,(callFunc 74 #[.int .u64 ((s:Int) - 1)]).run prog W=.ok (.value (.float .f64 (s - 1))) W:=fun W=>by rw [e1];exact run_frombits (s - 1) W
  have b1:0<=(s:Int) - 1/\(s:Int) - 1<18446744073709551616:=by omega
  clear hc hc2 hb h hM e1 hr hf
  go_enter func227,ntmps227
  go_wp2_with fail;refine N1.out.mono ?_;rintro e w' ⟨rfl,rfl⟩;go_wp2_with fail;refine N2.out.mono ?_;rintro e w' ⟨rfl,rfl⟩;go_wp2
  go_ret
  exact⟨_,rfl,H.out.1,H.out.2.1,H.out.2.2,rfl⟩
def nud(d k e:Int):Int:=if d=-1/\e<0 then k - 1 else if d=1/\0<e then k+1 else k
theorem nudge_any(d:Int)(s e:Nat)(w:World)(hd:d=-1\/d=1)(hs:L64 s)(hf:rungOf s<M)(he:rungOf e<=M):
  Calls prog 186 #[.int .i64 d,.float .f64 s,.float .f64 e] w fun e' w'=>e'=.returned (.float .f64 (pat (nud d (idx s) (idx e))))/\w=w':=by
 have H1:=Hd (inf_pos w);have H2:=Hd (inf_neg w);have HU:=Hd (next_up s w hs hf);have HD:=Hd (next_down s w hs hf);have HP:=Hd (rplain s w hs (by omega))
 have ho:(idx e<0/\FloatKind.f64.format.order e 0=some .lt)\/(idx e=0/\FloatKind.f64.format.order e 0=some .eq)\/(0<idx e/\FloatKind.f64.format.order e 0=some .gt):=by
  rcases Int.lt_trichotomy (idx e) 0 with h1 | h1 | h1
  ·exact .inl ⟨h1,ord_lt he real_zero (by rw [idx_zero];exact h1)⟩
  ·exact .inr (.inl ⟨h1,ord_eq he real_zero (by rw [idx_zero];exact h1)⟩)
  ·exact .inr (.inr ⟨h1,ord_gt he real_zero (by rw [idx_zero];exact h1)⟩)
 unfold nud;clear he hs hf
 rcases hd with rfl | rfl<;>rcases ho with ⟨h,o1⟩ | ⟨h,o1⟩ | ⟨h,o1⟩
 ·rw [if_pos ⟨rfl,h⟩];clear h
  go_enter func186,ntmps186
  go_wp2_with fail;refine H2.out.mono ?_;rintro e' w' ⟨rfl,rfl⟩;go_wp2_with fail;refine HD.out.mono ?_;rintro e' w' ⟨r,rfl,r1,r2,r3,rfl⟩;have HQ:=Hd (rplain r w r1 r2);rw [r3] at HQ;clear r1 r2 r3;go_wp2_with fail;refine HQ.out.mono ?_;rintro e' w' ⟨rfl,rfl⟩;go_wp2
  go_ret
  exact⟨rfl,rfl⟩
 ·rw [if_neg (by omega),if_neg (by omega)];clear h
  go_enter func186,ntmps186
  go_wp2_with fail;refine HP.out.mono ?_;rintro e' w' ⟨rfl,rfl⟩;go_wp2
  go_ret
  exact⟨rfl,rfl⟩
 ·rw [if_neg (by omega),if_neg (by omega)];clear h
  go_enter func186,ntmps186
  go_wp2_with fail;refine HP.out.mono ?_;rintro e' w' ⟨rfl,rfl⟩;go_wp2
  go_ret
  exact⟨rfl,rfl⟩
 ·rw [if_neg (by omega),if_neg (by omega)];clear h
  go_enter func186,ntmps186
  go_wp2_with fail;refine HP.out.mono ?_;rintro e' w' ⟨rfl,rfl⟩;go_wp2
  go_ret
  exact⟨rfl,rfl⟩
 ·rw [if_neg (by omega),if_neg (by omega)];clear h
  go_enter func186,ntmps186
  go_wp2_with fail;refine HP.out.mono ?_;rintro e' w' ⟨rfl,rfl⟩;go_wp2
  go_ret
  exact⟨rfl,rfl⟩
 ·rw [if_neg (by omega),if_pos ⟨rfl,h⟩];clear h
  go_enter func186,ntmps186
  go_wp2_with fail;refine H1.out.mono ?_;rintro e' w' ⟨rfl,rfl⟩;go_wp2_with fail;refine HU.out.mono ?_;rintro e' w' ⟨r,rfl,r1,r2,r3,rfl⟩;have HQ:=Hd (rplain r w r1 r2);rw [r3] at HQ;clear r1 r2 r3;go_wp2_with fail;refine HQ.out.mono ?_;rintro e' w' ⟨rfl,rfl⟩;go_wp2
  go_ret
  exact⟨rfl,rfl⟩
end
section
open Go.RowKit Ieee
attribute [local go_sem] run_store_float run_frombits run_bitsof run_negf
theorem and_frac{a:Nat}(ha:a<9223372036854775808):bits .andNot .u64 (a:Int) 9218868437227405312=((a % 4503599627370496:Nat):Int):=by
 have h:=u64_andNot_nat a 9218868437227405312 (by omega) (by omega)
 have e:a &&& (18446744073709551615 - 9218868437227405312)=a % 4503599627370496:=by
  have e1:(18446744073709551615 - 9218868437227405312:Nat)=2^63 ||| (2^52 - 1):=by decide
  rw [e1]
  apply Nat.eq_of_testBit_eq
  intro i;rw [Nat.testBit_and,Nat.testBit_or,Nat.testBit_two_pow,Nat.testBit_two_pow_sub_one,show (4503599627370496:Nat)=2^52 from rfl,Nat.testBit_mod_two_pow]
  by_cases h1:i<52
  ·have h2:¬ 63=i:=by omega
   simp [h1,h2]
  ·by_cases h2:63=i
   ·subst h2;have h3:a.testBit 63=false:=Nat.testBit_lt_two_pow (by omega)
    simp [h3]
   ·simp [h1,h2]
 rw [e] at h
 exact h
theorem i64_and2047{n:Nat}(hn:n<2048):bits .and .i64 (n:Int) 2047=(n:Int):=by
 have h1:(BitVec.ofInt 64 2047).toNat=2 ^ 11 - 1:=by decide
 have key:(BitVec.ofInt 64 (n:Int) &&& BitVec.ofInt 64 2047).toNat=((n:Int) % ((2 ^ 64:Nat):Int)).toNat % 2 ^ 11:=by
  rw [BitVec.toNat_and,BitVec.toNat_ofInt,h1,Nat.and_two_pow_sub_one_eq_mod]
 show IntKind.i64.wrap ((BitVec.ofInt 64 (n:Int) &&& BitVec.ofInt 64 2047).toNat:Nat)=(n:Int)
 rw [key,IntKind.wrap_i64]
 omega
theorem float_of_nat{s r:Nat}(h:mag r=s*2^1074)(hr:r<=M):floatOfInt .f64 (s:Int)=r:=by
 have h1:floatOfInt .f64 (s:Int)=double.nearest false s 0:=by
  show FloatKind.f64.nearest (s:Int)=_
  unfold FloatKind.nearest FloatKind.encode;have:decide ((s:Int)<0)=false:=decide_eq_false (by omega);rw [this,Int.natAbs_natCast]
  exact write_num false s 0
 have h2:=nearest_high false s 1074;rw [show (-1074:Int)+((1074:Nat):Int)=0 from rfl] at h2;rw [h1,h2,<- h,word_false];have h3:=nearRung_mag r 0;rw [Nat.pow_zero,Nat.mul_one] at h3;rw [h3];omega
theorem float_of_zero:floatOfInt .f64 ((0:Nat):Int)=0:=by
 obtain⟨U,hU⟩:∃ U,U=1074:=⟨_,rfl⟩
 have h:=float_of_nat (s:=0) (r:=0);rw [<- hU,mag_zero,Nat.zero_mul] at h
 exact h rfl (Nat.zero_le _)
theorem float_of_shift{s r j J:Nat}(h:mag r=s*2^j*2^J)(hj:j+J=1074)(hr:r<=M):floatOfInt .f64 (s:Int)=r:=by
 refine float_of_nat ?_ hr;rw [h,Nat.mul_assoc,<- Nat.pow_add,hj]
theorem mul_bits{x y k:Nat}(hx:fin x)(hy:fin y)(hk:near (val (idx x)*val (idx y)) 1074=(k:Int))(hk0:0<k):floatBits .mul .f64 x y=some k:=by
 obtain⟨r,h1,h2⟩:=mul_fin hx hy;rw [hk] at h2;have h3:=pat_cases h2.lt;have h4:=h2.idx
 have:r=k:=by omega
 subst this
 exact h1
theorem val_two_pow{t U:Nat}{k:Int}(hk:k=(((t+1)*2^52:Nat):Int))(hU:U=52+t):val k=(2:Int)^U:=by
 subst hk hU;rw [val_nat,mag_two_pow,<- Nat.pow_add,Int.natCast_pow];rfl
theorem pow_join_nat{s A B C:Nat}(h:A+B=C):s*2^A*2^B=s*2^C:=by rw [Nat.mul_assoc,<- Nat.pow_add,h]
theorem pow_join{s A B C:Nat}(h:A+B=C):(2:Int)^A*((s*2^B:Nat):Int)=(s:Int)*2^C:=by
 rw [Int.natCast_mul,Int.natCast_pow,<- h,Int.pow_add];have:((2:Nat):Int)=2:=rfl;rw [this];ac_rfl
def LdPre(r F m:Nat):Prop:=r=F*4503599627370496+m/\m<4503599627370496/\1<=F/\F<=2046
theorem ldexp_norm(r F m X:Nat)(e:Int)(w:World)(h:LdPre r F m)(he:-5000<=e/\e<=5000)(hX:(X:Int)=e+F)(h1:1<=X)(h2:X<=2046):
  Calls prog 256 #[.float .f64 r,.int .i64 e] w fun e' w'=>e'=.returned (.float .f64 (X*4503599627370496+m))/\w=w':=by
 obtain⟨hr,hm,hF1,hF2⟩:=h;have hM:M=9218868437227405312:=rfl
 have hb:r<18446744073709551616:=by omega
 have hrr:=rung_idx (b:=r) (by omega)
 have hfr:rungOf r<M:=by omega
 have HN:=Hd (isnanf r w (by omega));have HI:=Hd (isinff r w hb (by omega));rw [decide_eq_false (by omega)] at HI;have HA:=Hd (abs_any r w hb);rw [hrr.1] at HA;have o1:=ord_gt (a:=r) (b:=0) (by omega) real_zero (by rw [idx_zero];omega);have hn1:=rung_idx (b:=4503599627370496) (by omega)
 have o2:FloatKind.f64.format.order r 4503599627370496=some .gt\/FloatKind.f64.format.order r 4503599627370496=some .eq:=by
  by_cases h3:r=4503599627370496
  ·exact .inr (ord_eq (by omega) (by omega) (by omega))
  ·exact .inl (ord_gt (by omega) (by omega) (by omega))
 have b1:(r:Int) / 4503599627370496=(F:Int):=by omega
 have b2:=i64_and2047 (n:=F) (by omega);have b3:=and_frac (a:=r) (by omega);rw [show r % 4503599627370496=m from by omega] at b3;have b4:=or_join' (i:=52) (x:=X) (y:=m) (by omega) (by omega) (by omega);rw [show (2:Nat)^52=4503599627370496 from rfl,show ((X*4503599627370496:Nat):Int)=(X:Int)*4503599627370496 from by omega] at b4
 obtain⟨x,hx⟩:∃ x,m+X*4503599627370496=x:=⟨_,rfl⟩
 rw [show X*4503599627370496+m=x from by omega];rw [hx] at b4;have hxr:=rung_idx (b:=x) (by omega)
 have hmul:floatBits .mul .f64 4607182418800017408 x=some x:=by
  have i1:idx 4607182418800017408=4607182418800017408:=by decide
  have v1:val 4607182418800017408=(2:Int)^1074:=val_two_pow (t:=1022) (by decide) (by decide);refine mul_bits (by show rungOf _<M;decide) (by show rungOf _<M;omega) ?_ (by omega);rw [i1,v1,hxr.2,Int.mul_comm,near_val (by omega) (by omega)]
 have HM:=fun W=>run_float_arith (P:=prog) W .mul 26 .f64 _ _ _ hmul;have ff:=fun W=>run_frombits x W;have eX:e+(F:Int)=(X:Int):=hX.symm
 have e1:e+((F:Int) - 1023)=(X:Int) - 1023:=by omega
 clear hmul hxr hx hr hrr hn1 hfr hb eX hX
 rcases o2 with o2 | o2
 all_goals
  go_enter func256,ntmps256
  go_wp2_with (first | (go_at_call 161;refine HI.out.mono ?_;rintro e w' ⟨rfl,rfl⟩) | (go_at_call 221;refine HN.out.mono ?_;rintro e w' ⟨rfl,rfl⟩) | (go_at_call 117;refine HA.out.mono ?_;rintro e w' ⟨rfl,rfl⟩) | go_in)
  go_ret
  exact⟨rfl,rfl⟩
theorem ldexp_over(r F m:Nat)(e:Int)(w:World)(h:LdPre r F m)(he:-5000<=e/\e<=5000)(hX:2046<e+F):
  Calls prog 256 #[.float .f64 r,.int .i64 e] w fun e' w'=>e'=.returned (.float .f64 9218868437227405312)/\w=w':=by
 obtain⟨hr,hm,hF1,hF2⟩:=h;have hM:M=9218868437227405312:=rfl
 have hb:r<18446744073709551616:=by omega
 have hrr:=rung_idx (b:=r) (by omega)
 have hfr:rungOf r<M:=by omega
 have HN:=Hd (isnanf r w (by omega));have HI:=Hd (isinff r w hb (by omega));rw [decide_eq_false (by omega)] at HI;have HA:=Hd (abs_any r w hb);rw [hrr.1] at HA;have o1:=ord_gt (a:=r) (b:=0) (by omega) real_zero (by rw [idx_zero];omega);have hn1:=rung_idx (b:=4503599627370496) (by omega)
 have o2:FloatKind.f64.format.order r 4503599627370496=some .gt\/FloatKind.f64.format.order r 4503599627370496=some .eq:=by
  by_cases h3:r=4503599627370496
  ·exact .inr (ord_eq (by omega) (by omega) (by omega))
  ·exact .inl (ord_gt (by omega) (by omega) (by omega))
 have b1:(r:Int) / 4503599627370496=(F:Int):=by omega
 have b2:=i64_and2047 (n:=F) (by omega);have b3:=and_frac (a:=r) (by omega);rw [show r % 4503599627370496=m from by omega] at b3;have HP:=Hd (inf_pos w);have o3:=ord_gt (a:=r) (b:=0) (by omega) real_zero (by rw [idx_zero];omega)
 obtain⟨X,hX2⟩:∃ X:Int,e+(F:Int)=X:=⟨_,rfl⟩
 have e1:e+((F:Int) - 1023)=X - 1023:=by omega
 have hX3:1023<X - 1023:=by omega
 have hX4:X<=7046:=by omega
 clear hr hrr hn1 hfr hb hX hX2
 rcases o2 with o2 | o2
 all_goals
  go_enter func256,ntmps256
  go_wp2_with (first | (go_at_call 161;refine HI.out.mono ?_;rintro e w' ⟨rfl,rfl⟩) | (go_at_call 221;refine HN.out.mono ?_;rintro e w' ⟨rfl,rfl⟩) | (go_at_call 19;refine HP.out.mono ?_;rintro e w' ⟨rfl,rfl⟩) | (go_at_call 117;refine HA.out.mono ?_;rintro e w' ⟨rfl,rfl⟩) | go_in)
  go_ret
  exact⟨rfl,rfl⟩
theorem ldexp_den(r F m k s:Nat)(e:Int)(w:World)(h:LdPre r F m)(he:-5000<=e/\e<=5000)(hX:e+F=-(k:Int))(hk:k<=52)(hs:(4503599627370496+m)*2^(52 - k)=s*2^53)(hs0:0<s)(hs1:s<4503599627370496):
  Calls prog 256 #[.float .f64 r,.int .i64 e] w fun e' w'=>e'=.returned (.float .f64 s)/\w=w':=by
 obtain⟨hr,hm,hF1,hF2⟩:=h;have hM:M=9218868437227405312:=rfl
 have hb:r<18446744073709551616:=by omega
 have hrr:=rung_idx (b:=r) (by omega)
 have hfr:rungOf r<M:=by omega
 have HN:=Hd (isnanf r w (by omega));have HI:=Hd (isinff r w hb (by omega));rw [decide_eq_false (by omega)] at HI;have HA:=Hd (abs_any r w hb);rw [hrr.1] at HA;have o1:=ord_gt (a:=r) (b:=0) (by omega) real_zero (by rw [idx_zero];omega);have hn1:=rung_idx (b:=4503599627370496) (by omega)
 have o2:FloatKind.f64.format.order r 4503599627370496=some .gt\/FloatKind.f64.format.order r 4503599627370496=some .eq:=by
  by_cases h3:r=4503599627370496
  ·exact .inr (ord_eq (by omega) (by omega) (by omega))
  ·exact .inl (ord_gt (by omega) (by omega) (by omega))
 have b1:(r:Int) / 4503599627370496=(F:Int):=by omega
 have b2:=i64_and2047 (n:=F) (by omega);have b3:=and_frac (a:=r) (by omega);rw [show r % 4503599627370496=m from by omega] at b3
 obtain⟨Y,hY⟩:∃ Y,53 - k=Y:=⟨_,rfl⟩
 have b4:=or_join' (i:=52) (x:=Y) (y:=m) (by omega) (by omega) (by omega);rw [show (2:Nat)^52=4503599627370496 from rfl,show ((Y*4503599627370496:Nat):Int)=(Y:Int)*4503599627370496 from by omega] at b4
 obtain⟨x,hx⟩:∃ x,m+Y*4503599627370496=x:=⟨_,rfl⟩
 rw [hx] at b4;have hxr:=rung_idx (b:=x) (by omega)
 have hmul:floatBits .mul .f64 4368491638549381120 x=some s:=by
  have i1:idx 4368491638549381120=4368491638549381120:=by decide
  have v1:val 4368491638549381120=(2:Int)^1021:=val_two_pow (t:=969) (by decide) (by decide)
  have v2:mag x=s*2^53:=by
   have h6:=mag_form (52 - k) (4503599627370496+m) (.inr (by omega)) (by omega);rw [hs] at h6;rw [<- h6];congr 1
   have:Y=52 - k+1:=by omega
   rw [<- hx,this,Nat.add_mul,show (2:Nat)^52=4503599627370496 from rfl,Nat.one_mul];generalize (52 - k)*4503599627370496=P
   omega
  have v3:val (x:Int)=((s*2^53:Nat):Int):=by rw [val_nat,v2]
  refine mul_bits (by show rungOf _<M;decide) (by show rungOf _<M;omega) ?_ hs0;rw [i1,v1,hxr.2,v3,pow_join (s:=s) (A:=1021) (B:=53) (C:=1074) (by decide)]
  have h7:val (s:Int)=(s:Int):=by rw [val_nat,mag_small (show s<2^52 from hs1)]
  have h8:=near_val (i:=(s:Int)) (by omega) (by omega) 1074;rw [h7] at h8
  exact h8
 have HM:=fun W=>run_float_arith (P:=prog) W .mul 26 .f64 _ _ _ hmul;have ff:=fun W=>run_frombits x W
 have e1:e+((F:Int) - 1023)=-(k:Int) - 1023:=by omega
 have e2:-(k:Int) - 1023+53+1023=(Y:Int):=by omega
 have e3:-(k:Int) - 1023 < -1022:=by omega
 have hY1:Y<=53:=by omega
 clear hmul hxr hx hr hrr hn1 hfr hb hX hY hs
 rcases o2 with o2 | o2
 all_goals
  go_enter func256,ntmps256
  go_wp2_with (first | (go_at_call 161;refine HI.out.mono ?_;rintro e w' ⟨rfl,rfl⟩) | (go_at_call 221;refine HN.out.mono ?_;rintro e w' ⟨rfl,rfl⟩) | (go_at_call 117;refine HA.out.mono ?_;rintro e w' ⟨rfl,rfl⟩) | go_in)
  go_ret
  exact⟨rfl,rfl⟩
theorem ldexp_zero(e:Int)(w:World):Calls prog 256 #[.float .f64 0,.int .i64 e] w fun e' w'=>e'=.returned (.float .f64 0)/\w=w':=by
 have o1:=ord_eq (a:=0) (b:=0) real_zero real_zero rfl
 go_enter func256,ntmps256
 go_wp2
 go_ret
 exact⟨rfl,rfl⟩
theorem ldexp_any(s:Nat)(e:Int)(w:World)(hs:s<=9007199254740992)(he:-1074<=e/\e<=971)(hd:e=-1074\/4503599627370496<=s):
  Calls prog 256 #[.float .f64 (floatOfInt .f64 (s:Int)),.int .i64 e] w fun e' w'=>e'=.returned (.float .f64 ((e+1074).toNat*4503599627370496+s))/\w=w':=by
 have hM:M=9218868437227405312:=rfl
 by_cases h1:4503599627370496<=s
 ·have hm:=mag_form 1074 s (.inr h1) hs;have hf:floatOfInt .f64 (s:Int)=1074*2^52+s:=float_of_nat hm (by omega);rw [hf,show (1074*2^52+s:Nat)=4836865999795912704+s from rfl]
  by_cases h2:s<9007199254740992
  ·have h:=ldexp_norm (4836865999795912704+s) 1075 (s - 4503599627370496) (e+1075).toNat e w ⟨by omega,by omega,by omega,by omega⟩ (by omega) (by omega) (by omega) (by omega)
   rw [show (e+1075).toNat*4503599627370496+(s - 4503599627370496)=(e+1074).toNat*4503599627370496+s from by
    rw [show (e+1075).toNat=(e+1074).toNat+1 from by omega,Nat.add_mul];omega] at h
   exact h
  ·obtain rfl:s=9007199254740992:=by omega
   by_cases h3:e=971
   ·subst h3
    exact ldexp_over (4836865999795912704+9007199254740992) 1076 0 971 w ⟨by omega,by omega,by omega,by omega⟩ (by omega) (by omega)
   ·have h:=ldexp_norm (4836865999795912704+9007199254740992) 1076 0 (e+1076).toNat e w ⟨by omega,by omega,by omega,by omega⟩ (by omega) (by omega) (by omega) (by omega)
    rw [show (e+1076).toNat*4503599627370496+0=(e+1074).toNat*4503599627370496+9007199254740992 from by
     rw [show (e+1076).toNat=(e+1074).toNat+2 from by omega,Nat.add_mul]] at h
    exact h
 ·obtain rfl:e=-1074:=by omega
  rw [show ((-1074:Int)+1074).toNat=0 from rfl,Nat.zero_mul,Nat.zero_add]
  rcases Nat.eq_zero_or_pos s with h0 | h0
  ·subst h0;rw [float_of_zero]
   exact ldexp_zero _ w
  ·obtain⟨L,b1,b2,b3⟩:=blen_bounds h0;have hL:L<52:=(Nat.pow_lt_pow_iff_right (a:=2) (by omega)).1 (Nat.lt_of_le_of_lt b2 (by omega))
   obtain⟨j,hj⟩:∃ j,L+j=52:=⟨52 - L,by omega⟩
   have c1:4503599627370496<=s*2^j:=by
    rw [show (4503599627370496:Nat)=2^(L+j) from by rw [hj],Nat.pow_add];exact Nat.mul_le_mul_right _ b2
   have c2:s*2^j<9007199254740992:=by
    rw [show (9007199254740992:Nat)=2^(L+1+j) from by rw [show L+1+j=53 from by omega],Nat.pow_add];exact Nat.mul_lt_mul_of_pos_right b3 (Nat.two_pow_pos j)
   have hm:=mag_form (1074 - j) (s*2^j) (.inr c1) (by omega);have hf:floatOfInt .f64 (s:Int)=(1074 - j)*2^52+s*2^j:=float_of_shift hm (show j+(1074 - j)=1074 by omega) (Nat.le_trans (Nat.add_le_add (Nat.mul_le_mul_right (k:=2^52) (show 1074 - j<=1074 by omega)) (Nat.le_of_lt c2)) (by rw [hM];decide));rw [hf];have hs3:s*2^j*2^(52 - (j - 1))=s*2^53:=pow_join_nat (by omega);refine ldexp_den _ (1075 - j) (s*2^j - 4503599627370496) (j - 1) s (-1074) w ⟨?_,by omega,by omega,by omega⟩ (by omega) (by omega) (by omega) ?_ h0 (by omega)
   ·rw [show 1075 - j=1074 - j+1 from by omega,Nat.add_mul,show (2:Nat)^52=4503599627370496 from rfl];omega
   ·rw [show 4503599627370496+(s*2^j - 4503599627370496)=s*2^j from by omega];exact hs3
end
theorem low_mask{x s:Nat}(hx:x<4294967296)(hs:s<32):bits .and .u32 (x:Int) ((2^s - 1:Nat):Int)=((x % 2^s:Nat):Int):=by
 have h:=Nat.two_pow_pos s;have h2:2^s<=2^31:=Nat.pow_le_pow_right (by omega) (by omega);rw [u32_and_nat _ _ hx (by omega),Nat.and_two_pow_sub_one_eq_mod]
theorem U32s.dropped{w:World}{ad:Addr}{n c q:Nat}{xs:List Nat}(h:U32s w (some ad) n c xs)(hq:q<n):U32s w (some (ad.add q)) (n - q) (c - q) (xs.drop q):=
 ⟨by rw [List.length_drop,h.len],by have:=h.cap;omega,by have:=h.small;omega,h.w32.drop q,fun hn=>by
   obtain⟨ad',e,hb,hc⟩:=h.at_ (by omega)
   cases e
   refine⟨_,rfl,by rw [block_of_add];exact hb,fun j hj=>?_⟩
   rw [add_of_add,hc _ (by omega),List.getElem?_drop]⟩
def LostInv(us:List Nat)(q s i:Nat)(L:Bool):Prop:=L=decide (num (us.take i)+us[q]?.getD 0 % 2^s≠0)
theorem LostInv.step{us:List Nat}{q s i:Nat}(h:LostInv us q s i false){x:Nat}(hx:us[i]?.getD 0=x):LostInv us q s (i+1) (decide (x≠0)):=by
 unfold LostInv at *;have h1:=of_decide_eq_false h.symm
 have h2:num (us.take i)=0/\us[q]?.getD 0 % 2^s=0:=by omega
 rw [num_take_next,hx,h2.1,h2.2,Nat.zero_add,Nat.add_zero];have hp:=Nat.two_pow_pos (32*i)
 congr 1
 apply propext
 constructor
 ·intro h h3
  rcases Nat.mul_eq_zero.1 h3 with h4 | h4<;>omega
 ·intro h h3;exact h (by rw [h3,Nat.mul_zero])
theorem LostInv.more{us:List Nat}{q s i j:Nat}(h:LostInv us q s i true)(hj:i<=j):LostInv us q s j true:=by
 unfold LostInv at *;have h1:=of_decide_eq_true h.symm;refine (decide_eq_true ?_).symm;intro h2
 apply h1
 have e:=num_take_drop (us.take j) i;rw [List.take_take,Nat.min_eq_left hj] at e
 have h3:num (us.take j)=0:=by omega
 have h4:us[q]?.getD 0 % 2^s=0:=by omega
 rw [h3] at e
 omega
theorem LostInv.done{us:List Nat}{q s k:Nat}{L:Bool}(h:LostInv us q s q L)(hw:W32 us)(hs:s<32)(hk:k=32*q+s):L=decide (num us % 2^k≠0):=by
 unfold LostInv at h;rw [h,hk,right_lost hw q s hs];have hp:=Nat.two_pow_pos (32*q)
 congr 1
 apply propext
 constructor
 ·intro h h3
  apply h
  have h4:2^(32*q)*(us[q]?.getD 0 % 2^s)=0:=by omega
  rcases Nat.mul_eq_zero.1 h4 with h5 | h5<;>omega
 ·intro h h3
  apply h
  have h4:us[q]?.getD 0 % 2^s=0:=by omega
  rw [h4,Nat.mul_zero];omega
theorem down_any(A:Option Addr)(n c k:Nat)(xs:List Nat)(w:World)(hx:U32s w A n c xs)(hl:wlen xs<=16384)(hk:k<=1073741824):
  Calls prog 270 #[.slice A n c,.int .i64 (k:Int)] w (NewU32B w (digs (num xs / 2^k)) (decide (num xs % 2^k≠0))):=by
 have HW:=Hd (nwords_any A n c xs w hx);have n1:=hx.small;have c1:=hx.cap;have l1:=wlen_le xs;rw [hx.len] at l1;have e1:=num_trim xs;rw [trim_eq_take] at e1;have h0:=wlen_eq_zero (l:=xs);have hlt:=num_lt_wlen hx.w32;have HX0:=hx.take l1
 obtain⟨p,hp⟩:∃ p,wlen xs=p:=⟨_,rfl⟩
 rw [hp] at HW l1 hl e1 HX0 h0 hlt
 obtain⟨us,hus⟩:∃ l,xs.take p=l:=⟨_,rfl⟩
 rw [hus] at e1 HX0;rw [<- e1] at h0 hlt ⊢
 obtain⟨q,hq⟩:∃ q,k / 32=q:=⟨_,rfl⟩
 obtain⟨s,hs⟩:∃ s,k % 32=s:=⟨_,rfl⟩
 have d1:(k:Int) / 32=(q:Int):=by omega
 have d2:(k:Int) % 32=(s:Int):=by omega
 have ek:k=32*q+s:=by omega
 have hs1:s<32:=by omega
 have hq1:q<=1073741824:=by omega
 have HX:=Hd HX0;have EK:=Hd ek;have HLT:=Hd hlt;have H0:=Hd h0;clear hx hp hus e1 HX0 hq hs ek hlt h0
 by_cases hqp:p<=q
 ·have hz:num us / 2^k=0/\num us % 2^k=num us:=by
   have h1:num us<2^k:=Nat.lt_of_lt_of_le HLT.out (Nat.pow_le_pow_right (by omega) (by have:=EK.out;omega))
   exact⟨Nat.div_eq_of_lt h1,Nat.mod_eq_of_lt h1⟩
  rw [hz.1,hz.2,digs_zero]
  have hb:decide (num us≠0)=decide (0<p):=by
   congr 1
   apply propext
   have:=H0.out
   omega
  rw [hb];clear hz hb
  go_enter func270,ntmps270
  go_wp2_with fail
  go_step3
  go_wp2_with fail;refine HW.out.mono ?_;rintro e w' ⟨rfl,rfl⟩;go_wp2
  go_ret2
  exact⟨none,0,0,rfl,U32s.nil _ _ _,Below.refl _ _⟩
 ·obtain⟨LF,hLF⟩:∃ L,decide (num us % 2^k≠0)=L:=⟨_,rfl⟩
  rw [hLF];have HLF:=Hd hLF;clear hLF
  have hqp2:¬ (p:Int)<=(q:Int):=by omega
  obtain⟨ad,rfl,hc⟩:=HX.out.cell (j:=q) (by omega);have hx1:=HX.out.lt q
  obtain⟨x,hxx⟩:∃ r,us[q]?.getD 0=r:=⟨_,rfl⟩
  rw [hxx] at hc hx1;have hm:=low_mask hx1 hs1;have hp:=Nat.two_pow_pos s;have hp2:2^s<=2147483648:=Nat.pow_le_pow_right (n:=2) (by omega) (show s<=31 by omega)
  have hL0:LostInv us q s 0 (decide (x % 2^s≠0)):=by
   unfold LostInv;rw [hxx];simp [num]
  have e5:((2:Int)^s)=((2^s:Nat):Int):=by rw [Int.natCast_pow];rfl
  obtain⟨P,hP⟩:∃ P,2^s=P:=⟨_,rfl⟩
  rw [hP] at hm hp hp2 hL0 e5;rw [show ((P - 1:Nat):Int)=(P:Int) - 1 from by omega] at hm
  obtain⟨y,hy⟩:∃ y,x % P=y:=⟨_,rfl⟩
  rw [hy] at hm hL0
  have hw1:IntKind.u32.wrap ((P:Int) - 1)=(P:Int) - 1:=by rw [IntKind.wrap_u32];omega
  have HL0:=Hd hL0;clear hP hL0 hy
  have hi1:(q:Int)<(n:Int):=by omega
  have hi2:(q:Int)<(p:Int):=by omega
  clear hxx
  go_enter func270,ntmps270
  go_wp2_with fail
  go_step3
  go_wp2_with fail;refine HW.out.mono ?_;rintro e w' ⟨rfl,rfl⟩;go_wp2_with fail
  go_quiet (fail)
  obtain⟨L0,hL0⟩:∃ L,((y:Int) != 0)=L:=⟨_,rfl⟩
  have HLL:=Hd (show LostInv us q s 0 L0 from by
   have h1:=HL0.out;rw [<- hL0]
   have e:decide (y≠0)=((y:Int) != 0):=by
    by_cases h0:y=0
    ·subst h0;rfl
    ·have h2:((y:Int) == 0)=false:=by simp;omega
     simp [h0,bne,h2]
   rwa [e] at h1)
  rw [hL0]
  obtain⟨w1,hw1⟩:∃ w1,w.drewN nq=w1:=⟨_,rfl⟩
  have HB1:=Hd (show Below w.heap.size w w1 from by rw [<- hw1];exact below_drewN (Below.refl _ _) nq);rw [hw1];clear hL0 HL0 hm hw1 e5 hp2 hp hc hx1;go_wp2
  go_step3
  go_wp2
  go_loop [6,7,33,36,38] (fun lv _ iv _ _=>∃ (i:Nat) (L:Bool),iv=.int .i64 i/\lv=.bool L/\i<=q/\LostInv us q s i L) (fun _ _ iv _ _=>q - (intOf iv).toNat)
  case atStart=>exact⟨0,L0,rfl,rfl,Nat.zero_le _,HLL.out⟩
  case round=>
   obtain⟨i,L,rfl,rfl,hi,hinv⟩:=hrel;have HI:=Hd hinv;clear hinv HLL
   by_cases hlt:i<q
   ·cases L
    ·obtain⟨ad',e,hc⟩:=(HX.out.below HB1.out).cell (j:=i) (by omega)
     cases e
     obtain⟨x,hxx⟩:∃ r,us[i]?.getD 0=r:=⟨_,rfl⟩
     rw [hxx] at hc;have HST:=Hd (HI.out.step hxx)
     have hip:(i:Int)<(p:Int):=by omega
     clear hxx HI
     by_cases hx0:x=0
     ·subst hx0;go_wp2
      go_round
      case rel=>exact⟨i+1,false,by go_num,rfl,by omega,HST.out⟩
      case measure=>simp [intOf];omega
     ·have hq:((x:Int) != 0)=true:=by simp;omega
      go_wp2
      go_round
      case rel=>
       refine⟨i+1,true,by go_num,rfl,by omega,?_⟩;have:=HST.out
       rwa [decide_eq_true hx0] at this
      case measure=>simp [intOf];omega
    ·have HDN:=Hd ((HI.out.more (show i<=q by omega)).done HX.out.w32 hs1 EK.out);have HD:=Hd ((HX.out.below HB1.out).dropped (q:=q) (by omega));have HN:=Hd (nnorm_any _ _ _ _ _ HD.out)
     have hlen:(digs (num (us.drop q))).length<=16384:=by
      rw [<- trim_eq_digs HD.out.w32];have h1:=wlen_le (us.drop q);rw [HD.out.len] at h1;have h2:wlen (us.drop q)=(trim (us.drop q)).length:=rfl
      omega
     have hval:num (us.drop q) / 2^s=num us / 2^k:=by
      rw [num_drop HX.out.w32,Nat.div_div_eq_div_mul,<- Nat.pow_add,EK.out]
     have HLEN:=Hd hlen;have HVAL:=Hd hval;clear hlen hval;go_wp2_with fail;refine HN.out.mono ?_;rintro e w2 ⟨g,m,rfl,hm,hA,hg,hb⟩;have hbk:=back_any g m s _ w2 hA (W32.digs _) hm hs1 (by rw [<- hm];have:=HLEN.out;omega);rw [num_digs,HVAL.out] at hbk;have HBK:=Hd hbk;have HB2:=Hd (HB1.out.trans (hb.mono HB1.out.size));have hg2:w.heap.size<=g:=Nat.le_trans HB1.out.size hg;clear hbk hb hm hA hg;go_wp2_with fail;refine HBK.out.mono ?_;rintro e w3 ⟨kk,rfl,hu,hgr⟩;have HU:=Hd hu;have HB3:=Hd (below_grown HB2.out hgr hg2 HB2.out.size);clear hu hgr;go_wp2
     try rw [Exit.noGoto_ret]
     go_ret2
     exact⟨_,kk,kk,by rw [<- HLF.out,<- HDN.out];rfl,HU.out,HB3.out⟩
   ·obtain rfl:i=q:=by omega
    have HDN:=Hd (HI.out.done HX.out.w32 hs1 EK.out);have HD:=Hd ((HX.out.below HB1.out).dropped (q:=i) (by omega));have HN:=Hd (nnorm_any _ _ _ _ _ HD.out)
    have hlen:(digs (num (us.drop i))).length<=16384:=by
     rw [<- trim_eq_digs HD.out.w32];have h1:=wlen_le (us.drop i);rw [HD.out.len] at h1;have h2:wlen (us.drop i)=(trim (us.drop i)).length:=rfl
     omega
    have hval:num (us.drop i) / 2^s=num us / 2^k:=by
     rw [num_drop HX.out.w32,Nat.div_div_eq_div_mul,<- Nat.pow_add,EK.out]
    have HLEN:=Hd hlen;have HVAL:=Hd hval;clear hlen hval;go_wp2_with fail;refine HN.out.mono ?_;rintro e w2 ⟨g,m,rfl,hm,hA,hg,hb⟩;have hbk:=back_any g m s _ w2 hA (W32.digs _) hm hs1 (by rw [<- hm];have:=HLEN.out;omega);rw [num_digs,HVAL.out] at hbk;have HBK:=Hd hbk;have HB2:=Hd (HB1.out.trans (hb.mono HB1.out.size));have hg2:w.heap.size<=g:=Nat.le_trans HB1.out.size hg;clear hbk hb hm hA hg;go_wp2_with fail;refine HBK.out.mono ?_;rintro e w3 ⟨kk,rfl,hu,hgr⟩;have HU:=Hd hu;have HB3:=Hd (below_grown HB2.out hgr hg2 HB2.out.size);clear hu hgr;go_wp2
    try rw [Exit.noGoto_ret]
    go_ret2
    exact⟨_,kk,kk,by rw [<- HLF.out,<- HDN.out];rfl,HU.out,HB3.out⟩
theorem nshr_any(A:Option Addr)(n c k:Nat)(xs:List Nat)(w:World)(hx:U32s w A n c xs)(hl:wlen xs<=16384)(hk:k<=1073741824):
  Calls prog 254 #[.slice A n c,.int .i64 (k:Int)] w fun e w'=>
   ∃ A2 n2 c2,e=.returned (.tuple #[.slice A2 n2 c2,.bool (decide (num xs % 2^k≠0)),.int .i64 0])/\U32s w' A2 n2 c2 (digs (num xs / 2^k))/\Below w.heap.size w w':=by
 have HLG:=Hd (long_one w.heap.size A n c xs (w.alloc (.cells #[.slice A n c] 40)) (hx.alloc _) (by simp [World.cell?_alloc_new]) hl);have HD:=Hd (down_any A n c k xs (w.alloc (.cells #[.slice A n c] 40)) (hx.alloc _) hl hk)
 obtain⟨L,hL⟩:∃ L,decide (num xs % 2^k≠0)=L:=⟨_,rfl⟩
 rw [hL] at HD ⊢;clear hx hL
 go_enter func254,ntmps254
 go_wp2_with fail;refine HLG.out.mono ?_;rintro e w' ⟨rfl,rfl⟩;go_wp2_with fail;refine HD.out.mono ?_;rintro e w2 ⟨A2,n2,c2,rfl,hu,hb⟩;have HU:=Hd hu;have HB:=Hd ((below_alloc w _).trans (hb.mono (below_alloc w _).size));clear hu hb;go_wp2
 go_ret3
 exact⟨A2,n2,c2,rfl,HU.out,HB.out⟩
end Go.Proofs.YthlmlmfebpjgdaaGreatDoor
