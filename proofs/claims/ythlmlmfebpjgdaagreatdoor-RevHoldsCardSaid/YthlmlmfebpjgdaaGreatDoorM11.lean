/-
Walks: package nat, digit.
Walks: package nat, back.
Walks: package nat, Quo.
-/
import Derived.Test.YthlmlmfebpjgdaaGreatDoorM03
import Derived.Test.YthlmlmfebpjgdaaGreatDoorPNwT
import Derived.Test.YthlmlmfebpjgdaaGreatDoorM10
import Derived.Deep.DeepCutAuto
import Derived.Deep.CutRange
import Derived.Deep.RegionHeld3
set_option linter.unusedSimpArgs false
set_option linter.unusedVariables false
set_option maxHeartbeats 12800000
namespace Go.Proofs.YthlmlmfebpjgdaaGreatDoor
open Go.RowKit
set_option maxRecDepth 100000 in
theorem digit_any(ad:Addr)(B:Option Addr)(n c d:Nat)(pre ws post ys:List Nat)(w:World)(hr:Win w ad pre ws post)(hrw:W32 ws)(hy:U32s w B n d ys)(hne:∀ b,B=some b→0<n→b.block≠ad.block)(hrl:ws.length=n+1)(hc:n+1≤c)(hn:2≤n)(hs:n≤1073741824)
  (hlt:num ws<num ys*4294967296)(hv1:2147483648≤ys[n - 1]?.getD 0):
  Calls Tryz.prog 265 #[.slice (some ad) (n+1) c,.slice B n d] w fun e w'=>
   ∃ rs,e=.returned (.int .u32 ((num ws / num ys:Nat):Int))∧Win w' ad pre rs post∧W32 rs∧rs.length=n+1∧num rs=num ws % num ys∧w.grownBy w' (some ad.block):=by
 have hV0:0<num ys:=by
  rcases Nat.eq_zero_or_pos (num ys) with h | h
  ·rw [h] at hlt;omega
  ·exact h
 obtain⟨k,hk⟩:∃ k,n=k+2:=⟨n - 2,by omega⟩
 have tU:=num_top3 (l:=ws) (k:=k) (by omega);have tV:=num_top2 (l:=ys) (k:=k) (by rw [hy.len];omega);have lU:=num_take_lt hrw (k:=k) (by omega);have lV:=num_take_lt hy.w32 (k:=k) (by rw [hy.len];omega);rw [show k=n - 2 from by omega,show n - 2+1=n - 1 from by omega] at tU tV;rw [show n - 2+2=n from by omega] at tU;rw [show k=n - 2 from by omega] at lU lV;have cu2:=hr.cell (i:=n) (by omega);have cu1:=hr.cell (i:=n - 1) (by omega);have cu0:=hr.cell (i:=n - 2) (by omega);obtain⟨bd,rfl,cv1⟩:=hy.cell (j:=n - 1) (by omega);have cv0:=hy.cellAt (j:=n - 2) (by omega);have xu2:ws[n]?.getD 0<4294967296:=hrw.get n;have xu1:ws[n - 1]?.getD 0<4294967296:=hrw.get (n - 1);have xu0:ws[n - 2]?.getD 0<4294967296:=hrw.get (n - 2);have xv1:=hy.lt (n - 1);have xv0:=hy.lt (n - 2)
 obtain⟨u2,eu2⟩:∃ z,ws[n]?.getD 0=z:=⟨_,rfl⟩
 obtain⟨u1,eu1⟩:∃ z,ws[n - 1]?.getD 0=z:=⟨_,rfl⟩
 obtain⟨u0,eu0⟩:∃ z,ws[n - 2]?.getD 0=z:=⟨_,rfl⟩
 obtain⟨v1,ev1⟩:∃ z,ys[n - 1]?.getD 0=z:=⟨_,rfl⟩
 obtain⟨v0,ev0⟩:∃ z,ys[n - 2]?.getD 0=z:=⟨_,rfl⟩
 rw [eu2] at tU cu2 xu2;rw [eu1] at tU cu1 xu1;rw [eu0] at tU cu0 xu0;rw [ev1] at tV cv1 xv1 hv1;rw [ev0] at tV cv0 xv0;have EU0:=Hd eu0;have EV1:=Hd ev1;have EV0:=Hd ev0;clear eu2 eu1 eu0 ev1 ev0 hk
 obtain⟨top,htop⟩:∃ t,u2*4294967296+u1=t:=⟨_,rfl⟩
 rw [show u1+4294967296*u2=top from by omega] at tU
 obtain⟨P,hP⟩:∃ P,2^(32*(n - 2))=P:=⟨_,rfl⟩
 obtain⟨lu,hlu⟩:∃ P,num (ws.take (n - 2))=P:=⟨_,rfl⟩
 obtain⟨lv,hlv⟩:∃ P,num (ys.take (n - 2))=P:=⟨_,rfl⟩
 rw [hP,hlu] at tU;rw [hP,hlv] at tV;rw [hP,hlu] at lU;rw [hP,hlv] at lV;clear hP hlu hlv
 obtain⟨U,hU⟩:∃ P,num ws=P:=⟨_,rfl⟩
 obtain⟨V,hV⟩:∃ P,num ys=P:=⟨_,rfl⟩
 rw [hU] at tU hlt ⊢;rw [hV] at tV hlt hV0 ⊢;have KS:=Hd (kn_start tU tV lU xu0 (by omega));have KB:=Hd (fun x hx=>kn_big (x:=x) hlt hx);have KT:=Hd (fun x r ht h=>kn_step (x:=x) (r:=r) tU tV lU ht h);have KE:=Hd (fun x r ht h=>kn_end (x:=x) (r:=r) tU tV lV xv0 (by omega) hlt ht h);have HR:=Hd hr;have HY:=Hd hy;have HRW:=Hd hrw;have HRL:=Hd hrl;have HU:=Hd hU;have HV:=Hd hV;have HLT:=Hd hlt;have HV0:=Hd hV0;have HNE:=Hd hne;have hor:=or_join (i:=32) (x:=u2) (y:=u1) (by omega) (by omega) (by omega);rw [show ((u2*2^32:Nat):Int)=(u2:Int)*4294967296 from by omega,show ((u2*2^32+u1:Nat):Int)=(top:Int) from by omega] at hor
 have htl:top<18446744073709551616:=by omega
 have hdiv:(top:Int) / (v1:Int)=((top / v1:Nat):Int):=by simp
 have hmod:(top:Int) % (v1:Int)=((top % v1:Nat):Int):=by simp
 have hmod2:(top:Int).tmod (v1:Int)=((top % v1:Nat):Int):=by rw [Int.tmod_eq_emod_of_nonneg (by omega)];simp
 obtain⟨x0,hx0⟩:∃ z,top / v1=z:=⟨_,rfl⟩
 obtain⟨r0,hr0⟩:∃ z,top % v1=z:=⟨_,rfl⟩
 have HT0:=Hd (show x0*v1+r0=top from by rw [← hx0,← hr0,Nat.mul_comm];exact Nat.div_add_mod _ _)
 have hr0l:r0<v1:=by rw [← hr0];exact Nat.mod_lt _ (by omega)
 have hx0l:x0≤8589934592:=by
  have h1:x0*2147483648≤x0*v1:=Nat.mul_le_mul_left _ hv1;have h2:=HT0.out
  omega
 rw [hx0] at hdiv KS;rw [hr0] at hmod hmod2;clear tU tV lU lV hlt hr hy hrw hrl hU hV hV0 hne htop hx0 hr0
 have hv0:((v1:Int) == 0)=false:=by simp;omega
 go_enter Tryz.func265,Tryz.ntmps265
 go_wp2_with fail
 go_quiet (fail)
 revert nq;intro nqa
 go_wp2_with fail
 go_quiet (fail)
 go_wp2
 obtain⟨W1,hW1⟩:∃ W,(w.drewN nqa).drewN nq=W:=⟨_,rfl⟩
 have G1:=Hd (show w.grownBy W1 (some ad.block) from by rw [← hW1];exact⟨rfl,rfl,rfl,Nat.le_refl _,fun _ _ _=>rfl⟩);have R1:=Hd (show Win W1 ad pre ws post from by rw [← hW1];exact HR.out);rw [hW1];clear hW1 HR cu2 cu1 cu0 cv1 cv0 hor hdiv hmod hmod2 xu2 xu1
 go_loopw [7,8] (fun xv rv wr=>∃ x r:Nat,xv=.int .u64 x∧rv=.int .u64 r∧U<(x+1)*V∧x*v1+r=top∧x≤8589934592∧r<8589934592∧Win wr ad pre ws post∧w.grownBy wr (some ad.block)) (fun xv _ _=>(intOf xv).toNat)
 case atStart=>exact⟨x0,r0,rfl,rfl,KS.out,HT0.out,hx0l,by omega,R1.out,G1.out⟩
 case round=>
  obtain⟨x,r,rfl,rfl,hx,ht,hxl,hrl,hr,hg⟩:=hrel;clear R1 G1 KS HT0 hx0l hr0l;have R:=Hd hr;have G:=Hd hg;have HX:=Hd hx;have HT:=Hd ht
  obtain⟨cc,hcc⟩:∃ cc,decide (r<4294967296∧(4294967296≤x∨r*4294967296+u0<x*v0))=cc:=⟨_,rfl⟩
  have CC:=Hd hcc;clear hr hg hx ht hcc
  go_upto_region 4 with fail
  go_cut [74] from 47 to 84 (fun s74 wx=>s74=.bool cc∧Win wx ad pre ws post∧w.grownBy wx (some ad.block))
  case first=>
   have HB2:=Hd (HY.out.grown G.out HNE.out)
   by_cases h1:r<4294967296
   ·have g1:((r:Int) / 4294967296 == 0)=true:=by simp;omega
    by_cases h2:4294967296≤x
    ·have g2:((x:Int) / 4294967296 == 0)=false:=by simp;omega
     have g3:((x:Int) / 4294967296 != 0)=true:=by simp;omega
     obtain rfl:cc=true:=by rw [← CC.out];simp [h1,h2]
     go_wp2_with fail;refine wp_region_held_drew (S:=fun W'=>Win W' ad pre ws post∧U32s W' (some bd) n d ys∧w.grownBy W' (some ad.block)) (by kernel_rfl) (by exact⟨R.out.drewN 1,HB2.out.drew,G.out.drawn 1⟩) (fun hHeld=>?_);refine tk 0 ?_;(try simp only [Act.put,lay]);refine tk 1 ?_;(try simp only [Act.put,lay]);refine tk 2 ?_;(try simp only [Act.put,lay]);refine tk 3 ?_;(try simp only [Act.put,lay]);refine tk 4 ?_;(try simp only [Act.put,lay]);refine tk 5 ?_;(try simp only [Act.put,lay]);refine tk 6 ?_;(try simp only [Act.put,lay]);refine tk 7 ?_;(try simp only [Act.put,lay]);refine tkn 8 ?_;(try simp only [Act.put,lay]);refine tkn 9 ?_;(try simp only [Act.put,lay]);refine tkn 10 ?_;(try simp only [Act.put,lay]);refine tkn 11 ?_;(try simp only [Act.put,lay]);refine tkn 12 ?_;(try simp only [Act.put,lay]);refine tkn 13 ?_;(try simp only [Act.put,lay]);refine tkn 14 ?_;(try simp only [Act.put,lay]);refine tkn 15 ?_;(try simp only [Act.put,lay]);refine tkn 16 ?_;(try simp only [Act.put,lay]);refine tkn 17 ?_;(try simp only [Act.put,lay]);refine tkn 18 ?_;(try simp only [Act.put,lay]);refine tkn 19 ?_;(try simp only [Act.put,lay]);refine tkn 20 ?_;(try simp only [Act.put,lay]);refine tkn 21 ?_;(try simp only [Act.put,lay]);refine tkn 22 ?_;(try simp only [Act.put,lay]);refine tkn 23 ?_;(try simp only [Act.put,lay]);refine tkn 24 ?_;(try simp only [Act.put,lay]);refine tkn 25 ?_;(try simp only [Act.put,lay]);refine tk 26 ?_;(try simp only [Act.put,lay]);refine tk 27 ?_;(try simp only [Act.put,lay])
     refine wpAnyH_done (by kernel_rfl) ?_ _;go_wp2_with fail
     go_meet
     case rel=>exact⟨rfl,hHeld.1,hHeld.2.2⟩
    ·have g2:((x:Int) / 4294967296 == 0)=true:=by simp;omega
     have g3:((x:Int) / 4294967296 != 0)=false:=by simp;omega
     have hm1:x*v0≤4294967295*4294967295:=Nat.mul_le_mul (by omega) (by omega)
     obtain⟨z,hz⟩:∃ z,x*v0=z:=⟨_,rfl⟩
     have e1:(x:Int)*(v0:Int)=(z:Int):=by rw [← hz];simp
     have hor:=or_join (i:=32) (x:=r) (y:=u0) (by omega) (by omega) (by omega);rw [show ((r*2^32:Nat):Int)=(r:Int)*4294967296 from by omega,show ((r*2^32+u0:Nat):Int)=(r:Int)*4294967296+(u0:Int) from by omega] at hor
     have hc3:decide ((r:Int)*4294967296+(u0:Int)<(z:Int))=cc:=by
      rw [← CC.out,hz];have:¬ 4294967296≤x:=h2
      simp only [h1,this,true_and,false_or]
      congr 1
      apply propext
      omega
     rw [hz] at hm1;clear hz
     have hor1:IntKind.u64.wrap ((r:Int)*4294967296)=(r:Int)*4294967296:=by rw [IntKind.wrap_u64];omega
     have hz1:IntKind.u64.wrap (z:Int)=(z:Int):=by rw [IntKind.wrap_u64];omega
     have hu1:IntKind.u64.wrap (u0:Int)=(u0:Int):=by rw [IntKind.wrap_u64];omega
     have hv2:IntKind.u64.wrap (v0:Int)=(v0:Int):=by rw [IntKind.wrap_u64];omega
     obtain⟨m2,hm2⟩:∃ m,n - 2=m:=⟨_,rfl⟩
     have hw:IntKind.i64.wrap ((n:Int) - 2)=(m2:Int):=by rw [IntKind.wrap_i64];omega
     have hb2:(m2:Int)<(n:Int):=by omega
     have hb3:(m2:Int)<(n:Int)+1:=by omega
     have HM2:=Hd hm2;clear hm2;go_wp2_with fail;refine wp_region_held_drew (S:=fun W'=>Win W' ad pre ws post∧U32s W' (some bd) n d ys∧w.grownBy W' (some ad.block)) (by kernel_rfl) (by exact⟨R.out.drewN 1,HB2.out.drew,G.out.drawn 1⟩) (fun hHeld=>?_);refine tk 0 ?_;(try simp only [Act.put,lay]);refine tk 1 ?_;(try simp only [Act.put,lay]);refine tk 2 ?_;(try simp only [Act.put,lay]);refine tk 3 ?_;(try simp only [Act.put,lay]);refine tk 4 ?_;(try simp only [Act.put,lay]);refine tk 5 ?_;(try simp only [Act.put,lay]);refine tk 6 ?_;(try simp only [Act.put,lay]);refine tk 7 ?_;(try simp only [Act.put,lay]);refine tk 8 ?_;(try simp only [Act.put,lay]);refine tk 9 ?_;(try simp only [Act.put,lay]);refine tk 10 ?_;(try simp only [Act.put,lay]);refine tk 11 ?_;(try simp only [Act.put,lay]);refine tk 12 ?_;(try simp only [Act.put,lay]);refine tk 13 ?_ (hv:=by intro W2 hSw;have cu0:=hSw.1.cell (i:=n - 2) (by have:=HRL.out;omega);rw [EU0.out,HM2.out] at cu0;have cv0:=hSw.2.1.cellAt (j:=n - 2) (by omega);rw [EV0.out,HM2.out] at cv0;go_simp;(try with_reducible rfl));(try simp only [Act.put,lay]);refine tk 14 ?_;(try simp only [Act.put,lay]);refine tk 15 ?_;(try simp only [Act.put,lay]);refine tk 16 ?_;(try simp only [Act.put,lay]);refine tk 17 ?_;(try simp only [Act.put,lay]);refine tk 18 ?_;(try simp only [Act.put,lay]);refine tk 19 ?_;(try simp only [Act.put,lay]);refine tk 20 ?_;(try simp only [Act.put,lay]);refine tk 21 ?_;(try simp only [Act.put,lay]);refine tk 22 ?_ (hv:=by intro W2 hSw;have cu0:=hSw.1.cell (i:=n - 2) (by have:=HRL.out;omega);rw [EU0.out,HM2.out] at cu0;have cv0:=hSw.2.1.cellAt (j:=n - 2) (by omega);rw [EV0.out,HM2.out] at cv0;go_simp;(try with_reducible rfl))
     (try simp only [Act.put,lay]);refine tk 23 ?_;(try simp only [Act.put,lay]);refine tk 24 ?_;(try simp only [Act.put,lay]);refine tk 25 ?_;(try simp only [Act.put,lay]);refine tk 26 ?_;(try simp only [Act.put,lay]);refine tk 27 ?_;(try simp only [Act.put,lay]);refine wpAnyH_done (by kernel_rfl) ?_ _;go_wp2_with fail
     go_meet
     case rel=>exact⟨rfl,hHeld.1,hHeld.2.2⟩
   ·have g1:((r:Int) / 4294967296 == 0)=false:=by simp;omega
    obtain rfl:cc=false:=by rw [← CC.out];simp [h1]
    go_wp2_with fail;refine wp_region_held_drew (S:=fun W'=>Win W' ad pre ws post∧U32s W' (some bd) n d ys∧w.grownBy W' (some ad.block)) (by kernel_rfl) (by exact⟨R.out.drewN 1,HB2.out.drew,G.out.drawn 1⟩) (fun hHeld=>?_);refine tk 0 ?_;(try simp only [Act.put,lay]);refine tk 1 ?_;(try simp only [Act.put,lay]);refine tk 2 ?_;(try simp only [Act.put,lay]);refine tk 3 ?_;(try simp only [Act.put,lay]);refine tkn 4 ?_;(try simp only [Act.put,lay]);refine tkn 5 ?_;(try simp only [Act.put,lay]);refine tkn 6 ?_;(try simp only [Act.put,lay]);refine tkn 7 ?_;(try simp only [Act.put,lay]);refine tkn 8 ?_;(try simp only [Act.put,lay]);refine tkn 9 ?_;(try simp only [Act.put,lay]);refine tkn 10 ?_;(try simp only [Act.put,lay]);refine tkn 11 ?_;(try simp only [Act.put,lay]);refine tkn 12 ?_;(try simp only [Act.put,lay]);refine tkn 13 ?_;(try simp only [Act.put,lay]);refine tkn 14 ?_;(try simp only [Act.put,lay]);refine tkn 15 ?_;(try simp only [Act.put,lay]);refine tkn 16 ?_;(try simp only [Act.put,lay]);refine tkn 17 ?_;(try simp only [Act.put,lay]);refine tkn 18 ?_;(try simp only [Act.put,lay]);refine tkn 19 ?_;(try simp only [Act.put,lay]);refine tkn 20 ?_;(try simp only [Act.put,lay]);refine tkn 21 ?_;(try simp only [Act.put,lay]);refine tkn 22 ?_;(try simp only [Act.put,lay]);refine tkn 23 ?_;(try simp only [Act.put,lay]);refine tkn 24 ?_;(try simp only [Act.put,lay]);refine tkn 25 ?_;(try simp only [Act.put,lay]);refine tkn 26 ?_;(try simp only [Act.put,lay]);refine tk 27 ?_;(try simp only [Act.put,lay])
    refine wpAnyH_done (by kernel_rfl) ?_ _;go_wp2_with fail
    go_meet
    case rel=>exact⟨rfl,hHeld.1,hHeld.2.2⟩
  case rest=>
   obtain⟨rfl,hr,hg⟩:=hcut;clear R G;have R:=Hd hr;have G:=Hd hg;clear hr hg
   cases cc
   ·have hE:=KE.out x r HT.out (by
     have hc:=CC.out
     simp only [decide_eq_false_iff_not,not_and,Nat.not_le,not_or,Nat.not_lt] at hc
     by_cases h1:r<4294967296
     ·exact .inr (hc h1)
     ·exact .inl (by omega))
    have hx32:x<4294967296:=hE.1;have HXV:=Hd hE.2;clear hE CC HT KT KB KE hxl hrl EU0 EV1 EV0;go_wp2
    go_loopw [9,10,11,12,87] (fun bv cv _ _ iv wr=>∃ (i c b:Nat) (cur:List Nat),iv=.int .i64 i∧cv=.int .u64 c∧bv=.int .u32 b∧i≤n∧SubInv ws ys cur x i c b∧Win wr ad pre cur post∧w.grownBy wr (some ad.block)) (fun _ _ _ _ iv _=>n - (intOf iv).toNat)
    case atStart=>exact⟨0,0,0,ws,rfl,rfl,rfl,Nat.zero_le _,SubInv.start _ HRW.out,R.out,G.out⟩
    case round=>
     obtain⟨i,c,b,cur,rfl,rfl,rfl,hi,hinv,harr,hgr⟩:=hrel;clear R G;have HI:=Hd hinv;have R:=Hd harr;have G:=Hd hgr;have hc32:c<4294967296:=hinv.2.2.2.1;have hb1:b≤1:=hinv.2.2.2.2.1
     have hcl:cur.length=n+1:=by rw [hinv.2.1,HRL.out]
     have hu1:cur[i]?.getD 0<4294967296:=hinv.1.get i;have hcu:=harr.cell (i:=i) (by omega);rw [hinv.2.2.1 i (Nat.le_refl _)] at hcu hu1;have hf:=harr.frozen i
     obtain⟨u,huu⟩:∃ z,ws[i]?.getD 0=z:=⟨_,rfl⟩
     rw [huu] at hcu hu1;have HUU:=Hd huu;have HCL:=Hd hcl;clear hinv harr hgr huu hcl
     by_cases hlt:i<n
     ·have hy:=(HY.out.grown G.out HNE.out).cellAt (j:=i) hlt;have hy1:ys[i]?.getD 0<4294967296:=HY.out.lt i
      obtain⟨y,hyy⟩:∃ y,ys[i]?.getD 0=y:=⟨_,rfl⟩
      rw [hyy] at hy hy1;have HYY:=Hd hyy;clear hyy;have hz1:y*x≤4294967295*4294967295:=Nat.mul_le_mul (by omega) (by omega)
      obtain⟨z,hz⟩:∃ z,y*x=z:=⟨_,rfl⟩
      rw [hz] at hz1
      have e1:(x:Int)*(y:Int)=(z:Int):=by rw [← hz,Nat.mul_comm];simp
      have HZ:=Hd hz;clear hz
      obtain⟨t,ht⟩:∃ t,c+z=t:=⟨_,rfl⟩
      obtain⟨D,hD⟩:∃ D,(u+8589934592 - t % 4294967296 - b) % 4294967296=D:=⟨_,rfl⟩
      obtain⟨bo,hbo⟩:∃ D,(if u<t % 4294967296+b then 1 else 0)=D:=⟨_,rfl⟩
      have hS:=fun W=>sub32_any u (t % 4294967296) b W hu1 (by omega) hb1;rw [hD,hbo] at hS
      have hbo1:bo≤1:=by rw [← hbo];split<;>omega
      have hD1:D<4294967296:=by omega
      have HEQ:=Hd (show D+(t % 4294967296+b)=u+4294967296*bo from by rw [← hbo];split<;>omega)
      obtain⟨tl,htl2⟩:∃ z,t % 4294967296=z:=⟨_,rfl⟩
      obtain⟨th,hth⟩:∃ z,t / 4294967296=z:=⟨_,rfl⟩
      rw [htl2] at hS HEQ;have HS:=Hd hS;have HT':=Hd ht;have HTL:=Hd htl2;have HTH:=Hd hth
      have ct:(c:Int)+(z:Int)=(t:Int):=by omega
      have cl:(t:Int) % 4294967296=(tl:Int):=by omega
      have ch:(t:Int) / 4294967296=(th:Int):=by omega
      have tb:t<18446744073709551616:=by omega
      have tlb:tl<4294967296:=by omega
      have thb:th<4294967296:=by omega
      clear hD hbo hS ht htl2 hth;go_wp2_with fail;refine (HS.out _).mono ?_;rintro e w' ⟨rfl,rfl⟩;go_wp2
      go_roundw
      case rel=>
       refine⟨i+1,th,bo,cur.set i D,by go_num,rfl,rfl,by omega,?_,R.out.set (by have:=HCL.out;omega) _,grown_setw G.out _ _⟩;rw [← HTH.out]
       exact HI.out.step (by rw [HRL.out];omega) hx32 HY.out.w32 (by rw [HYY.out,HZ.out,HT'.out]) hD1 hbo1 (by rw [HTL.out,HUU.out];exact HEQ.out)
      case measure=>simp [intOf];omega
     ·obtain rfl:i=n:=by omega
      obtain⟨D,hD⟩:∃ D,(u+8589934592 - c - b) % 4294967296=D:=⟨_,rfl⟩
      obtain⟨bo,hbo⟩:∃ D,(if u<c+b then 1 else 0)=D:=⟨_,rfl⟩
      have hS:=fun W=>sub32_any u c b W hu1 (by omega) hb1;rw [hD,hbo] at hS
      have hbo1:bo≤1:=by rw [← hbo];split<;>omega
      have hD1:D<4294967296:=by omega
      have HEQ:=Hd (show D+(c % 4294967296+b)=u+4294967296*bo from by rw [← hbo];split<;>omega);have HS:=Hd hS;have HC32:=Hd hc32;clear hD hbo hS hlt hi;go_wp2_with fail;refine (HS.out _).mono ?_;rintro e w' ⟨rfl,rfl⟩;have hst:=HI.out.step (d:=D) (b':=bo) (by rw [HRL.out];omega) hx32 HY.out.w32 (t:=c) (by rw [List.getElem?_eq_none (by rw [HY.out.len];omega)];simp) hD1 hbo1 (by rw [HUU.out];exact HEQ.out)
      have hth0:c / 4294967296=0:=by have:=HC32.out;omega
      have hlast:=hst.last (by rw [HRL.out]) HRW.out (by rw [HY.out.len];omega) hth0;rw [HU.out,HV.out] at hlast;have hmw:W32 (cur.set i D):=hst.1
      have hml:(cur.set i D).length=i+1:=by simp [HCL.out]
      have R2:=Hd (R.out.set (i:=i) (by have:=HCL.out;omega) D);have G2:=Hd (grown_setw G.out i (wd D))
      obtain⟨ms,hms⟩:∃ m,cur.set i D=m:=⟨_,rfl⟩
      rw [hms] at hlast hmw hml R2;have HLAST:=Hd hlast;have HMW:=Hd hmw;have HML:=Hd hml;clear hst hth0 hlast hmw hml hms R G HI HEQ HS HUU HCL hc32 HC32
      rcases Nat.eq_zero_or_pos bo with h0 | h0
      ·subst h0;go_wp2;have hl:=HLAST.out;have hx:=HX.out;rw [Nat.mul_zero,Nat.add_zero] at hl;rw [Nat.add_mul,Nat.one_mul] at hx;have hk:=kn_ok' hl (by omega)
       go_ret
       exact⟨ms,ret_int (show ((x:Nat):Int)=((U / V:Nat):Int) from by rw [hk.1]),R2.out,HMW.out,HML.out,by rw [hk.2],G2.out⟩
      ·obtain rfl:bo=1:=by omega
       have HVL:=Hd (show V<2^(32*(i+1)) from by
        have h:=num_lt HY.out.w32;rw [HY.out.len,HV.out] at h
        exact Nat.lt_of_lt_of_le h (Nat.pow_le_pow_right (by omega) (by omega)))
       have HML2:=Hd (show num ms<2^(32*(i+1)) from by
        have h:=num_lt HMW.out
        rwa [HML.out] at h)
       go_wp2
       go_loopw [13,14,15,135] (fun ov _ _ iv wr=>∃ (t o:Nat) (cur:List Nat),iv=.int .i64 t∧ov=.int .u32 o∧t≤i∧GiveInv ms ys cur t o∧Win wr ad pre cur post∧w.grownBy wr (some ad.block)) (fun _ _ _ iv _=>i - (intOf iv).toNat)
       case atStart=>exact⟨0,0,ms,rfl,rfl,Nat.zero_le _,GiveInv.start _ _,R2.out,G2.out⟩
       case round=>
        obtain⟨t,o,cur2,rfl,rfl,hi2,hinv2,harr2,hgr2⟩:=hrel;clear R2 G2 hf hcu;have HI2:=Hd hinv2;have R3:=Hd harr2;have G3:=Hd hgr2;have ho1:=hinv2.carry
        have hcl2:cur2.length=i+1:=by rw [hinv2.len (by rw [HML.out];omega),HML.out]
        have hm1:ms[t]?.getD 0<4294967296:=HMW.out.get t;have hcm:=harr2.cell (i:=t) (by omega);rw [hinv2.at] at hcm;have hf2:=harr2.frozen t
        obtain⟨m,hmm⟩:∃ z,ms[t]?.getD 0=z:=⟨_,rfl⟩
        rw [hmm] at hcm hm1;have HMM:=Hd hmm;have HCL2:=Hd hcl2;clear hinv2 harr2 hgr2 hmm hcl2
        by_cases hlt2:t<i
        ·have hy:=(HY.out.grown G3.out HNE.out).cellAt (j:=t) hlt2;have hy1:ys[t]?.getD 0<4294967296:=HY.out.lt t
         obtain⟨y,hyy⟩:∃ y,ys[t]?.getD 0=y:=⟨_,rfl⟩
         rw [hyy] at hy hy1;have HYY:=Hd hyy;clear hyy;go_wp2
         go_roundw
         case rel=>
          refine⟨t+1,(o+m+y) / 4294967296,cur2.set t ((o+m+y) % 4294967296),by go_num,by go_num,by omega,HI2.out.step (by rw [HML.out];omega) HMW.out HY.out.w32 (by rw [HMM.out,HYY.out]),?_,grown_setw G3.out _ _⟩;rw [show ((m:Int)+(y:Int)+(o:Int)) % 4294967296=(((o+m+y) % 4294967296:Nat):Int) from by omega]
          exact R3.out.set (by have:=HCL2.out;omega) _
         case measure=>simp [intOf];omega
        ·obtain rfl:t=i:=by omega
         obtain⟨e,he⟩:∃ e,(m+o) % 4294967296=e:=⟨_,rfl⟩
         have he2:((m:Int)+(o:Int)) % 4294967296=(e:Int):=by omega
         have he1:e<4294967296:=by omega
         have hx0:0<x:=by
          rcases Nat.eq_zero_or_pos x with h | h
          ·have h1:=HLAST.out;have h2:=HML2.out;subst h
           omega
          ·exact h
         have hle:num ms+num ys<2^(32*(t+1))*2:=by rw [HV.out];have:=HVL.out;have:=HML2.out;omega
         have hge:2^(32*(t+1))≤num ms+num ys:=by rw [HV.out];have:=HLAST.out;have:=HXV.out;omega
         have hdn:=HI2.out.done (d:=e) HML.out (by rw [HY.out.len];omega) (by rw [HMM.out];exact he.symm) HMW.out hle hge;have R4:=Hd (R3.out.set (i:=t) (by have:=HCL2.out;omega) e);have G4:=Hd (grown_setw G3.out t (wd e))
         obtain⟨fs,hfs⟩:∃ l,cur2.set t e=l:=⟨_,rfl⟩
         rw [hfs] at hdn R4;rw [HV.out] at hdn;have HDN:=Hd hdn
         have hxe:((x:Int) - 1)=((x - 1:Nat):Int):=by omega
         have hxe2:((x - 1:Nat):Int)<4294967296:=by omega
         clear hdn hfs hle hge HI2 R3 G3 HMM HCL2 he hlt2 hi2 HVL;go_wp2;have hd:=HDN.out;have hl:=HLAST.out;have hm2:=HML2.out
         have hx1:(x - 1)*V+V=x*V:=by rw [← Nat.succ_mul];congr 1;omega
         have hk:=kn_ok' (q:=x - 1) (R:=num fs) (U:=U) (V:=V) (by omega) (by omega)
         go_ret
         exact⟨fs,ret_int (show ((x - 1:Nat):Int)=((U / V:Nat):Int) from by rw [hk.1]),R4.out,hd.2.1,hd.2.2,by rw [hk.2],G4.out⟩
   ·have hc:=CC.out
    simp only [decide_eq_true_eq] at hc
    have h1:r<4294967296:=hc.1
    have h2:0<x∧U<(x - 1+1)*V:=by
     rcases hc.2 with h | h
     ·exact⟨by omega,KB.out x h⟩
     ·exact KT.out x r HT.out h
    have h3:0<x:=h2.1;have HX2:=Hd h2.2;have hT:=HT.out;have HT2:=Hd (show (x - 1)*v1+(r+v1)=top from by rw [Nat.sub_mul];have:v1≤x*v1:=Nat.le_mul_of_pos_left _ h3;omega);have cv1:=(HY.out.grown G.out HNE.out).cellAt (j:=n - 1) (by omega);rw [EV1.out] at cv1;clear hc h2 hT;go_wp2
    go_roundw
    case rel=>exact⟨x - 1,r+v1,by go_num,by go_num,HX2.out,HT2.out,by omega,by omega,R.out,G.out⟩
    case measure=>simp [intOf];omega
theorem back_win(ad:Addr)(n c s:Nat)(pre rs post:List Nat)(w:World)(hr:Win w ad pre rs post)(hc:n≤c)(hrw:W32 rs)(hrl:rs.length=n)(hs:s<32)(hn:n≤1073741824):
  Calls Tryz.prog 266 #[.slice (some ad) n c,.int .i64 (s:Int)] w fun e w'=>
   ∃ k,e=.returned (.slice (some ad) k k)∧U32s w' (some ad) k k (digs (num rs / 2^s))∧w.grownBy w' (some ad.block):=by
 have HR:=Hd hr;have HRW:=Hd hrw;have HRL:=Hd hrl;clear hr hrw hrl
 go_enter Tryz.func266,Tryz.ntmps266
 go_wp2
 go_loopw [5,6,9] (fun _ _ iv wr=>∃ (i:Nat) (cur:List Nat),iv=.int .i64 i∧i≤n∧BackArr rs cur s i∧Win wr ad pre cur post∧w.grownBy wr (some ad.block)) (fun _ _ iv _=>n - (intOf iv).toNat)
 case atStart=>exact⟨0,rs,rfl,Nat.zero_le _,BackArr.start _ _,HR.out,World.grownBy.refl w _⟩
 case round=>
  obtain⟨i,cur,rfl,hi,hinv,harr,hgr⟩:=hrel;have HI:=Hd hinv;have HA:=Hd harr;have HG:=Hd hgr;clear hinv harr hgr
  by_cases hlt:i<n
  ·have hf:=HA.out.frozen i
   have hll:cur.length=n:=by rw [HI.out.len (by rw [HRL.out];exact hi),HRL.out]
   have hcc:=HA.out.cell (i:=i) (by rw [hll];exact hlt);rw [HI.out.at (Nat.le_refl _)] at hcc;have hx1:=HRW.out.get i
   obtain⟨x,hxx⟩:∃ r,rs[i]?.getD 0=r:=⟨_,rfl⟩
   rw [hxx] at hcc hx1;have HXX:=Hd hxx;clear hxx
   by_cases hl2:i+1<n
   ·have hc2:=HA.out.cell (i:=i+1) (by rw [hll];exact hl2);rw [HI.out.at (by omega)] at hc2;rw [show ad.add (i+1)=⟨ad.block,ad.off+(i+1),none⟩ from by unfold Addr.add;simp] at hc2;have hy1:=HRW.out.get (i+1)
    obtain⟨y,hyy⟩:∃ r,rs[i+1]?.getD 0=r:=⟨_,rfl⟩
    rw [hyy] at hc2 hy1;have HYY:=Hd hyy;have HLL:=Hd hll;clear hyy hll;have hor:=or_join' (i:=32) (x:=y) (y:=x) (by omega) (by omega) (by omega);rw [show (2:Nat)^32=4294967296 from rfl,show ((y*4294967296:Nat):Int)=(y:Int)*4294967296 from by omega] at hor
    obtain⟨v,hv⟩:∃ v,x+y*4294967296=v:=⟨_,rfl⟩
    rw [hv] at hor
    have hsh:(v:Int) / (2:Int)^s=((v / 2^s:Nat):Int):=by rw [Int.natCast_ediv,Int.natCast_pow];rfl
    obtain⟨z,hz⟩:∃ z,v / 2^s=z:=⟨_,rfl⟩
    rw [hz] at hsh;have HV:=Hd hv;have HZ:=Hd hz
    have hv1:v<18446744073709551616:=by omega
    clear hv hz
    have i1:((i:Int)+1).toNat=i+1:=by omega
    go_wp2
    go_roundw
    case rel=>
     refine⟨i+1,cur.set i (z % 4294967296),by go_num,by omega,?_,?_,grown_setw HG.out _ _⟩
     ·rw [← HZ.out]
      exact HI.out.step (by rw [HRL.out];exact hlt) HRW.out hs (by rw [HXX.out,HYY.out,← HV.out];omega)
     ·exact HA.out.set (by rw [HLL.out];exact hlt) (z % 4294967296)
    case measure=>simp [intOf];omega
   ·have HYY:=Hd (show rs[i+1]?.getD 0=0 by rw [List.getElem?_eq_none (by rw [HRL.out];omega)];rfl)
    have hsh:(x:Int) / (2:Int)^s=((x / 2^s:Nat):Int):=by rw [Int.natCast_ediv,Int.natCast_pow];rfl
    obtain⟨z,hz⟩:∃ z,x / 2^s=z:=⟨_,rfl⟩
    rw [hz] at hsh;have HZ:=Hd hz;have HLL:=Hd hll;clear hz hll;go_wp2
    go_roundw
    case rel=>
     refine⟨i+1,cur.set i (z % 4294967296),by go_num,by omega,?_,?_,grown_setw HG.out _ _⟩
     ·rw [← HZ.out]
      exact HI.out.step (by rw [HRL.out];exact hlt) HRW.out hs (by rw [HXX.out,HYY.out];omega)
     ·exact HA.out.set (by rw [HLL.out];exact hlt) (z % 4294967296)
    case measure=>simp [intOf];omega
  ·obtain rfl:i=n:=by omega
   have hi1:=HI.out;have hw1:=hi1.w32 HRW.out
   have hl1:cur.length=i:=by rw [hi1.len (by rw [HRL.out];exact Nat.le_refl _),HRL.out]
   have hu:=HA.out.u32s hw1 hl1 (by omega) hc
   have hd:num cur=num rs / 2^s:=by
    have hl:=HRL.out;subst hl
    exact hi1.done HRW.out
   have HC:=Hd (cut_any _ _ _ _ _ hu);have HD:=Hd hu.cutd;rw [hd] at HD
   obtain⟨kk,hkk⟩:∃ kk,wlen cur=kk:=⟨_,rfl⟩
   rw [hkk] at HC HD;clear hkk hu hd hi1 hw1 hl1;go_wp2_with fail;refine HC.out.mono ?_;rintro e w' ⟨rfl,rfl⟩;go_wp2
   go_ret
   exact⟨kk,rfl,HD.out,HG.out⟩
theorem back_any(g n s:Nat)(rs:List Nat)(w:World)(hr:Arr w g rs)(hrw:W32 rs)(hrl:rs.length=n)(hs:s<32)(hn:n≤1073741824):
  Calls Tryz.prog 266 #[.slice (some ⟨g,0,none⟩) n n,.int .i64 (s:Int)] w fun e w'=>
   ∃ k,e=.returned (.slice (some ⟨g,0,none⟩) k k)∧U32s w' (some ⟨g,0,none⟩) k k (digs (num rs / 2^s))∧w.grownBy w' (some g):=
 back_win ⟨g,0,none⟩ n n s [] rs [] w hr.win (Nat.le_refl _) hrw hrl hs hn
theorem nquo_any(A B:Option Addr)(n c m d:Nat)(xs ys:List Nat)(w:World)(hx:U32s w A n c xs)(hy:U32s w B m d ys)(hl1:wlen xs≤16384)(hl2:wlen ys≤16384)(h0:0<num ys):
  Calls Tryz.prog 240 #[.slice A n c,.slice B m d] w (NewQR w (num xs / num ys) (num xs % num ys)):=by
 have HQ1:=Hd (words_q A n c xs w hx);have HQ2:=Hd (words_q B m d ys w hy);have n1:=hx.small;have n2:=hy.small;have cc1:=hx.cap;have cc2:=hy.cap;have l1:=wlen_le xs;have l2:=wlen_le ys;rw [hx.len] at l1;rw [hy.len] at l2;have e1:=num_trim xs;have e2:=num_trim ys;rw [trim_eq_take] at e1 e2;have t1:=wlen_spec ys;have HX0:=hx.take l1;have HY0:=hy.take l2;have hyt:=trim_eq_digs hy.w32;rw [trim_eq_take] at hyt;have hxt:=trim_eq_digs hx.w32;rw [trim_eq_take] at hxt;have hp0:=mt wlen_eq_zero.1 (show ¬ num ys=0 by omega)
 obtain⟨p,hp⟩:∃ p,wlen xs=p:=⟨_,rfl⟩
 obtain⟨q,hq⟩:∃ p,wlen ys=p:=⟨_,rfl⟩
 rw [hp] at HQ1 l1 hl1 e1 HX0 hxt;rw [hq] at HQ2 l2 hl2 e2 HY0 hyt hp0;rw [hq] at t1
 have hyq:(ys.take q)[q - 1]?.getD 0≠0:=by
  rw [List.getElem?_take_of_lt (by omega)]
  rcases t1.2 with h | h
  ·omega
  ·exact h
 obtain⟨us,hus⟩:∃ l,xs.take p=l:=⟨_,rfl⟩
 obtain⟨vs,hvs⟩:∃ l,ys.take q=l:=⟨_,rfl⟩
 rw [hus] at e1 HX0 hxt;rw [hvs] at e2 HY0 hyt hyq
 have wu:wlen us=p:=by rw [hxt,wlen_digs,← hxt,HX0.len]
 have wv:wlen vs=q:=by rw [hyt,wlen_digs,← hyt,HY0.len]
 rw [← e1] at hxt;have HXT:=Hd hxt;rw [← e1,← e2];rw [← e2] at h0;have HX:=Hd HX0;have HY:=Hd HY0;have HV0:=Hd h0;have HYQ:=Hd hyq;have WU:=Hd wu;have WV:=Hd wv
 have hq0:0<q:=by omega
 clear hx hy hp hq e1 e2 HX0 HY0 hus hvs h0 hyq t1 hyt hxt hp0 wu wv
 have hz0:((q:Int) == 0)=false:=by simp;omega
 go_enter Tryz.func240,Tryz.ntmps240
 go_wp2_with fail
 go_quiet ((first | (go_at_call_of 203 (Value.slice A n c);exact Calls.quiet_of_same (HQ1.out _)) | (go_at_call_of 203 (Value.slice B m d);exact Calls.quiet_of_same (HQ2.out _))))
 obtain⟨w1,hw1⟩:∃ w1,w.drewN nq=w1:=⟨_,rfl⟩
 have HB1:=Hd (show Below w.heap.size w w1 from by rw [← hw1];exact below_drewN (Below.refl _ _) nq);have HX1:=Hd (show U32s w1 A p c us from by rw [← hw1];exact HX.out.keep (Nat.le_refl _) fun _ _ _=>rfl);have HY1:=Hd (show U32s w1 B q d vs from by rw [← hw1];exact HY.out.keep (Nat.le_refl _) fun _ _ _=>rfl);rw [hw1];clear hw1 HQ1 HQ2 HX HY
 obtain⟨w2,hw2⟩:∃ w2,w1.alloc (.cells #[.slice A p c,.slice B q d] 40)=w2:=⟨_,rfl⟩
 have hb2:Below w1.heap.size w1 w2:=by rw [← hw2];exact below_alloc w1 _
 have hx2:=HX1.out.below hb2;have hy2:=HY1.out.below hb2;have HLG:=Hd (long_two w1.heap.size A p c us B q d vs w2 hx2 (by rw [← hw2];simp [World.cell?_alloc_new]) (by rw [WU.out];exact hl1) hy2 (by rw [← hw2];simp [World.cell?_alloc_new]) (by rw [WV.out];exact hl2));have HB2:=Hd (HB1.out.trans (hb2.mono HB1.out.size));have HX2:=Hd hx2;have HY2:=Hd hy2;have HW2:=Hd hw2;clear hb2 hx2 hy2 hw2 HX1 HY1 HB1;go_wp2_with fail;rw [HW2.out];refine HLG.out.mono ?_;rintro e w' ⟨rfl,rfl⟩;clear HLG HW2;have HC:=Hd (ncmp_any A B p c q d us vs w2 HX2.out HY2.out)
 obtain⟨cc,ecc⟩:∃ z,cmp3 (num us) (num vs)=z:=⟨_,rfl⟩
 rw [ecc] at HC;have ECC:=Hd ecc;clear ecc;go_wp2_with fail;refine HC.out.mono ?_;rintro e w3 ⟨rfl,k,hk⟩
 have hb3:Below w2.heap.size w2 w3:=by rw [hk];exact below_drewN (Below.refl _ _) k
 have HB3:=Hd (HB2.out.trans (hb3.mono HB2.out.size));have HX3:=Hd (HX2.out.below hb3);have HY3:=Hd (HY2.out.below hb3);clear hb3 hk HC HX2 HY2 HB2 w2
 by_cases hneg:cc<0
 ·have hlt:=ECC.out;have hlt2:num us<num vs:=cmp3_neg.1 (by rw [hlt];exact hneg);have HN:=Hd (nnorm_any A p c us w3 HX3.out);have D1:=Hd (Nat.div_eq_of_lt hlt2);have D2:=Hd (Nat.mod_eq_of_lt hlt2);clear hlt hlt2 ECC;go_wp2_with fail;refine HN.out.mono ?_;rintro e w4 ⟨g,nn,rfl,hl,ha,hg,hb4⟩;have HU:=Hd (ha.u32s' (W32.digs _) hl (by rw [← HXT.out,HX3.out.len] at hl;omega));have HB4:=Hd (HB3.out.trans (hb4.mono HB3.out.size));clear hl ha hg hb4 HB3 HX3 HY3 HN;go_wp2
  go_ret3
  exact⟨none,0,0,_,nn,nn,rfl,by rw [D1.out,digs_zero];exact U32s.nil _ _ _,by rw [D2.out];exact HU.out,HB4.out⟩
 ·have hge:num vs≤num us:=cmp3_nonneg.1 (by have:=ECC.out;omega);have HGE:=Hd hge;clear ECC hge
  by_cases hq1:q=1
  ·subst hq1;obtain⟨ad,rfl,hc⟩:=HY3.out.cell (j:=0) (by omega);have hy1:=HY3.out.lt 0;have hyy:=HYQ.out
   have hval:num vs=vs[0]?.getD 0:=by
    have:=num_take_next vs 0;rw [List.take_of_length_le (by rw [HY3.out.len];omega)] at this;rw [this];simp [num]
   simp only [Nat.sub_self] at hyy
   obtain⟨y,ey⟩:∃ y,vs[0]?.getD 0=y:=⟨_,rfl⟩
   rw [ey] at hc hy1 hyy hval;rw [show ad.add 0=ad from by simp [Addr.add]] at hc;have HO:=Hd (one_any A p c y us w3 HX3.out hy1 (by omega) (by omega))
   obtain⟨Q,hQ⟩:∃ z,num us / y=z:=⟨_,rfl⟩
   obtain⟨R,hR⟩:∃ z,num us % y=z:=⟨_,rfl⟩
   rw [hQ,hR] at HO;have D1:=Hd (show num us / num vs=Q from by rw [hval,hQ]);have D2:=Hd (show num us % num vs=R from by rw [hval,hR]);clear hval ey hyy hQ hR HGE HX3 HY3 HV0 HYQ WU WV hz0;go_wp2_with fail;refine HO.out.mono ?_;rintro e w4 ⟨A2,n3,c3,B2,m3,d3,rfl,hu,hv,hb4⟩;have HU:=Hd hu;have HV:=Hd hv;have HB4:=Hd (HB3.out.trans (hb4.mono HB3.out.size));clear hu hv hb4 HB3 HO;go_wp2
   go_ret3
   exact⟨_,n3,c3,_,m3,d3,rfl,by rw [D1.out];exact HU.out,by rw [D2.out];exact HV.out,HB4.out⟩
  ·have hq2:2≤q:=by omega
   obtain⟨ad,rfl,hc⟩:=HY3.out.cell (j:=q - 1) (by omega);have hy1:=HY3.out.lt (q - 1);have hyy:=HYQ.out
   obtain⟨y,ey⟩:∃ y,vs[q - 1]?.getD 0=y:=⟨_,rfl⟩
   rw [ey] at hc hy1 hyy
   obtain⟨s,es⟩:∃ s,32 - blen y=s:=⟨_,rfl⟩
   have hts:=top_set (n:=q - 1) (s:=s) (y:=y) HY3.out.w32 (by rw [HY3.out.len];omega) ey es.symm (by omega);rw [show q - 1+1=q from by omega] at hts
   have hby:0<blen y:=by
    rcases Nat.eq_zero_or_pos (blen y) with h | h
    ·rw [blen_eq_zero] at h;omega
    ·exact h
   have hs32:s<32:=by omega
   have HLZ:=Hd fun W=>lead32_any y W hy1;rw [es] at HLZ;have HTS:=Hd hts
   have HSH:=Hd fun A n c xs W (h1:U32s W A n c xs) h2=>((shift_any A n c s xs W h1 hs32 h2).mono (by
    rintro e w' ⟨zs,⟨g,k,rfl,hl,ha,hg,hb⟩,hz,hn,hv⟩
    obtain rfl:k=n+1:=by omega
    exact⟨g,zs,rfl,ha,hb,hg,hz,hn,hv⟩):Calls Tryz.prog 258 #[.slice A n c,.int .i64 (s:Int)] W fun e w'=>∃ g zs,e=.returned (.slice (some ⟨g,0,none⟩) (n+1) (n+1))∧Arr w' g zs∧Below W.heap.size W w'∧W.heap.size≤g∧W32 zs∧zs.length=n+1∧num zs=num xs*2^s)
   clear ey es hts hyy hby HYQ
   have hz1:((q:Int) == 1)=false:=by simp;omega
   have hqq:(q:Int)≤(q:Int)+1:=by omega
   go_wp2_with fail;refine (HLZ.out _).mono ?_;rintro e w' ⟨rfl,rfl⟩;clear HLZ hc;go_wp2_with fail;refine wp_region_held_drew (S:=fun W'=>U32s W' A p c us∧U32s W' (some ad) q d vs∧Below w.heap.size w W') (by kernel_rfl) (by exact⟨HX3.out.drew,HY3.out.drew,HB3.out.drew⟩) (fun hHeld=>?_);refine tk 0 ?_;(try simp only [Act.put,lay]);refine tk 1 ?_;(try simp only [Act.put,lay]);refine tk 3 ?_;(try simp only [Act.put,lay]);refine tk 4 ?_;(try simp only [Act.put,lay]);refine tk 6 ?_;(try simp only [Act.put,lay]);refine tk 7 ?_;(try simp only [Act.put,lay]);refine rdy 2 (fun KK hKK=>?_);go_simp;refine (HSH.out _ _ _ _ _ hHeld.1 (by omega)).mono ?_;rintro e w4 ⟨g1,zs,rfl,ha4,hb4,hg4,hz4,hn4,hv4⟩;go_wp2_with fail;refine hKK.out _ _ (⟨hHeld.1.below hb4,hHeld.2.1.below hb4,hHeld.2.2.trans (hb4.mono hHeld.2.2.size)⟩) (fun _=>?_);clear hKK KK hHeld;rename_i hHeld;(try simp only [Act.put,lay]);refine rdy 5 (fun KK hKK=>?_);go_simp;refine (HSH.out _ _ _ _ _ hHeld.2.1 (by omega)).mono ?_;rintro e w5 ⟨g2,zt,rfl,ha5,hb5,hg5,hz5,hn5,hv5⟩;go_wp2_with fail;refine hKK.out _ _ (⟨hHeld.1.below hb5,hHeld.2.1.below hb5,hHeld.2.2.trans (hb5.mono hHeld.2.2.size)⟩) (fun _=>?_);clear hKK KK hHeld;rename_i hHeld;(try simp only [Act.put,lay]);refine tk 8 ?_;(try simp only [Act.put,lay]);refine tk 9 ?_;(try simp only [Act.put,lay]);refine tk 10 ?_;(try simp only [Act.put,lay]);refine wpAnyH_done (by kernel_rfl) ?_ _;have HA1:=Hd (ha4.below hb5 ha4.lt);have HB5:=Hd hHeld.2.2;have hg1:w.heap.size≤g1:=Nat.le_trans HB3.out.size hg4
   have hg12:g1<g2:=Nat.lt_of_lt_of_le ha4.lt hg5;have tw:=top_word (n:=q - 1) hz5 (by rw [show q - 1+1=q from by omega,hv5];exact HTS.out.1) (by rw [hv5];exact HTS.out.2);rw [show q - 1+1=q from by omega,hv5] at tw;have HVS:=Hd ((ha5.u32s' hz5 hn5 (by omega)).take (k:=q) (by omega))
   obtain⟨vt,hvt⟩:∃ l,zt.take q=l:=⟨_,rfl⟩
   rw [hvt] at tw HVS;have HV1:=Hd tw.1;have HVV:=Hd tw.2;have HVL:=Hd HTS.out.1
   have hpq:q≤p:=by
    rcases Nat.lt_or_ge p q with h | h
    ·exfalso
     have h1:=num_lt HX3.out.w32;rw [HX3.out.len] at h1;have h2:=le_num_wlen (l:=vs) (by rw [WV.out];omega);rw [WV.out] at h2;have h3:2^(32*p)≤2^(32*(q - 1)):=Nat.pow_le_pow_right (by omega) (by omega);have:=HGE.out
     omega
    ·exact h
   obtain⟨L,hL⟩:∃ L,p - q+1=L:=⟨_,rfl⟩
   have eL:(p:Int) - (q:Int)+1=(L:Int):=by omega
   have hLp:L+q=p+1:=by omega
   have HUV:=Hd (show num us<2^(32*p) from by have h:=num_lt HX3.out.w32;rwa [HX3.out.len] at h)
   have HQ0:=Hd (show QuoInv zs (List.replicate L 0) zs (num vs*2^s) L from by
    refine QuoInv.start (n:=q) hz4 (by omega) ?_ ?_
    ·have h:=HTS.out.2
     have h2:2^(32*q)=2^(32*(q - 1))*4294967296:=by rw [show 32*q=32*(q - 1)+32 from by omega,Nat.pow_add]
     omega
    ·rw [hv4];have h:=HTS.out.2
     have h3:2147483648*2^(32*(q - 1))*2^(32*L)=2147483648*2^(32*p):=by rw [Nat.mul_assoc,← Nat.pow_add];congr 2;omega
     have h4:2147483648*2^(32*(q - 1))*2^(32*L)≤num vs*2^s*2^(32*L):=Nat.mul_le_mul_right _ h;have h5:2^s≤2147483648:=Nat.pow_le_pow_right (n:=2) (by omega) (show s≤31 by omega);have h6:num us*2^s≤num us*2147483648:=Nat.mul_le_mul_left _ h5;have:=HUV.out
     omega)
   have HZV:=Hd hv4;have HZN:=Hd hn4;have HVP:=Hd (show 0<num vs*2^s from Nat.mul_pos HV0.out (Nat.two_pow_pos _));have hmk:=fun W=>make_u32 (N:=(L:Int)) (n:=L) rfl (by omega) W;clear hHeld hb4 hb5 ha4 ha5 hg4 hg5 hz4 hn4 hv4 hz5 hn5 hv5 tw hvt HTS HX3 HY3 HB3 HGE HSH HUV hL;go_wp2
   obtain⟨w6,hw6⟩:∃ W,w5.alloc (.cells (Array.replicate L (wd 0)) 117)=W:=⟨_,rfl⟩
   have HB6:=Hd (show Below w.heap.size w w6 from by rw [← hw6];exact HB5.out.alloc HB5.out.size _);have HA6:=Hd (show Arr w6 g1 zs from by rw [← hw6];exact HA1.out.alloc _);have HS6:=Hd (show U32s w6 (some ⟨g2,0,none⟩) q (q+1) vt from by rw [← hw6];exact HVS.out.alloc _);have HR6:=Hd (show Arr w6 w5.heap.size (List.replicate L 0) from by rw [← hw6];exact Arr.zeros _ _)
   have hg23:g2<w5.heap.size:=by
    obtain⟨ad',e',h1,h2⟩:=HVS.out.at_ (by omega)
    cases e';exact h1
   obtain⟨g3,hg3⟩:∃ g,w5.heap.size=g:=⟨_,rfl⟩
   rw [hw6];rw [hg3] at hg23 HR6 ⊢;clear hw6 hg3 HA1 HVS HB5 hmk w5
   obtain⟨V,hV⟩:∃ V,num vs*2^s=V:=⟨_,rfl⟩
   rw [hV] at HVV HVL HQ0 HVP;have HVE:=Hd hV;clear hV
   have hqp:(q:Int)≤(p:Int)+1:=by omega
   go_loopw [10,11,74] (fun _ _ iv wr=>∃ (i:Nat) (qs cur:List Nat),iv=.int .i64 i∧i≤L∧QuoInv zs qs cur V (L - i)∧qs.length=L∧Arr wr g3 qs∧Arr wr g1 cur∧U32s wr (some ⟨g2,0,none⟩) q (q+1) vt∧Below w.heap.size w wr) (fun _ _ iv _=>L - (intOf iv).toNat)
   case atStart=>exact⟨0,_,zs,rfl,Nat.zero_le _,HQ0.out,by simp,HR6.out,HA6.out,HS6.out,HB6.out⟩
   case round=>
    obtain⟨i,qs,cur,rfl,hi,hinv,hql,hq3,ha1,hs2,hb⟩:=hrel;clear HQ0 HR6 HA6 HS6 HB6
    have hcl:cur.length=p+1:=by rw [hinv.2.2.1,HZN.out]
    have HI:=Hd hinv;have HQ:=Hd hq3;have HA:=Hd ha1;have HS:=Hd hs2;have HB:=Hd hb;have HQL:=Hd hql;have HCL:=Hd hcl;clear hinv hq3 ha1 hs2 hb
    by_cases hlt:i<L
    ·obtain⟨j,hj⟩:∃ j,L - 1 - i=j:=⟨_,rfl⟩
     have ej:(L:Int) - 1 - (i:Int)=(j:Int):=by omega
     have hjL:(j:Int)<(L:Int):=by omega
     have hjq:j+q+1≤cur.length:=by omega
     have hI2:QuoInv zs qs cur V (j+1):=by have h:=HI.out;rw [show L - i=j+1 from by omega] at h;exact h
     have hz:=hI2.zero hjq HVL.out;have hsp:=split3 hjq;have hst:=fun rs h1 h2 h3=>hI2.step (rs:=rs) hjq HVL.out HVP.out (by omega) h1 h2 h3
     obtain⟨pre,hpre⟩:∃ l,cur.take j=l:=⟨_,rfl⟩
     obtain⟨ws,hws⟩:∃ l,(cur.drop j).take (q+1)=l:=⟨_,rfl⟩
     obtain⟨post,hpost⟩:∃ l,cur.drop (j+(q+1))=l:=⟨_,rfl⟩
     have hww:W32 ws:=by rw [← hws];exact (hI2.2.1.drop _).take _
     rw [hpre,hws,hpost] at hsp;rw [hpre,hws] at hz;rw [hpre,hws,hpost] at hst
     have hwin:Win wr ⟨g1,j,none⟩ pre ws post:=⟨g1,by rw [hsp.2.1],by rw [← hsp.1];exact HA.out⟩
     have HDG:=Hd fun c (hc:q+1≤c)=>digit_any ⟨g1,j,none⟩ (some ⟨g2,0,none⟩) q c (q+1) pre ws post vt wr hwin hww HS.out (by intro b e _;cases e;show g2≠g1;omega) hsp.2.2 hc hq2 (by omega) (by rw [HVV.out];exact hz.2.1) HV1.out;rw [HVV.out] at HDG
     obtain⟨D,hD⟩:∃ D,num ws / V=D:=⟨_,rfl⟩
     rw [hD] at HDG hst;have HST:=Hd hst;have HJ:=Hd hj;have hf3:=HQ.out.frozen j;have hcq:=HQ.out.cell (j:=j) (by omega)
     obtain⟨q0,hq0⟩:∃ z,qs[j]?.getD 0=z:=⟨_,rfl⟩
     rw [hq0] at hcq
     have b1:(j:Int)≤(j:Int)+(q:Int)+1:=by omega
     have b2:(j:Int)+(q:Int)+1≤(p:Int)+1:=by omega
     clear hI2 hz hsp hst hpre hws hpost hww hwin hD hj hjq hq0 hql hcl;go_wp2_with fail;rw [show j+q+1 - j=q+1 from by omega];refine (HDG.out _ (by omega)).mono ?_;rintro e w' ⟨rs,rfl,hwin2,hrw2,hrl2,hrv2,hgr2⟩;obtain⟨g',e',ha'⟩:=hwin2
     injection e' with e1 e2
     subst e1;have hq':Arr w' g3 qs:=HQ.out.of_block (hgr2.block g3 HQ.out.lt (by intro e;injection e;omega));have HQ':=Hd (hq'.set j D);have HA':=Hd (ha'.far (p:=⟨g3,j,none⟩) (show g1≠g3 by omega) (wd D));have HS':=Hd ((HS.out.grown hgr2 (by intro b e _;cases e;show g2≠g1;omega)).far (p:=⟨g3,j,none⟩) (by intro b e;cases e;show g2≠g3;omega) (wd D));have HB':=Hd ((below_grown HB.out hgr2 hg1 HB.out.size).setCell (p:=⟨g3,j,none⟩) (show w.heap.size≤g3 by omega) (wd D));have HSN:=Hd (HST.out rs hrw2 hrl2 hrv2).1;have hf3:=hq'.frozen j;have hcq':=hq'.cell (j:=j) (by rw [HQL.out];omega)
     obtain⟨q1,hq1⟩:∃ z,qs[j]?.getD 0=z:=⟨_,rfl⟩
     rw [hq1] at hcq';clear hq1 hq' ha' e2 hrw2 hrl2 hrv2 hgr2 HST HDG HQ HA HS HB HI hcq;go_wp2
     go_roundw
     case rel=>exact⟨i+1,qs.set j D,_,by go_num,by omega,by rw [show L - (i+1)=j from by have:=HJ.out;omega];exact HSN.out,by simp [HQL.out],HQ'.out,HA'.out,HS'.out,HB'.out⟩
     case measure=>simp [intOf];omega
    ·obtain rfl:i=L:=by omega
     have hdn:=HI.out;rw [Nat.sub_self,← HVE.out] at hdn;have hqd:=hdn.done HZV.out (by rw [HVE.out];exact HVL.out);have hw1:W32 qs:=hdn.1;have hw2:W32 cur:=hdn.2.1;have hut:=(HA.out.u32s' hw2 hcl (by omega)).take (k:=q) (by omega);have hwt:=hut.w32;have hlt':=hut.len;have HC1:=Hd fun W (h:U32s W (some ⟨g1,0,none⟩) q (p+1) (cur.take q))=>cut_any _ _ _ _ _ h;have HUT:=Hd hut
     obtain⟨k1,hk1⟩:∃ k,wlen (cur.take q)=k:=⟨_,rfl⟩
     rw [hk1] at HC1
     have hk1q:k1≤q:=by rw [← hk1];have:=wlen_le (cur.take q);omega
     have hku:=HQ.out.u32s' hw1 hql (by omega);have HC2:=Hd (cut_any _ _ _ _ _ hku);have HD:=Hd hku.cutd;rw [hqd.1] at HD
     obtain⟨k2,hk2⟩:∃ k,wlen qs=k:=⟨_,rfl⟩
     rw [hk2] at HC2 HD
     have hwin:Win wr ⟨g1,0,none⟩ [] (cur.take k1) (cur.drop k1):=⟨g1,rfl,by simpa using HA.out⟩
     have hnk:num (cur.take k1)=num (cur.take q):=by
      have h:=num_take_all (l:=cur.take q) (n:=k1) (by omega)
      rwa [List.take_take,Nat.min_eq_left hk1q] at h
     have HBK:=Hd (back_win ⟨g1,0,none⟩ k1 k1 s [] (cur.take k1) (cur.drop k1) wr hwin (Nat.le_refl _) (hw2.take _) (by simp;omega) hs32 (by omega));rw [hnk,hqd.2] at HBK;clear hdn hqd hw1 hw2 hut hwt hlt' hk1 hku hk2 hwin hnk HA HQ HI hcl hql HVP HVL HVV HVE HZV HZN HS HCL HQL;go_wp2_with fail;refine (HC1.out _ HUT.out).mono ?_;rintro e w' ⟨rfl,rfl⟩;clear HC1 HUT;go_wp2_with fail;refine HC2.out.mono ?_;rintro e w' ⟨rfl,rfl⟩;go_wp2_with fail;refine HBK.out.mono ?_;rintro e w' ⟨k3,rfl,hu3,hgr3⟩;have HU3:=Hd hu3;have HD3:=Hd (HD.out.grown hgr3 (by intro b e _;cases e;show g3≠g1;omega));have HB3:=Hd (below_grown HB.out hgr3 hg1 HB.out.size);clear hu3 hgr3 HBK HC2 HD HB hlt hi;go_wp2
     go_ret3
     exact⟨_,k2,k2,_,k3,k3,rfl,HD3.out,HU3.out,HB3.out⟩
end Go.Proofs.YthlmlmfebpjgdaaGreatDoor
