/-
Lemmas for the statement: NquoT NextT LdT NshrT RofT RtP RatioT.
-/
import Derived.Test.YthlmlmfebpjgdaaGreatDoorM01
import Derived.Test.YthlmlmfebpjgdaaGreatDoorM05
import Derived.Test.YthlmlmfebpjgdaaGreatDoorM04
import Derived.Test.YthlmlmfebpjgdaaGreatDoorM02
import Derived.Laws.FloatArith
import Derived.Laws.Bits128
import Derived.Outline
import Derived.Deep.DeepCutAuto
import Derived.Deep.CutBlock
import Derived.Test.YthlmlmfebpjgdaaGreatDoorM03
set_option linter.unusedSimpArgs false
set_option linter.unusedVariables false
set_option maxHeartbeats 12800000
namespace Go.Proofs.YthlmlmfebpjgdaaGreatDoor
section
open Go.RowKit
theorem nquo_any(A B:Option Addr)(n c m d:Nat)(xs ys:List Nat)(w:World)(hx:U32s w A n c xs)(hy:U32s w B m d ys)(hl1:wlen xs<=16384)(hl2:wlen ys<=16384)(h0:0<num ys):
  Calls Tryz.prog 240 #[.slice A n c,.slice B m d] w (NewQR w (num xs / num ys) (num xs % num ys)):=by
 have HQ1:=Hd (words_q A n c xs w hx);have HQ2:=Hd (words_q B m d ys w hy);have n1:=hx.small;have n2:=hy.small;have cc1:=hx.cap;have cc2:=hy.cap;have l1:=wlen_le xs;have l2:=wlen_le ys;rw [hx.len] at l1;rw [hy.len] at l2;have e1:=num_trim xs;have e2:=num_trim ys;rw [trim_eq_take] at e1 e2;have t1:=wlen_spec ys;have HX0:=hx.take l1;have HY0:=hy.take l2;have hyt:=trim_eq_digs hy.w32;rw [trim_eq_take] at hyt;have hxt:=trim_eq_digs hx.w32;rw [trim_eq_take] at hxt;have hp0:=mt wlen_eq_zero.1 (show ¬ num ys=0 by omega)
 obtain⟨p,hp⟩:∃ p,wlen xs=p:=⟨_,rfl⟩
 obtain⟨q,hq⟩:∃ p,wlen ys=p:=⟨_,rfl⟩
 rw [hp] at HQ1 l1 hl1 e1 HX0 hxt;rw [hq] at HQ2 l2 hl2 e2 HY0 hyt hp0;rw [hq] at t1
 have hyq:(ys.take q)[q - 1]?.getD 0≠0:=by
  rw [List.getElem?_take_of_lt (by omega)]
  rcases t1.2 with h | h
  ·omega
  ·exact h
 obtain⟨us,hus⟩:∃ l,xs.take p=l:=⟨_,rfl⟩
 obtain⟨vs,hvs⟩:∃ l,ys.take q=l:=⟨_,rfl⟩
 rw [hus] at e1 HX0 hxt;rw [hvs] at e2 HY0 hyt hyq
 have wu:wlen us=p:=by rw [hxt,wlen_digs,<- hxt,HX0.len]
 have wv:wlen vs=q:=by rw [hyt,wlen_digs,<- hyt,HY0.len]
 rw [<- e1] at hxt;have HXT:=Hd hxt;rw [<- e1,<- e2];rw [<- e2] at h0;have HX:=Hd HX0;have HY:=Hd HY0;have HV0:=Hd h0;have HYQ:=Hd hyq;have WU:=Hd wu;have WV:=Hd wv
 have hq0:0<q:=by omega
 clear hx hy hp hq e1 e2 HX0 HY0 hus hvs h0 hyq t1 hyt hxt hp0 wu wv
 have hz0:((q:Int) == 0)=false:=by simp;omega
 go_enter Tryz.func240,Tryz.ntmps240
 go_wp2_with fail
 go_quiet ((first | (go_at_call_of 203 (Value.slice A n c);exact Calls.quiet_of_same (HQ1.out _)) | (go_at_call_of 203 (Value.slice B m d);exact Calls.quiet_of_same (HQ2.out _))))
 obtain⟨w1,hw1⟩:∃ w1,w.drewN nq=w1:=⟨_,rfl⟩
 have HB1:=Hd (show Below w.heap.size w w1 from by rw [<- hw1];exact below_drewN (Below.refl _ _) nq);have HX1:=Hd (show U32s w1 A p c us from by rw [<- hw1];exact HX.out.keep (Nat.le_refl _) fun _ _ _=>rfl);have HY1:=Hd (show U32s w1 B q d vs from by rw [<- hw1];exact HY.out.keep (Nat.le_refl _) fun _ _ _=>rfl);rw [hw1];clear hw1 HQ1 HQ2 HX HY
 obtain⟨w2,hw2⟩:∃ w2,w1.alloc (.cells #[.slice A p c,.slice B q d] 40)=w2:=⟨_,rfl⟩
 have hb2:Below w1.heap.size w1 w2:=by rw [<- hw2];exact below_alloc w1 _
 have hx2:=HX1.out.below hb2;have hy2:=HY1.out.below hb2;have HLG:=Hd (long_two w1.heap.size A p c us B q d vs w2 hx2 (by rw [<- hw2];simp [World.cell?_alloc_new]) (by rw [WU.out];exact hl1) hy2 (by rw [<- hw2];simp [World.cell?_alloc_new]) (by rw [WV.out];exact hl2));have HB2:=Hd (HB1.out.trans (hb2.mono HB1.out.size));have HX2:=Hd hx2;have HY2:=Hd hy2;have HW2:=Hd hw2;clear hb2 hx2 hy2 hw2 HX1 HY1 HB1;go_wp2_with fail;rw [HW2.out];refine HLG.out.mono ?_;rintro e w' ⟨rfl,rfl⟩;clear HLG HW2;have HC:=Hd (ncmp_any A B p c q d us vs w2 HX2.out HY2.out)
 obtain⟨cc,ecc⟩:∃ z,cmp3 (num us) (num vs)=z:=⟨_,rfl⟩
 rw [ecc] at HC;have ECC:=Hd ecc;clear ecc;go_wp2_with fail;refine HC.out.mono ?_;rintro e w3 ⟨rfl,k,hk⟩
 have hb3:Below w2.heap.size w2 w3:=by rw [hk];exact below_drewN (Below.refl _ _) k
 have HB3:=Hd (HB2.out.trans (hb3.mono HB2.out.size));have HX3:=Hd (HX2.out.below hb3);have HY3:=Hd (HY2.out.below hb3);clear hb3 hk HC HX2 HY2 HB2 w2
 by_cases hneg:cc<0
 ·have hlt:=ECC.out;have hlt2:num us<num vs:=cmp3_neg.1 (by rw [hlt];exact hneg);have HN:=Hd (nnorm_any A p c us w3 HX3.out);have D1:=Hd (Nat.div_eq_of_lt hlt2);have D2:=Hd (Nat.mod_eq_of_lt hlt2);clear hlt hlt2 ECC;go_wp2_with fail;refine HN.out.mono ?_;rintro e w4 ⟨g,nn,rfl,hl,ha,hg,hb4⟩;have HU:=Hd (ha.u32s' (W32.digs _) hl (by rw [<- HXT.out,HX3.out.len] at hl;omega));have HB4:=Hd (HB3.out.trans (hb4.mono HB3.out.size));clear hl ha hg hb4 HB3 HX3 HY3 HN;go_wp2
  go_ret3
  exact⟨none,0,0,_,nn,nn,rfl,by rw [D1.out,digs_zero];exact U32s.nil _ _ _,by rw [D2.out];exact HU.out,HB4.out⟩
 ·have hge:num vs<=num us:=cmp3_nonneg.1 (by have:=ECC.out;omega);have HGE:=Hd hge;clear ECC hge
  by_cases hq1:q=1
  ·subst hq1;obtain⟨ad,rfl,hc⟩:=HY3.out.cell (j:=0) (by omega);have hy1:=HY3.out.lt 0;have hyy:=HYQ.out
   have hval:num vs=vs[0]?.getD 0:=by
    have:=num_take_next vs 0;rw [List.take_of_length_le (by rw [HY3.out.len];omega)] at this;rw [this];simp [num]
   simp only [Nat.sub_self] at hyy
   obtain⟨y,ey⟩:∃ y,vs[0]?.getD 0=y:=⟨_,rfl⟩
   rw [ey] at hc hy1 hyy hval;rw [show ad.add 0=ad from by simp [Addr.add]] at hc;have HO:=Hd (one_any A p c y us w3 HX3.out hy1 (by omega) (by omega))
   obtain⟨Q,hQ⟩:∃ z,num us / y=z:=⟨_,rfl⟩
   obtain⟨R,hR⟩:∃ z,num us % y=z:=⟨_,rfl⟩
   rw [hQ,hR] at HO;have D1:=Hd (show num us / num vs=Q from by rw [hval,hQ]);have D2:=Hd (show num us % num vs=R from by rw [hval,hR]);clear hval ey hyy hQ hR HGE HX3 HY3 HV0 HYQ WU WV hz0;go_wp2_with fail;refine HO.out.mono ?_;rintro e w4 ⟨A2,n3,c3,B2,m3,d3,rfl,hu,hv,hb4⟩;have HU:=Hd hu;have HV:=Hd hv;have HB4:=Hd (HB3.out.trans (hb4.mono HB3.out.size));clear hu hv hb4 HB3 HO;go_wp2
   go_ret3
   exact⟨_,n3,c3,_,m3,d3,rfl,by rw [D1.out];exact HU.out,by rw [D2.out];exact HV.out,HB4.out⟩
  ·have hq2:2<=q:=by omega
   obtain⟨ad,rfl,hc⟩:=HY3.out.cell (j:=q - 1) (by omega);have hy1:=HY3.out.lt (q - 1);have hyy:=HYQ.out
   obtain⟨y,ey⟩:∃ y,vs[q - 1]?.getD 0=y:=⟨_,rfl⟩
   rw [ey] at hc hy1 hyy
   obtain⟨s,es⟩:∃ s,32 - blen y=s:=⟨_,rfl⟩
   have hts:=top_set (n:=q - 1) (s:=s) (y:=y) HY3.out.w32 (by rw [HY3.out.len];omega) ey es.symm (by omega);rw [show q - 1+1=q from by omega] at hts
   have hby:0<blen y:=by
    rcases Nat.eq_zero_or_pos (blen y) with h | h
    ·rw [blen_eq_zero] at h;omega
    ·exact h
   have hs32:s<32:=by omega
   have HLZ:=Hd fun W=>lead32_any y W hy1;rw [es] at HLZ;have HTS:=Hd hts
   have HSH:=Hd fun A n c xs W (h1:U32s W A n c xs) h2=>((shift_any A n c s xs W h1 hs32 h2).mono (by
    rintro e w' ⟨zs,⟨g,k,rfl,hl,ha,hg,hb⟩,hz,hn,hv⟩
    obtain rfl:k=n+1:=by omega
    exact⟨g,zs,rfl,ha,hb,hg,hz,hn,hv⟩):Calls Tryz.prog 258 #[.slice A n c,.int .i64 (s:Int)] W fun e w'=>∃ g zs,e=.returned (.slice (some ⟨g,0,none⟩) (n+1) (n+1))/\Arr w' g zs/\Below W.heap.size W w'/\W.heap.size<=g/\W32 zs/\zs.length=n+1/\num zs=num xs*2^s)
   clear ey es hts hyy hby HYQ
   have hz1:((q:Int) == 1)=false:=by simp;omega
   have hqq:(q:Int)<=(q:Int)+1:=by omega
   go_wp2_with fail;refine cy (HLZ.out _) ?_;clear HLZ hc;go_wp2_with fail;refine wp_region_held_drew (S:=fun W'=>U32s W' A p c us/\U32s W' (some ad) q d vs/\Below w.heap.size w W') (by kernel_rfl) (by exact⟨HX3.out.drew,HY3.out.drew,HB3.out.drew⟩) (fun hHeld=>?_);refine tks 0 ?_;refine tks 1 ?_;refine tks 3 ?_;refine tks 4 ?_;refine tks 6 ?_;refine tks 7 ?_;refine rdy 2 fun KK hKK=>?_;go_simp;refine (HSH.out _ _ _ _ _ hHeld.1 (by omega)).mono ?_;rintro e w4 ⟨g1,zs,rfl,ha4,hb4,hg4,hz4,hn4,hv4⟩;go_wp2_with fail;refine hKK.out _ _ (⟨hHeld.1.below hb4,hHeld.2.1.below hb4,hHeld.2.2.trans (hb4.mono hHeld.2.2.size)⟩) (fun _=>?_);clear hKK KK hHeld;rename_i hHeld;(try simp only [Act.put,lay]);refine rdy 5 fun KK hKK=>?_;go_simp;refine (HSH.out _ _ _ _ _ hHeld.2.1 (by omega)).mono ?_;rintro e w5 ⟨g2,zt,rfl,ha5,hb5,hg5,hz5,hn5,hv5⟩;go_wp2_with fail;refine hKK.out _ _ (⟨hHeld.1.below hb5,hHeld.2.1.below hb5,hHeld.2.2.trans (hb5.mono hHeld.2.2.size)⟩) (fun _=>?_);clear hKK KK hHeld;rename_i hHeld;(try simp only [Act.put,lay]);refine tks 8 ?_;refine tks 9 ?_;refine tks 10 ?_;refine wpAnyH_done (by kernel_rfl) ?_ _;have HA1:=Hd (ha4.below hb5 ha4.lt);have HB5:=Hd hHeld.2.2;have hg1:w.heap.size<=g1:=Nat.le_trans HB3.out.size hg4;have hg12:g1<g2:=Nat.lt_of_lt_of_le ha4.lt hg5;have tw:=top_word (n:=q - 1) hz5 (by rw [show q - 1+1=q from by omega,hv5];exact HTS.out.1) (by rw [hv5];exact HTS.out.2);rw [show q - 1+1=q from by omega,hv5] at tw;have HVS:=Hd ((ha5.u32s' hz5 hn5 (by omega)).take (k:=q) (by omega))
   obtain⟨vt,hvt⟩:∃ l,zt.take q=l:=⟨_,rfl⟩
   rw [hvt] at tw HVS;have HV1:=Hd tw.1;have HVV:=Hd tw.2;have HVL:=Hd HTS.out.1
   have hpq:q<=p:=by
    rcases Nat.lt_or_ge p q with h | h
    ·exfalso
     have h1:=num_lt HX3.out.w32;rw [HX3.out.len] at h1;have h2:=le_num_wlen (l:=vs) (by rw [WV.out];omega);rw [WV.out] at h2;have h3:2^(32*p)<=2^(32*(q - 1)):=Nat.pow_le_pow_right (by omega) (by omega);have:=HGE.out
     omega
    ·exact h
   obtain⟨L,hL⟩:∃ L,p - q+1=L:=⟨_,rfl⟩
   have eL:(p:Int) - (q:Int)+1=(L:Int):=by omega
   have hLp:L+q=p+1:=by omega
   have HUV:=Hd (show num us<2^(32*p) from by have h:=num_lt HX3.out.w32;rwa [HX3.out.len] at h)
   have HQ0:=Hd (show QuoInv zs (List.replicate L 0) zs (num vs*2^s) L from by
    refine QuoInv.start (n:=q) hz4 (by omega) ?_ ?_
    ·have h:=HTS.out.2
     have h2:2^(32*q)=2^(32*(q - 1))*4294967296:=by rw [show 32*q=32*(q - 1)+32 from by omega,Nat.pow_add]
     omega
    ·rw [hv4];have h:=HTS.out.2
     have h3:2147483648*2^(32*(q - 1))*2^(32*L)=2147483648*2^(32*p):=by rw [Nat.mul_assoc,<- Nat.pow_add];congr 2;omega
     have h4:2147483648*2^(32*(q - 1))*2^(32*L)<=num vs*2^s*2^(32*L):=Nat.mul_le_mul_right _ h;have h5:2^s<=2147483648:=Nat.pow_le_pow_right (n:=2) (by omega) (show s<=31 by omega);have h6:num us*2^s<=num us*2147483648:=Nat.mul_le_mul_left _ h5;have:=HUV.out
     omega)
   have HZV:=Hd hv4;have HZN:=Hd hn4;have HVP:=Hd (show 0<num vs*2^s from Nat.mul_pos HV0.out (Nat.two_pow_pos _));have hmk:=fun W=>make_u32 (N:=(L:Int)) (n:=L) rfl (by omega) W;clear hHeld hb4 hb5 ha4 ha5 hg4 hg5 hz4 hn4 hv4 hz5 hn5 hv5 tw hvt HTS HX3 HY3 HB3 HGE HSH HUV hL;go_wp2
   obtain⟨w6,hw6⟩:∃ W,w5.alloc (.cells (Array.replicate L (wd 0)) 117)=W:=⟨_,rfl⟩
   have HB6:=Hd (show Below w.heap.size w w6 from by rw [<- hw6];exact HB5.out.alloc HB5.out.size _);have HA6:=Hd (show Arr w6 g1 zs from by rw [<- hw6];exact HA1.out.alloc _);have HS6:=Hd (show U32s w6 (some ⟨g2,0,none⟩) q (q+1) vt from by rw [<- hw6];exact HVS.out.alloc _);have HR6:=Hd (show Arr w6 w5.heap.size (List.replicate L 0) from by rw [<- hw6];exact Arr.zeros _ _)
   have hg23:g2<w5.heap.size:=by
    obtain⟨ad',e',h1,h2⟩:=HVS.out.at_ (by omega)
    cases e';exact h1
   obtain⟨g3,hg3⟩:∃ g,w5.heap.size=g:=⟨_,rfl⟩
   rw [hw6];rw [hg3] at hg23 HR6 ⊢;clear hw6 hg3 HA1 HVS HB5 hmk w5
   obtain⟨V,hV⟩:∃ V,num vs*2^s=V:=⟨_,rfl⟩
   rw [hV] at HVV HVL HQ0 HVP;have HVE:=Hd hV;clear hV
   have hqp:(q:Int)<=(p:Int)+1:=by omega
   go_loopw [10,11,74] (fun _ _ iv wr=>∃ (i:Nat) (qs cur:List Nat),iv=.int .i64 i/\i<=L/\QuoInv zs qs cur V (L - i)/\qs.length=L/\Arr wr g3 qs/\Arr wr g1 cur/\U32s wr (some ⟨g2,0,none⟩) q (q+1) vt/\Below w.heap.size w wr) (fun _ _ iv _=>L - (intOf iv).toNat)
   case atStart=>exact⟨0,_,zs,rfl,Nat.zero_le _,HQ0.out,by simp,HR6.out,HA6.out,HS6.out,HB6.out⟩
   case round=>
    obtain⟨i,qs,cur,rfl,hi,hinv,hql,hq3,ha1,hs2,hb⟩:=hrel;clear HQ0 HR6 HA6 HS6 HB6
    have hcl:cur.length=p+1:=by rw [hinv.2.2.1,HZN.out]
    have HI:=Hd hinv;have HQ:=Hd hq3;have HA:=Hd ha1;have HS:=Hd hs2;have HB:=Hd hb;have HQL:=Hd hql;have HCL:=Hd hcl;clear hinv hq3 ha1 hs2 hb
    by_cases hlt:i<L
    ·obtain⟨j,hj⟩:∃ j,L - 1 - i=j:=⟨_,rfl⟩
     have ej:(L:Int) - 1 - (i:Int)=(j:Int):=by omega
     have hjL:(j:Int)<(L:Int):=by omega
     have hjq:j+q+1<=cur.length:=by omega
     have hI2:QuoInv zs qs cur V (j+1):=by have h:=HI.out;rw [show L - i=j+1 from by omega] at h;exact h
     have hz:=hI2.zero hjq HVL.out;have hsp:=split3 hjq;have hst:=fun rs h1 h2 h3=>hI2.step (rs:=rs) hjq HVL.out HVP.out (by omega) h1 h2 h3
     obtain⟨pre,hpre⟩:∃ l,cur.take j=l:=⟨_,rfl⟩
     obtain⟨ws,hws⟩:∃ l,(cur.drop j).take (q+1)=l:=⟨_,rfl⟩
     obtain⟨post,hpost⟩:∃ l,cur.drop (j+(q+1))=l:=⟨_,rfl⟩
     have hww:W32 ws:=by rw [<- hws];exact (hI2.2.1.drop _).take _
     rw [hpre,hws,hpost] at hsp;rw [hpre,hws] at hz;rw [hpre,hws,hpost] at hst
     have hwin:Win wr ⟨g1,j,none⟩ pre ws post:=⟨g1,by rw [hsp.2.1],by rw [<- hsp.1];exact HA.out⟩
     have HDG:=Hd fun c (hc:q+1<=c)=>digit_any ⟨g1,j,none⟩ (some ⟨g2,0,none⟩) q c (q+1) pre ws post vt wr hwin hww HS.out (by intro b e _;cases e;show g2≠g1;omega) hsp.2.2 hc hq2 (by omega) (by rw [HVV.out];exact hz.2.1) HV1.out;rw [HVV.out] at HDG
     obtain⟨D,hD⟩:∃ D,num ws / V=D:=⟨_,rfl⟩
     rw [hD] at HDG hst;have HST:=Hd hst;have HJ:=Hd hj;have hf3:=HQ.out.frozen j;have hcq:=HQ.out.cell (j:=j) (by omega)
     obtain⟨q0,hq0⟩:∃ z,qs[j]?.getD 0=z:=⟨_,rfl⟩
     rw [hq0] at hcq
     have b1:(j:Int)<=(j:Int)+(q:Int)+1:=by omega
     have b2:(j:Int)+(q:Int)+1<=(p:Int)+1:=by omega
     clear hI2 hz hsp hst hpre hws hpost hww hwin hD hj hjq hq0 hql hcl;go_wp2_with fail;rw [show j+q+1 - j=q+1 from by omega];refine (HDG.out _ (by omega)).mono ?_;rintro e w' ⟨rs,rfl,hwin2,hrw2,hrl2,hrv2,hgr2⟩;obtain⟨g',e',ha'⟩:=hwin2
     injection e' with e1 e2
     subst e1;have hq':Arr w' g3 qs:=HQ.out.of_block (hgr2.block g3 HQ.out.lt (by intro e;injection e;omega));have HQ':=Hd (hq'.set j D);have HA':=Hd (ha'.far (p:=⟨g3,j,none⟩) (show g1≠g3 by omega) (wd D));have HS':=Hd ((HS.out.grown hgr2 (by intro b e _;cases e;show g2≠g1;omega)).far (p:=⟨g3,j,none⟩) (by intro b e;cases e;show g2≠g3;omega) (wd D));have HB':=Hd ((below_grown HB.out hgr2 hg1 HB.out.size).setCell (p:=⟨g3,j,none⟩) (show w.heap.size<=g3 by omega) (wd D));have HSN:=Hd (HST.out rs hrw2 hrl2 hrv2).1;have hf3:=hq'.frozen j;have hcq':=hq'.cell (j:=j) (by rw [HQL.out];omega)
     obtain⟨q1,hq1⟩:∃ z,qs[j]?.getD 0=z:=⟨_,rfl⟩
     rw [hq1] at hcq';clear hq1 hq' ha' e2 hrw2 hrl2 hrv2 hgr2 HST HDG HQ HA HS HB HI hcq;go_wp2
     go_roundw
     case rel=>exact⟨i+1,qs.set j D,_,by go_num,by omega,by rw [show L - (i+1)=j from by have:=HJ.out;omega];exact HSN.out,by simp [HQL.out],HQ'.out,HA'.out,HS'.out,HB'.out⟩
     case measure=>simp [intOf];omega
    ·obtain rfl:i=L:=by omega
     have hdn:=HI.out;rw [Nat.sub_self,<- HVE.out] at hdn;have hqd:=hdn.done HZV.out (by rw [HVE.out];exact HVL.out);have hw1:W32 qs:=hdn.1;have hw2:W32 cur:=hdn.2.1;have hut:=(HA.out.u32s' hw2 hcl (by omega)).take (k:=q) (by omega);have hwt:=hut.w32;have hlt':=hut.len;have HC1:=Hd fun W (h:U32s W (some ⟨g1,0,none⟩) q (p+1) (cur.take q))=>cut_any _ _ _ _ _ h;have HUT:=Hd hut
     obtain⟨k1,hk1⟩:∃ k,wlen (cur.take q)=k:=⟨_,rfl⟩
     rw [hk1] at HC1
     have hk1q:k1<=q:=by rw [<- hk1];have:=wlen_le (cur.take q);omega
     have hku:=HQ.out.u32s' hw1 hql (by omega);have HC2:=Hd (cut_any _ _ _ _ _ hku);have HD:=Hd hku.cutd;rw [hqd.1] at HD
     obtain⟨k2,hk2⟩:∃ k,wlen qs=k:=⟨_,rfl⟩
     rw [hk2] at HC2 HD
     have hwin:Win wr ⟨g1,0,none⟩ [] (cur.take k1) (cur.drop k1):=⟨g1,rfl,by simpa using HA.out⟩
     have hnk:num (cur.take k1)=num (cur.take q):=by
      have h:=num_take_all (l:=cur.take q) (n:=k1) (by omega)
      rwa [List.take_take,Nat.min_eq_left hk1q] at h
     have HBK:=Hd (back_win ⟨g1,0,none⟩ k1 k1 s [] (cur.take k1) (cur.drop k1) wr hwin (Nat.le_refl _) (hw2.take _) (by simp;omega) hs32 (by omega));rw [hnk,hqd.2] at HBK;clear hdn hqd hw1 hw2 hut hwt hlt' hk1 hku hk2 hwin hnk HA HQ HI hcl hql HVP HVL HVV HVE HZV HZN HS HCL HQL;go_wp2_with fail;refine cy (HC1.out _ HUT.out) ?_;clear HC1 HUT;go_wp2_with fail;refine HC2.out.mono ?_;rintro e w' ⟨rfl,rfl⟩;go_wp2_with fail;refine HBK.out.mono ?_;rintro e w' ⟨k3,rfl,hu3,hgr3⟩;have HU3:=Hd hu3;have HD3:=Hd (HD.out.grown hgr3 (by intro b e _;cases e;show g3≠g1;omega));have HB3:=Hd (below_grown HB.out hgr3 hg1 HB.out.size);clear hu3 hgr3 HBK HC2 HD HB hlt hi;go_wp2
     go_ret3
     exact⟨_,k2,k2,_,k3,k3,rfl,HD3.out,HU3.out,HB3.out⟩
end
section
open Go.RowKit
attribute [local go_sem] run_store_float run_frombits run_bitsof run_negf
theorem next_up(s:Nat)(w:World)(hs:s<18446744073709551616)(hf:rungOf s<M):Calls Tryz.prog 227 (Zv s 9218868437227405312) w (NextTo w (idx s+1)):=by
 have hM:M=9218868437227405312:=rfl
 have hr:rungOf s<=M:=by omega
 have hc:=pat_cases hs;have hb:=idx_bounds hr;have N1:=Hd (isnanf s w hr);have N2:=Hd (isnanf 9218868437227405312 w real_max);have o1:=ord_lt hr real_max (by rw [idx_max];omega);have o2:=ord_gt real_max hr (by rw [idx_max];omega)
 rcases Int.lt_trichotomy (idx s) 0 with h | h | h
 ·have o3:=ord_lt hr real_zero (by rw [idx_zero];exact h);have hc2:=pat_cases (b:=s - 1) (by omega);have H:=Hd (show s - 1<18446744073709551616/\rungOf (s - 1)<=M/\idx (s - 1)=idx s+1 from by omega)
  have e1:(s:Int) - 1=((s - 1:Nat):Int):=by omega
  have f1:∀ W:World,(callFunc 74 #[.int .u64 ((s:Int) - 1)]).run Tryz.prog W=.ok (.value (.float .f64 (s - 1))) W:=fun W=>by rw [e1];exact run_frombits (s - 1) W
  have b1:0<=(s:Int) - 1/\(s:Int) - 1<18446744073709551616:=by omega
  clear hc hc2 hb h hM e1 hr hf
  go_enter Tryz.func227,Tryz.ntmps227
  go_wp2_with fail;refine N1.out.mono ?_;rintro e w' ⟨rfl,rfl⟩;go_wp2_with fail;refine N2.out.mono ?_;rintro e w' ⟨rfl,rfl⟩;go_wp2
  go_ret
  exact⟨_,rfl,H.out.1,H.out.2.1,H.out.2.2,rfl⟩
 ·have o3:=ord_eq hr real_zero (by rw [idx_zero];exact h);have HC:=Hd (copy_pos w);have f1:∀ W:World,(callFunc 74 #[.int .u64 1]).run Tryz.prog W=.ok (.value (.float .f64 1)) W:=fun W=>run_frombits 1 W;have H:=Hd (show rungOf 1<=M/\idx 1=idx s+1 from⟨by decide,by rw [h];decide⟩);clear hc hb h hM hr hf
  go_enter Tryz.func227,Tryz.ntmps227
  go_wp2_with fail;refine N1.out.mono ?_;rintro e w' ⟨rfl,rfl⟩;go_wp2_with fail;refine N2.out.mono ?_;rintro e w' ⟨rfl,rfl⟩;go_wp2_with fail;refine HC.out.mono ?_;rintro e w' ⟨rfl,rfl⟩;go_wp2
  go_ret
  exact⟨_,rfl,by decide,H.out.1,H.out.2,rfl⟩
 ·have o3:=ord_gt hr real_zero (by rw [idx_zero];exact h);have hc2:=pat_cases (b:=s+1) (by omega);have H:=Hd (show s+1<18446744073709551616/\rungOf (s+1)<=M/\idx (s+1)=idx s+1 from by omega)
  have e1:(s:Int)+1=((s+1:Nat):Int):=by omega
  have f1:∀ W:World,(callFunc 74 #[.int .u64 ((s:Int)+1)]).run Tryz.prog W=.ok (.value (.float .f64 (s+1))) W:=fun W=>by rw [e1];exact run_frombits (s+1) W
  have b1:0<=(s:Int)+1/\(s:Int)+1<18446744073709551616:=by omega
  clear hc hc2 hb h hM e1 hr hf
  go_enter Tryz.func227,Tryz.ntmps227
  go_wp2_with fail;refine N1.out.mono ?_;rintro e w' ⟨rfl,rfl⟩;go_wp2_with fail;refine N2.out.mono ?_;rintro e w' ⟨rfl,rfl⟩;go_wp2
  go_ret
  exact⟨_,rfl,H.out.1,H.out.2.1,H.out.2.2,rfl⟩
theorem next_down(s:Nat)(w:World)(hs:s<18446744073709551616)(hf:rungOf s<M):Calls Tryz.prog 227 (Zv s 18442240474082181120) w (NextTo w (idx s - 1)):=by
 have hM:M=9218868437227405312:=rfl
 have hr:rungOf s<=M:=by omega
 have hc:=pat_cases hs;have hb:=idx_bounds hr;have N1:=Hd (isnanf s w hr);have N2:=Hd (isnanf 18442240474082181120 w real_min);have o1:=ord_gt hr real_min (by rw [idx_min];omega);have o2:=ord_lt real_min hr (by rw [idx_min];omega)
 rcases Int.lt_trichotomy (idx s) 0 with h | h | h
 ·have o3:=ord_lt hr real_zero (by rw [idx_zero];exact h);have hc2:=pat_cases (b:=s+1) (by omega);have H:=Hd (show s+1<18446744073709551616/\rungOf (s+1)<=M/\idx (s+1)=idx s - 1 from by omega)
  have e1:(s:Int)+1=((s+1:Nat):Int):=by omega
  have f1:∀ W:World,(callFunc 74 #[.int .u64 ((s:Int)+1)]).run Tryz.prog W=.ok (.value (.float .f64 (s+1))) W:=fun W=>by rw [e1];exact run_frombits (s+1) W
  have b1:0<=(s:Int)+1/\(s:Int)+1<18446744073709551616:=by omega
  clear hc hc2 hb h hM e1 hr hf
  go_enter Tryz.func227,Tryz.ntmps227
  go_wp2_with fail;refine N1.out.mono ?_;rintro e w' ⟨rfl,rfl⟩;go_wp2_with fail;refine N2.out.mono ?_;rintro e w' ⟨rfl,rfl⟩;go_wp2
  go_ret
  exact⟨_,rfl,H.out.1,H.out.2.1,H.out.2.2,rfl⟩
 ·have o3:=ord_eq hr real_zero (by rw [idx_zero];exact h);have HC:=Hd (copy_neg w);have f1:∀ W:World,(callFunc 74 #[.int .u64 1]).run Tryz.prog W=.ok (.value (.float .f64 1)) W:=fun W=>run_frombits 1 W;have H:=Hd (show rungOf 9223372036854775809<=M/\idx 9223372036854775809=idx s - 1 from⟨by decide,by rw [h];decide⟩);clear hc hb h hM hr hf
  go_enter Tryz.func227,Tryz.ntmps227
  go_wp2_with fail;refine N1.out.mono ?_;rintro e w' ⟨rfl,rfl⟩;go_wp2_with fail;refine N2.out.mono ?_;rintro e w' ⟨rfl,rfl⟩;go_wp2_with fail;refine HC.out.mono ?_;rintro e w' ⟨rfl,rfl⟩;go_wp2
  go_ret
  exact⟨_,rfl,by decide,H.out.1,H.out.2,rfl⟩
 ·have o3:=ord_gt hr real_zero (by rw [idx_zero];exact h);have hc2:=pat_cases (b:=s - 1) (by omega);have H:=Hd (show s - 1<18446744073709551616/\rungOf (s - 1)<=M/\idx (s - 1)=idx s - 1 from by omega)
  have e1:(s:Int) - 1=((s - 1:Nat):Int):=by omega
  have f1:∀ W:World,(callFunc 74 #[.int .u64 ((s:Int) - 1)]).run Tryz.prog W=.ok (.value (.float .f64 (s - 1))) W:=fun W=>by rw [e1];exact run_frombits (s - 1) W
  have b1:0<=(s:Int) - 1/\(s:Int) - 1<18446744073709551616:=by omega
  clear hc hc2 hb h hM e1 hr hf
  go_enter Tryz.func227,Tryz.ntmps227
  go_wp2_with fail;refine N1.out.mono ?_;rintro e w' ⟨rfl,rfl⟩;go_wp2_with fail;refine N2.out.mono ?_;rintro e w' ⟨rfl,rfl⟩;go_wp2
  go_ret
  exact⟨_,rfl,H.out.1,H.out.2.1,H.out.2.2,rfl⟩
def nud(d k e:Int):Int:=if d=-1/\e<0 then k - 1 else if d=1/\0<e then k+1 else k
theorem nudge_any(d:Int)(s e:Nat)(w:World)(hd:d=-1\/d=1)(hs:s<18446744073709551616)(hf:rungOf s<M)(he:rungOf e<=M):
  Calls Tryz.prog 186 #[.int .i64 d,.float .f64 s,.float .f64 e] w fun e' w'=>e'=.returned (.float .f64 (pat (nud d (idx s) (idx e))))/\w=w':=by
 have H1:=Hd (inf_pos w);have H2:=Hd (inf_neg w);have HU:=Hd (next_up s w hs hf);have HD:=Hd (next_down s w hs hf);have HP:=Hd (rplain s w hs (by omega))
 have ho:(idx e<0/\FloatKind.f64.format.order e 0=some .lt)\/(idx e=0/\FloatKind.f64.format.order e 0=some .eq)\/(0<idx e/\FloatKind.f64.format.order e 0=some .gt):=by
  rcases Int.lt_trichotomy (idx e) 0 with h1 | h1 | h1
  ·exact .inl ⟨h1,ord_lt he real_zero (by rw [idx_zero];exact h1)⟩
  ·exact .inr (.inl ⟨h1,ord_eq he real_zero (by rw [idx_zero];exact h1)⟩)
  ·exact .inr (.inr ⟨h1,ord_gt he real_zero (by rw [idx_zero];exact h1)⟩)
 unfold nud;clear he hs hf
 rcases hd with rfl | rfl<;>rcases ho with ⟨h,o1⟩ | ⟨h,o1⟩ | ⟨h,o1⟩
 ·rw [if_pos ⟨rfl,h⟩];clear h
  go_enter Tryz.func186,Tryz.ntmps186
  go_wp2_with fail;refine H2.out.mono ?_;rintro e' w' ⟨rfl,rfl⟩;go_wp2_with fail;refine HD.out.mono ?_;rintro e' w' ⟨r,rfl,r1,r2,r3,rfl⟩;have HQ:=Hd (rplain r w r1 r2);rw [r3] at HQ;clear r1 r2 r3;go_wp2_with fail;refine HQ.out.mono ?_;rintro e' w' ⟨rfl,rfl⟩;go_wp2
  go_ret
  exact⟨rfl,rfl⟩
 ·rw [if_neg (by omega),if_neg (by omega)];clear h
  go_enter Tryz.func186,Tryz.ntmps186
  go_wp2_with fail;refine HP.out.mono ?_;rintro e' w' ⟨rfl,rfl⟩;go_wp2
  go_ret
  exact⟨rfl,rfl⟩
 ·rw [if_neg (by omega),if_neg (by omega)];clear h
  go_enter Tryz.func186,Tryz.ntmps186
  go_wp2_with fail;refine HP.out.mono ?_;rintro e' w' ⟨rfl,rfl⟩;go_wp2
  go_ret
  exact⟨rfl,rfl⟩
 ·rw [if_neg (by omega),if_neg (by omega)];clear h
  go_enter Tryz.func186,Tryz.ntmps186
  go_wp2_with fail;refine HP.out.mono ?_;rintro e' w' ⟨rfl,rfl⟩;go_wp2
  go_ret
  exact⟨rfl,rfl⟩
 ·rw [if_neg (by omega),if_neg (by omega)];clear h
  go_enter Tryz.func186,Tryz.ntmps186
  go_wp2_with fail;refine HP.out.mono ?_;rintro e' w' ⟨rfl,rfl⟩;go_wp2
  go_ret
  exact⟨rfl,rfl⟩
 ·rw [if_neg (by omega),if_pos ⟨rfl,h⟩];clear h
  go_enter Tryz.func186,Tryz.ntmps186
  go_wp2_with fail;refine H1.out.mono ?_;rintro e' w' ⟨rfl,rfl⟩;go_wp2_with fail;refine HU.out.mono ?_;rintro e' w' ⟨r,rfl,r1,r2,r3,rfl⟩;have HQ:=Hd (rplain r w r1 r2);rw [r3] at HQ;clear r1 r2 r3;go_wp2_with fail;refine HQ.out.mono ?_;rintro e' w' ⟨rfl,rfl⟩;go_wp2
  go_ret
  exact⟨rfl,rfl⟩
end
section
open Go.RowKit Ieee
attribute [local go_sem] run_store_float run_frombits run_bitsof run_negf
theorem and_frac{a:Nat}(ha:a<9223372036854775808):bits .andNot .u64 (a:Int) 9218868437227405312=((a % 4503599627370496:Nat):Int):=by
 have h:=u64_andNot_nat a 9218868437227405312 (by omega) (by omega)
 have e:a &&& (18446744073709551615 - 9218868437227405312)=a % 4503599627370496:=by
  have e1:(18446744073709551615 - 9218868437227405312:Nat)=2^63 ||| (2^52 - 1):=by decide
  rw [e1]
  apply Nat.eq_of_testBit_eq
  intro i;rw [Nat.testBit_and,Nat.testBit_or,Nat.testBit_two_pow,Nat.testBit_two_pow_sub_one,show (4503599627370496:Nat)=2^52 from rfl,Nat.testBit_mod_two_pow]
  by_cases h1:i<52
  ·have h2:¬ 63=i:=by omega
   simp [h1,h2]
  ·by_cases h2:63=i
   ·subst h2;have h3:a.testBit 63=false:=Nat.testBit_lt_two_pow (by omega)
    simp [h3]
   ·simp [h1,h2]
 rw [e] at h
 exact h
theorem i64_and2047{n:Nat}(hn:n<2048):bits .and .i64 (n:Int) 2047=(n:Int):=by
 have h1:(BitVec.ofInt 64 2047).toNat=2 ^ 11 - 1:=by decide
 have key:(BitVec.ofInt 64 (n:Int) &&& BitVec.ofInt 64 2047).toNat=((n:Int) % ((2 ^ 64:Nat):Int)).toNat % 2 ^ 11:=by
  rw [BitVec.toNat_and,BitVec.toNat_ofInt,h1,Nat.and_two_pow_sub_one_eq_mod]
 show IntKind.i64.wrap ((BitVec.ofInt 64 (n:Int) &&& BitVec.ofInt 64 2047).toNat:Nat)=(n:Int)
 rw [key,IntKind.wrap_i64]
 omega
theorem float_of_nat{s r:Nat}(h:mag r=s*2^1074)(hr:r<=M):floatOfInt .f64 (s:Int)=r:=by
 have h1:floatOfInt .f64 (s:Int)=double.nearest false s 0:=by
  show FloatKind.f64.nearest (s:Int)=_
  unfold FloatKind.nearest FloatKind.encode;have:decide ((s:Int)<0)=false:=decide_eq_false (by omega);rw [this,Int.natAbs_natCast]
  exact write_num false s 0
 have h2:=nearest_high false s 1074;rw [show (-1074:Int)+((1074:Nat):Int)=0 from rfl] at h2;rw [h1,h2,<- h,word_false];have h3:=nearRung_mag r 0;rw [Nat.pow_zero,Nat.mul_one] at h3;rw [h3];omega
theorem float_of_zero:floatOfInt .f64 ((0:Nat):Int)=0:=by
 obtain⟨U,hU⟩:∃ U,U=1074:=⟨_,rfl⟩
 have h:=float_of_nat (s:=0) (r:=0);rw [<- hU,mag_zero,Nat.zero_mul] at h
 exact h rfl (Nat.zero_le _)
theorem float_of_shift{s r j J:Nat}(h:mag r=s*2^j*2^J)(hj:j+J=1074)(hr:r<=M):floatOfInt .f64 (s:Int)=r:=by
 refine float_of_nat ?_ hr;rw [h,Nat.mul_assoc,<- Nat.pow_add,hj]
theorem mul_bits{x y k:Nat}(hx:fin x)(hy:fin y)(hk:near (val (idx x)*val (idx y)) 1074=(k:Int))(hk0:0<k):floatBits .mul .f64 x y=some k:=by
 obtain⟨r,h1,h2⟩:=mul_fin hx hy;rw [hk] at h2;have h3:=pat_cases h2.lt;have h4:=h2.idx
 have:r=k:=by omega
 subst this
 exact h1
theorem val_two_pow{t U:Nat}{k:Int}(hk:k=(((t+1)*2^52:Nat):Int))(hU:U=52+t):val k=(2:Int)^U:=by
 subst hk hU;rw [val_nat,mag_two_pow,<- Nat.pow_add,Int.natCast_pow];rfl
theorem pow_join_nat{s A B C:Nat}(h:A+B=C):s*2^A*2^B=s*2^C:=by rw [Nat.mul_assoc,<- Nat.pow_add,h]
theorem pow_join{s A B C:Nat}(h:A+B=C):(2:Int)^A*((s*2^B:Nat):Int)=(s:Int)*2^C:=by
 rw [Int.natCast_mul,Int.natCast_pow,<- h,Int.pow_add];have:((2:Nat):Int)=2:=rfl;rw [this];ac_rfl
def LdPre(r F m:Nat):Prop:=r=F*4503599627370496+m/\m<4503599627370496/\1<=F/\F<=2046
theorem ldexp_norm(r F m X:Nat)(e:Int)(w:World)(h:LdPre r F m)(he:-5000<=e/\e<=5000)(hX:(X:Int)=e+F)(h1:1<=X)(h2:X<=2046):
  Calls Tryz.prog 256 #[.float .f64 r,.int .i64 e] w fun e' w'=>e'=.returned (.float .f64 (X*4503599627370496+m))/\w=w':=by
 obtain⟨hr,hm,hF1,hF2⟩:=h;have hM:M=9218868437227405312:=rfl
 have hb:r<18446744073709551616:=by omega
 have hrr:=rung_idx (b:=r) (by omega)
 have hfr:rungOf r<M:=by omega
 have HN:=Hd (isnanf r w (by omega));have HI:=Hd (isinff r w hb (by omega));rw [decide_eq_false (by omega)] at HI;have HA:=Hd (abs_any r w hb);rw [hrr.1] at HA;have o1:=ord_gt (a:=r) (b:=0) (by omega) real_zero (by rw [idx_zero];omega);have hn1:=rung_idx (b:=4503599627370496) (by omega)
 have o2:FloatKind.f64.format.order r 4503599627370496=some .gt\/FloatKind.f64.format.order r 4503599627370496=some .eq:=by
  by_cases h3:r=4503599627370496
  ·exact .inr (ord_eq (by omega) (by omega) (by omega))
  ·exact .inl (ord_gt (by omega) (by omega) (by omega))
 have b1:(r:Int) / 4503599627370496=(F:Int):=by omega
 have b2:=i64_and2047 (n:=F) (by omega);have b3:=and_frac (a:=r) (by omega);rw [show r % 4503599627370496=m from by omega] at b3;have b4:=or_join' (i:=52) (x:=X) (y:=m) (by omega) (by omega) (by omega);rw [show (2:Nat)^52=4503599627370496 from rfl,show ((X*4503599627370496:Nat):Int)=(X:Int)*4503599627370496 from by omega] at b4
 obtain⟨x,hx⟩:∃ x,m+X*4503599627370496=x:=⟨_,rfl⟩
 rw [show X*4503599627370496+m=x from by omega];rw [hx] at b4;have hxr:=rung_idx (b:=x) (by omega)
 have hmul:floatBits .mul .f64 4607182418800017408 x=some x:=by
  have i1:idx 4607182418800017408=4607182418800017408:=by decide
  have v1:val 4607182418800017408=(2:Int)^1074:=val_two_pow (t:=1022) (by decide) (by decide);refine mul_bits (by show rungOf _<M;decide) (by show rungOf _<M;omega) ?_ (by omega);rw [i1,v1,hxr.2,Int.mul_comm,near_val (by omega) (by omega)]
 have HM:=fun W=>run_float_arith (P:=Tryz.prog) W .mul 26 .f64 _ _ _ hmul;have ff:=fun W=>run_frombits x W;have eX:e+(F:Int)=(X:Int):=hX.symm
 have e1:e+((F:Int) - 1023)=(X:Int) - 1023:=by omega
 clear hmul hxr hx hr hrr hn1 hfr hb eX hX
 rcases o2 with o2 | o2
 all_goals
  go_enter Tryz.func256,Tryz.ntmps256
  go_wp2_with (first | (go_at_call 161;refine HI.out.mono ?_;rintro e w' ⟨rfl,rfl⟩) | (go_at_call 221;refine HN.out.mono ?_;rintro e w' ⟨rfl,rfl⟩) | (go_at_call 117;refine HA.out.mono ?_;rintro e w' ⟨rfl,rfl⟩) | go_in)
  go_ret
  exact⟨rfl,rfl⟩
theorem ldexp_over(r F m:Nat)(e:Int)(w:World)(h:LdPre r F m)(he:-5000<=e/\e<=5000)(hX:2046<e+F):
  Calls Tryz.prog 256 #[.float .f64 r,.int .i64 e] w fun e' w'=>e'=.returned (.float .f64 9218868437227405312)/\w=w':=by
 obtain⟨hr,hm,hF1,hF2⟩:=h;have hM:M=9218868437227405312:=rfl
 have hb:r<18446744073709551616:=by omega
 have hrr:=rung_idx (b:=r) (by omega)
 have hfr:rungOf r<M:=by omega
 have HN:=Hd (isnanf r w (by omega));have HI:=Hd (isinff r w hb (by omega));rw [decide_eq_false (by omega)] at HI;have HA:=Hd (abs_any r w hb);rw [hrr.1] at HA;have o1:=ord_gt (a:=r) (b:=0) (by omega) real_zero (by rw [idx_zero];omega);have hn1:=rung_idx (b:=4503599627370496) (by omega)
 have o2:FloatKind.f64.format.order r 4503599627370496=some .gt\/FloatKind.f64.format.order r 4503599627370496=some .eq:=by
  by_cases h3:r=4503599627370496
  ·exact .inr (ord_eq (by omega) (by omega) (by omega))
  ·exact .inl (ord_gt (by omega) (by omega) (by omega))
 have b1:(r:Int) / 4503599627370496=(F:Int):=by omega
 have b2:=i64_and2047 (n:=F) (by omega);have b3:=and_frac (a:=r) (by omega);rw [show r % 4503599627370496=m from by omega] at b3;have HP:=Hd (inf_pos w);have o3:=ord_gt (a:=r) (b:=0) (by omega) real_zero (by rw [idx_zero];omega)
 obtain⟨X,hX2⟩:∃ X:Int,e+(F:Int)=X:=⟨_,rfl⟩
 have e1:e+((F:Int) - 1023)=X - 1023:=by omega
 have hX3:1023<X - 1023:=by omega
 have hX4:X<=7046:=by omega
 clear hr hrr hn1 hfr hb hX hX2
 rcases o2 with o2 | o2
 all_goals
  go_enter Tryz.func256,Tryz.ntmps256
  go_wp2_with (first | (go_at_call 161;refine HI.out.mono ?_;rintro e w' ⟨rfl,rfl⟩) | (go_at_call 221;refine HN.out.mono ?_;rintro e w' ⟨rfl,rfl⟩) | (go_at_call 19;refine HP.out.mono ?_;rintro e w' ⟨rfl,rfl⟩) | (go_at_call 117;refine HA.out.mono ?_;rintro e w' ⟨rfl,rfl⟩) | go_in)
  go_ret
  exact⟨rfl,rfl⟩
theorem ldexp_den(r F m k s:Nat)(e:Int)(w:World)(h:LdPre r F m)(he:-5000<=e/\e<=5000)(hX:e+F=-(k:Int))(hk:k<=52)(hs:(4503599627370496+m)*2^(52 - k)=s*2^53)(hs0:0<s)(hs1:s<4503599627370496):
  Calls Tryz.prog 256 #[.float .f64 r,.int .i64 e] w fun e' w'=>e'=.returned (.float .f64 s)/\w=w':=by
 obtain⟨hr,hm,hF1,hF2⟩:=h;have hM:M=9218868437227405312:=rfl
 have hb:r<18446744073709551616:=by omega
 have hrr:=rung_idx (b:=r) (by omega)
 have hfr:rungOf r<M:=by omega
 have HN:=Hd (isnanf r w (by omega));have HI:=Hd (isinff r w hb (by omega));rw [decide_eq_false (by omega)] at HI;have HA:=Hd (abs_any r w hb);rw [hrr.1] at HA;have o1:=ord_gt (a:=r) (b:=0) (by omega) real_zero (by rw [idx_zero];omega);have hn1:=rung_idx (b:=4503599627370496) (by omega)
 have o2:FloatKind.f64.format.order r 4503599627370496=some .gt\/FloatKind.f64.format.order r 4503599627370496=some .eq:=by
  by_cases h3:r=4503599627370496
  ·exact .inr (ord_eq (by omega) (by omega) (by omega))
  ·exact .inl (ord_gt (by omega) (by omega) (by omega))
 have b1:(r:Int) / 4503599627370496=(F:Int):=by omega
 have b2:=i64_and2047 (n:=F) (by omega);have b3:=and_frac (a:=r) (by omega);rw [show r % 4503599627370496=m from by omega] at b3
 obtain⟨Y,hY⟩:∃ Y,53 - k=Y:=⟨_,rfl⟩
 have b4:=or_join' (i:=52) (x:=Y) (y:=m) (by omega) (by omega) (by omega);rw [show (2:Nat)^52=4503599627370496 from rfl,show ((Y*4503599627370496:Nat):Int)=(Y:Int)*4503599627370496 from by omega] at b4
 obtain⟨x,hx⟩:∃ x,m+Y*4503599627370496=x:=⟨_,rfl⟩
 rw [hx] at b4;have hxr:=rung_idx (b:=x) (by omega)
 have hmul:floatBits .mul .f64 4368491638549381120 x=some s:=by
  have i1:idx 4368491638549381120=4368491638549381120:=by decide
  have v1:val 4368491638549381120=(2:Int)^1021:=val_two_pow (t:=969) (by decide) (by decide)
  have v2:mag x=s*2^53:=by
   have h6:=mag_form (52 - k) (4503599627370496+m) (.inr (by omega)) (by omega);rw [hs] at h6;rw [<- h6];congr 1
   have:Y=52 - k+1:=by omega
   rw [<- hx,this,Nat.add_mul,show (2:Nat)^52=4503599627370496 from rfl,Nat.one_mul];generalize (52 - k)*4503599627370496=P
   omega
  have v3:val (x:Int)=((s*2^53:Nat):Int):=by rw [val_nat,v2]
  refine mul_bits (by show rungOf _<M;decide) (by show rungOf _<M;omega) ?_ hs0;rw [i1,v1,hxr.2,v3,pow_join (s:=s) (A:=1021) (B:=53) (C:=1074) (by decide)]
  have h7:val (s:Int)=(s:Int):=by rw [val_nat,mag_small (show s<2^52 from hs1)]
  have h8:=near_val (i:=(s:Int)) (by omega) (by omega) 1074;rw [h7] at h8
  exact h8
 have HM:=fun W=>run_float_arith (P:=Tryz.prog) W .mul 26 .f64 _ _ _ hmul;have ff:=fun W=>run_frombits x W
 have e1:e+((F:Int) - 1023)=-(k:Int) - 1023:=by omega
 have e2:-(k:Int) - 1023+53+1023=(Y:Int):=by omega
 have e3:-(k:Int) - 1023 < -1022:=by omega
 have hY1:Y<=53:=by omega
 clear hmul hxr hx hr hrr hn1 hfr hb hX hY hs
 rcases o2 with o2 | o2
 all_goals
  go_enter Tryz.func256,Tryz.ntmps256
  go_wp2_with (first | (go_at_call 161;refine HI.out.mono ?_;rintro e w' ⟨rfl,rfl⟩) | (go_at_call 221;refine HN.out.mono ?_;rintro e w' ⟨rfl,rfl⟩) | (go_at_call 117;refine HA.out.mono ?_;rintro e w' ⟨rfl,rfl⟩) | go_in)
  go_ret
  exact⟨rfl,rfl⟩
theorem ldexp_zero(e:Int)(w:World):Calls Tryz.prog 256 #[.float .f64 0,.int .i64 e] w fun e' w'=>e'=.returned (.float .f64 0)/\w=w':=by
 have o1:=ord_eq (a:=0) (b:=0) real_zero real_zero rfl
 go_enter Tryz.func256,Tryz.ntmps256
 go_wp2
 go_ret
 exact⟨rfl,rfl⟩
theorem ldexp_any(s:Nat)(e:Int)(w:World)(hs:s<=9007199254740992)(he:-1074<=e/\e<=971)(hd:e=-1074\/4503599627370496<=s):
  Calls Tryz.prog 256 #[.float .f64 (floatOfInt .f64 (s:Int)),.int .i64 e] w fun e' w'=>e'=.returned (.float .f64 ((e+1074).toNat*4503599627370496+s))/\w=w':=by
 have hM:M=9218868437227405312:=rfl
 by_cases h1:4503599627370496<=s
 ·have hm:=mag_form 1074 s (.inr h1) hs;have hf:floatOfInt .f64 (s:Int)=1074*2^52+s:=float_of_nat hm (by omega);rw [hf,show (1074*2^52+s:Nat)=4836865999795912704+s from rfl]
  by_cases h2:s<9007199254740992
  ·have h:=ldexp_norm (4836865999795912704+s) 1075 (s - 4503599627370496) (e+1075).toNat e w ⟨by omega,by omega,by omega,by omega⟩ (by omega) (by omega) (by omega) (by omega)
   rw [show (e+1075).toNat*4503599627370496+(s - 4503599627370496)=(e+1074).toNat*4503599627370496+s from by
    rw [show (e+1075).toNat=(e+1074).toNat+1 from by omega,Nat.add_mul];omega] at h
   exact h
  ·obtain rfl:s=9007199254740992:=by omega
   by_cases h3:e=971
   ·subst h3
    exact ldexp_over (4836865999795912704+9007199254740992) 1076 0 971 w ⟨by omega,by omega,by omega,by omega⟩ (by omega) (by omega)
   ·have h:=ldexp_norm (4836865999795912704+9007199254740992) 1076 0 (e+1076).toNat e w ⟨by omega,by omega,by omega,by omega⟩ (by omega) (by omega) (by omega) (by omega)
    rw [show (e+1076).toNat*4503599627370496+0=(e+1074).toNat*4503599627370496+9007199254740992 from by
     rw [show (e+1076).toNat=(e+1074).toNat+2 from by omega,Nat.add_mul]] at h
    exact h
 ·obtain rfl:e=-1074:=by omega
  rw [show ((-1074:Int)+1074).toNat=0 from rfl,Nat.zero_mul,Nat.zero_add]
  rcases Nat.eq_zero_or_pos s with h0 | h0
  ·subst h0;rw [float_of_zero]
   exact ldexp_zero _ w
  ·obtain⟨L,b1,b2,b3⟩:=blen_bounds h0;have hL:L<52:=(Nat.pow_lt_pow_iff_right (a:=2) (by omega)).1 (Nat.lt_of_le_of_lt b2 (by omega))
   obtain⟨j,hj⟩:∃ j,L+j=52:=⟨52 - L,by omega⟩
   have c1:4503599627370496<=s*2^j:=by
    rw [show (4503599627370496:Nat)=2^(L+j) from by rw [hj],Nat.pow_add];exact Nat.mul_le_mul_right _ b2
   have c2:s*2^j<9007199254740992:=by
    rw [show (9007199254740992:Nat)=2^(L+1+j) from by rw [show L+1+j=53 from by omega],Nat.pow_add];exact Nat.mul_lt_mul_of_pos_right b3 (Nat.two_pow_pos j)
   have hm:=mag_form (1074 - j) (s*2^j) (.inr c1) (by omega);have hf:floatOfInt .f64 (s:Int)=(1074 - j)*2^52+s*2^j:=float_of_shift hm (show j+(1074 - j)=1074 by omega) (Nat.le_trans (Nat.add_le_add (Nat.mul_le_mul_right (k:=2^52) (show 1074 - j<=1074 by omega)) (Nat.le_of_lt c2)) (by rw [hM];decide));rw [hf];have hs3:s*2^j*2^(52 - (j - 1))=s*2^53:=pow_join_nat (by omega);refine ldexp_den _ (1075 - j) (s*2^j - 4503599627370496) (j - 1) s (-1074) w ⟨?_,by omega,by omega,by omega⟩ (by omega) (by omega) (by omega) ?_ h0 (by omega)
   ·rw [show 1075 - j=1074 - j+1 from by omega,Nat.add_mul,show (2:Nat)^52=4503599627370496 from rfl];omega
   ·rw [show 4503599627370496+(s*2^j - 4503599627370496)=s*2^j from by omega];exact hs3
end
section
open Go.RowKit
theorem low_mask{x s:Nat}(hx:x<4294967296)(hs:s<32):bits .and .u32 (x:Int) ((2^s - 1:Nat):Int)=((x % 2^s:Nat):Int):=by
 have h:=Nat.two_pow_pos s;have h2:2^s<=2^31:=Nat.pow_le_pow_right (by omega) (by omega);rw [u32_and_nat _ _ hx (by omega),Nat.and_two_pow_sub_one_eq_mod]
theorem U32s.dropped{w:World}{ad:Addr}{n c q:Nat}{xs:List Nat}(h:U32s w (some ad) n c xs)(hq:q<n):U32s w (some (ad.add q)) (n - q) (c - q) (xs.drop q):=
 ⟨by rw [List.length_drop,h.len],by have:=h.cap;omega,by have:=h.small;omega,h.w32.drop q,fun hn=>by
   obtain⟨ad',e,hb,hc⟩:=h.at_ (by omega)
   cases e
   refine⟨_,rfl,by rw [block_of_add];exact hb,fun j hj=>?_⟩
   rw [add_of_add,hc _ (by omega),List.getElem?_drop]⟩
def LostInv(us:List Nat)(q s i:Nat)(L:Bool):Prop:=L=decide (num (us.take i)+us[q]?.getD 0 % 2^s≠0)
theorem LostInv.step{us:List Nat}{q s i:Nat}(h:LostInv us q s i false){x:Nat}(hx:us[i]?.getD 0=x):LostInv us q s (i+1) (decide (x≠0)):=by
 unfold LostInv at *;have h1:=of_decide_eq_false h.symm
 have h2:num (us.take i)=0/\us[q]?.getD 0 % 2^s=0:=by omega
 rw [num_take_next,hx,h2.1,h2.2,Nat.zero_add,Nat.add_zero];have hp:=Nat.two_pow_pos (32*i)
 congr 1
 apply propext
 constructor
 ·intro h h3
  rcases Nat.mul_eq_zero.1 h3 with h4 | h4<;>omega
 ·intro h h3;exact h (by rw [h3,Nat.mul_zero])
theorem LostInv.more{us:List Nat}{q s i j:Nat}(h:LostInv us q s i true)(hj:i<=j):LostInv us q s j true:=by
 unfold LostInv at *;have h1:=of_decide_eq_true h.symm;refine (decide_eq_true ?_).symm;intro h2
 apply h1
 have e:=num_take_drop (us.take j) i;rw [List.take_take,Nat.min_eq_left hj] at e
 have h3:num (us.take j)=0:=by omega
 have h4:us[q]?.getD 0 % 2^s=0:=by omega
 rw [h3] at e
 omega
theorem LostInv.done{us:List Nat}{q s k:Nat}{L:Bool}(h:LostInv us q s q L)(hw:W32 us)(hs:s<32)(hk:k=32*q+s):L=decide (num us % 2^k≠0):=by
 unfold LostInv at h;rw [h,hk,right_lost hw q s hs];have hp:=Nat.two_pow_pos (32*q)
 congr 1
 apply propext
 constructor
 ·intro h h3
  apply h
  have h4:2^(32*q)*(us[q]?.getD 0 % 2^s)=0:=by omega
  rcases Nat.mul_eq_zero.1 h4 with h5 | h5<;>omega
 ·intro h h3
  apply h
  have h4:us[q]?.getD 0 % 2^s=0:=by omega
  rw [h4,Nat.mul_zero];omega
theorem down_any(A:Option Addr)(n c k:Nat)(xs:List Nat)(w:World)(hx:U32s w A n c xs)(hl:wlen xs<=16384)(hk:k<=1073741824):
  Calls Tryz.prog 270 #[.slice A n c,.int .i64 (k:Int)] w (NewU32B w (digs (num xs / 2^k)) (decide (num xs % 2^k≠0))):=by
 have HW:=Hd (nwords_any A n c xs w hx);have n1:=hx.small;have c1:=hx.cap;have l1:=wlen_le xs;rw [hx.len] at l1;have e1:=num_trim xs;rw [trim_eq_take] at e1;have h0:=wlen_eq_zero (l:=xs);have hlt:=num_lt_wlen hx.w32;have HX0:=hx.take l1
 obtain⟨p,hp⟩:∃ p,wlen xs=p:=⟨_,rfl⟩
 rw [hp] at HW l1 hl e1 HX0 h0 hlt
 obtain⟨us,hus⟩:∃ l,xs.take p=l:=⟨_,rfl⟩
 rw [hus] at e1 HX0;rw [<- e1] at h0 hlt ⊢
 obtain⟨q,hq⟩:∃ q,k / 32=q:=⟨_,rfl⟩
 obtain⟨s,hs⟩:∃ s,k % 32=s:=⟨_,rfl⟩
 have d1:(k:Int) / 32=(q:Int):=by omega
 have d2:(k:Int) % 32=(s:Int):=by omega
 have ek:k=32*q+s:=by omega
 have hs1:s<32:=by omega
 have hq1:q<=1073741824:=by omega
 have HX:=Hd HX0;have EK:=Hd ek;have HLT:=Hd hlt;have H0:=Hd h0;clear hx hp hus e1 HX0 hq hs ek hlt h0
 by_cases hqp:p<=q
 ·have hz:num us / 2^k=0/\num us % 2^k=num us:=by
   have h1:num us<2^k:=Nat.lt_of_lt_of_le HLT.out (Nat.pow_le_pow_right (by omega) (by have:=EK.out;omega))
   exact⟨Nat.div_eq_of_lt h1,Nat.mod_eq_of_lt h1⟩
  rw [hz.1,hz.2,digs_zero]
  have hb:decide (num us≠0)=decide (0<p):=by
   congr 1
   apply propext
   have:=H0.out
   omega
  rw [hb];clear hz hb
  go_enter Tryz.func270,Tryz.ntmps270
  go_wp2_with fail
  go_step3
  go_wp2_with fail;refine HW.out.mono ?_;rintro e w' ⟨rfl,rfl⟩;go_wp2
  go_ret2
  exact⟨none,0,0,rfl,U32s.nil _ _ _,Below.refl _ _⟩
 ·obtain⟨LF,hLF⟩:∃ L,decide (num us % 2^k≠0)=L:=⟨_,rfl⟩
  rw [hLF];have HLF:=Hd hLF;clear hLF
  have hqp2:¬ (p:Int)<=(q:Int):=by omega
  obtain⟨ad,rfl,hc⟩:=HX.out.cell (j:=q) (by omega);have hx1:=HX.out.lt q
  obtain⟨x,hxx⟩:∃ r,us[q]?.getD 0=r:=⟨_,rfl⟩
  rw [hxx] at hc hx1;have hm:=low_mask hx1 hs1;have hp:=Nat.two_pow_pos s;have hp2:2^s<=2147483648:=Nat.pow_le_pow_right (n:=2) (by omega) (show s<=31 by omega)
  have hL0:LostInv us q s 0 (decide (x % 2^s≠0)):=by
   unfold LostInv;rw [hxx];simp [num]
  have e5:((2:Int)^s)=((2^s:Nat):Int):=by rw [Int.natCast_pow];rfl
  obtain⟨P,hP⟩:∃ P,2^s=P:=⟨_,rfl⟩
  rw [hP] at hm hp hp2 hL0 e5;rw [show ((P - 1:Nat):Int)=(P:Int) - 1 from by omega] at hm
  obtain⟨y,hy⟩:∃ y,x % P=y:=⟨_,rfl⟩
  rw [hy] at hm hL0
  have hw1:IntKind.u32.wrap ((P:Int) - 1)=(P:Int) - 1:=by rw [IntKind.wrap_u32];omega
  have HL0:=Hd hL0;clear hP hL0 hy
  have hi1:(q:Int)<(n:Int):=by omega
  have hi2:(q:Int)<(p:Int):=by omega
  clear hxx
  go_enter Tryz.func270,Tryz.ntmps270
  go_wp2_with fail
  go_step3
  go_wp2_with fail;refine HW.out.mono ?_;rintro e w' ⟨rfl,rfl⟩;go_wp2_with fail
  go_quiet (fail)
  obtain⟨L0,hL0⟩:∃ L,((y:Int) != 0)=L:=⟨_,rfl⟩
  have HLL:=Hd (show LostInv us q s 0 L0 from by
   have h1:=HL0.out;rw [<- hL0]
   have e:decide (y≠0)=((y:Int) != 0):=by
    by_cases h0:y=0
    ·subst h0;rfl
    ·have h2:((y:Int) == 0)=false:=by simp;omega
     simp [h0,bne,h2]
   rwa [e] at h1)
  rw [hL0]
  obtain⟨w1,hw1⟩:∃ w1,w.drewN nq=w1:=⟨_,rfl⟩
  have HB1:=Hd (show Below w.heap.size w w1 from by rw [<- hw1];exact below_drewN (Below.refl _ _) nq);rw [hw1];clear hL0 HL0 hm hw1 e5 hp2 hp hc hx1;go_wp2
  go_step3
  go_wp2
  go_loop [6,7,33,36,38] (fun lv _ iv _ _=>∃ (i:Nat) (L:Bool),iv=.int .i64 i/\lv=.bool L/\i<=q/\LostInv us q s i L) (fun _ _ iv _ _=>q - (intOf iv).toNat)
  case atStart=>exact⟨0,L0,rfl,rfl,Nat.zero_le _,HLL.out⟩
  case round=>
   obtain⟨i,L,rfl,rfl,hi,hinv⟩:=hrel;have HI:=Hd hinv;clear hinv HLL
   by_cases hlt:i<q
   ·cases L
    ·obtain⟨ad',e,hc⟩:=(HX.out.below HB1.out).cell (j:=i) (by omega)
     cases e
     obtain⟨x,hxx⟩:∃ r,us[i]?.getD 0=r:=⟨_,rfl⟩
     rw [hxx] at hc;have HST:=Hd (HI.out.step hxx)
     have hip:(i:Int)<(p:Int):=by omega
     clear hxx HI
     by_cases hx0:x=0
     ·subst hx0;go_wp2
      go_round
      case rel=>exact⟨i+1,false,by go_num,rfl,by omega,HST.out⟩
      case measure=>simp [intOf];omega
     ·have hq:((x:Int) != 0)=true:=by simp;omega
      go_wp2
      go_round
      case rel=>
       refine⟨i+1,true,by go_num,rfl,by omega,?_⟩;have:=HST.out
       rwa [decide_eq_true hx0] at this
      case measure=>simp [intOf];omega
    ·have HDN:=Hd ((HI.out.more (show i<=q by omega)).done HX.out.w32 hs1 EK.out);have HD:=Hd ((HX.out.below HB1.out).dropped (q:=q) (by omega));have HN:=Hd (nnorm_any _ _ _ _ _ HD.out)
     have hlen:(digs (num (us.drop q))).length<=16384:=by
      rw [<- trim_eq_digs HD.out.w32];have h1:=wlen_le (us.drop q);rw [HD.out.len] at h1;have h2:wlen (us.drop q)=(trim (us.drop q)).length:=rfl
      omega
     have hval:num (us.drop q) / 2^s=num us / 2^k:=by
      rw [num_drop HX.out.w32,Nat.div_div_eq_div_mul,<- Nat.pow_add,EK.out]
     have HLEN:=Hd hlen;have HVAL:=Hd hval;clear hlen hval;go_wp2_with fail;refine HN.out.mono ?_;rintro e w2 ⟨g,m,rfl,hm,hA,hg,hb⟩;have hbk:=back_any g m s _ w2 hA (W32.digs _) hm hs1 (by rw [<- hm];have:=HLEN.out;omega);rw [num_digs,HVAL.out] at hbk;have HBK:=Hd hbk;have HB2:=Hd (HB1.out.trans (hb.mono HB1.out.size));have hg2:w.heap.size<=g:=Nat.le_trans HB1.out.size hg;clear hbk hb hm hA hg;go_wp2_with fail;refine HBK.out.mono ?_;rintro e w3 ⟨kk,rfl,hu,hgr⟩;have HU:=Hd hu;have HB3:=Hd (below_grown HB2.out hgr hg2 HB2.out.size);clear hu hgr;go_wp2
     try rw [Exit.noGoto_ret]
     go_ret2
     exact⟨_,kk,kk,by rw [<- HLF.out,<- HDN.out];rfl,HU.out,HB3.out⟩
   ·obtain rfl:i=q:=by omega
    have HDN:=Hd (HI.out.done HX.out.w32 hs1 EK.out);have HD:=Hd ((HX.out.below HB1.out).dropped (q:=i) (by omega));have HN:=Hd (nnorm_any _ _ _ _ _ HD.out)
    have hlen:(digs (num (us.drop i))).length<=16384:=by
     rw [<- trim_eq_digs HD.out.w32];have h1:=wlen_le (us.drop i);rw [HD.out.len] at h1;have h2:wlen (us.drop i)=(trim (us.drop i)).length:=rfl
     omega
    have hval:num (us.drop i) / 2^s=num us / 2^k:=by
     rw [num_drop HX.out.w32,Nat.div_div_eq_div_mul,<- Nat.pow_add,EK.out]
    have HLEN:=Hd hlen;have HVAL:=Hd hval;clear hlen hval;go_wp2_with fail;refine HN.out.mono ?_;rintro e w2 ⟨g,m,rfl,hm,hA,hg,hb⟩;have hbk:=back_any g m s _ w2 hA (W32.digs _) hm hs1 (by rw [<- hm];have:=HLEN.out;omega);rw [num_digs,HVAL.out] at hbk;have HBK:=Hd hbk;have HB2:=Hd (HB1.out.trans (hb.mono HB1.out.size));have hg2:w.heap.size<=g:=Nat.le_trans HB1.out.size hg;clear hbk hb hm hA hg;go_wp2_with fail;refine HBK.out.mono ?_;rintro e w3 ⟨kk,rfl,hu,hgr⟩;have HU:=Hd hu;have HB3:=Hd (below_grown HB2.out hgr hg2 HB2.out.size);clear hu hgr;go_wp2
    try rw [Exit.noGoto_ret]
    go_ret2
    exact⟨_,kk,kk,by rw [<- HLF.out,<- HDN.out];rfl,HU.out,HB3.out⟩
theorem nshr_any(A:Option Addr)(n c k:Nat)(xs:List Nat)(w:World)(hx:U32s w A n c xs)(hl:wlen xs<=16384)(hk:k<=1073741824):
  Calls Tryz.prog 254 #[.slice A n c,.int .i64 (k:Int)] w fun e w'=>
   ∃ A2 n2 c2,e=.returned (.tuple #[.slice A2 n2 c2,.bool (decide (num xs % 2^k≠0)),.int .i64 0])/\U32s w' A2 n2 c2 (digs (num xs / 2^k))/\Below w.heap.size w w':=by
 have HLG:=Hd (long_one w.heap.size A n c xs (w.alloc (.cells #[.slice A n c] 40)) (hx.alloc _) (by simp [World.cell?_alloc_new]) hl);have HD:=Hd (down_any A n c k xs (w.alloc (.cells #[.slice A n c] 40)) (hx.alloc _) hl hk)
 obtain⟨L,hL⟩:∃ L,decide (num xs % 2^k≠0)=L:=⟨_,rfl⟩
 rw [hL] at HD ⊢;clear hx hL
 go_enter Tryz.func254,Tryz.ntmps254
 go_wp2_with fail;refine HLG.out.mono ?_;rintro e w' ⟨rfl,rfl⟩;go_wp2_with fail;refine HD.out.mono ?_;rintro e w2 ⟨A2,n2,c2,rfl,hu,hb⟩;have HU:=Hd hu;have HB:=Hd ((below_alloc w _).trans (hb.mono (below_alloc w _).size));clear hu hb;go_wp2
 go_ret3
 exact⟨A2,n2,c2,rfl,HU.out,HB.out⟩
end
section
open Go.RowKit Ieee
attribute [local go_sem] run_store_float run_frombits run_bitsof run_negf
theorem neg_pat{i:Int}(h0:-(M:Int)<=i)(h1:i<=M)(hi:i≠0):Op.negFloat .f64 (pat i)=pat (-i):=by
 have h:=negFloat_val (pat_lt h0 h1);rw [idx_pat h0 h1,rung_pat h0 h1] at h;have hM:M=9218868437227405312:=rfl;have h2:=pl_real h.1 (by omega);rw [h.2.2] at h2;have hc:=pat_cases h.1;unfold pl at h2;rw [if_neg (by omega),if_neg (by omega)] at h2
 exact h2
theorem beyond_any(d:Int)(neg:Bool)(w:World)(hd:d=-1\/d=1):
  Calls Tryz.prog 253 #[.int .i64 d,.bool neg] w fun e w'=>e=.returned (.float .f64 (pat (sg neg (if (decide (d=1) != neg) then M else M - 1))))/\w=w':=by
 have HP:=Hd (inf_pos w)
 have n1:Op.negFloat .f64 9218868437227405312=18442240474082181120:=by decide
 have n2:Op.negFloat .f64 9218868437227405311=18442240474082181119:=by decide
 rcases hd with rfl | rfl<;>cases neg
 ·rw [show pat (sg false (if (decide ((-1:Int)=1) != false) then M else M - 1))=9218868437227405311 from by decide]
  go_enter Tryz.func253,Tryz.ntmps253
  go_wp2_with fail;refine HP.out.mono ?_;rintro e w' ⟨rfl,rfl⟩;go_wp2
  go_ret
  exact⟨rfl,rfl⟩
 ·rw [show pat (sg true (if (decide ((-1:Int)=1) != true) then M else M - 1))=18442240474082181120 from by decide]
  go_enter Tryz.func253,Tryz.ntmps253
  go_wp2_with fail;refine HP.out.mono ?_;rintro e w' ⟨rfl,rfl⟩;go_wp2
  go_ret
  exact⟨rfl,rfl⟩
 ·rw [show pat (sg false (if (decide ((1:Int)=1) != false) then M else M - 1))=9218868437227405312 from by decide]
  go_enter Tryz.func253,Tryz.ntmps253
  go_wp2_with fail;refine HP.out.mono ?_;rintro e w' ⟨rfl,rfl⟩;go_wp2
  go_ret
  exact⟨rfl,rfl⟩
 ·rw [show pat (sg true (if (decide ((1:Int)=1) != true) then M else M - 1))=18442240474082181119 from by decide]
  go_enter Tryz.func253,Tryz.ntmps253
  go_wp2_with fail;refine HP.out.mono ?_;rintro e w' ⟨rfl,rfl⟩;go_wp2
  go_ret
  exact⟨rfl,rfl⟩
theorem of_nought(d:Int)(neg more:Bool)(A:Option Addr)(n c:Nat)(xs:List Nat)(exp:Int)(w:World)(hx:U32s w A n c xs)(h0:num xs=0):
  Calls Tryz.prog 230 #[.int .i64 d,.bool neg,.slice A n c,.int .i64 exp,.bool more] w fun e w'=>e=.returned (.float .f64 0)/\w=w':=by
 have HL:=Hd (nlen_any A n c xs w hx);rw [h0,blen_zero] at HL
 go_enter Tryz.func230,Tryz.ntmps230
 go_wp2_with fail;refine HL.out.mono ?_;rintro e w' ⟨rfl,rfl⟩;go_wp2
 go_ret
 exact⟨rfl,rfl⟩
def Cutd(S:Nat)(exp E:Int)(v:Nat)(lost more:Bool):Prop:=
 (0<=E - 2 - exp->v=S / 2^(E - 2 - exp).toNat/\(lost=true↔S % 2^(E - 2 - exp).toNat≠0))/\(E - 2 - exp<0->v=S*2^(-(E - 2 - exp)).toNat/\lost=false/\more=false)
theorem of_pos(d:Int)(neg more:Bool)(A:Option Addr)(n c S p q:Nat)(xs:List Nat)(exp:Int)(w:World)(hx:U32s w A n c xs)(hS:num xs=S)(hS0:0<S)(hl:wlen xs<=16384)(hd:d=-1\/d=1)
  (hD:Dg S p q exp more)(hq:0<q)(hmore:more=true->55<=blen S)(he1:-1000000<=exp)(he2:exp<=1099511627776):
  Rt 230 #[.int .i64 d,.bool neg,.slice A n c,.int .i64 exp,.bool more] (.float .f64 (pat (rndI d (rv neg p q)))) w:=by
 have hL:=nlen_any A n c xs w hx;rw [hS] at hL;have hsc:=hD.sc hS0
 have hp:0<p:=by
  obtain⟨U,h1,h2,h3,h4,-⟩:=hD
  rcases Nat.eq_zero_or_pos p with h | h
  ·subst h;have:0<S*2^(exp+U).toNat*q:=Nat.mul_pos (Nat.mul_pos hS0 (Nat.two_pow_pos _)) hq
   omega
  ·exact h
 have hrnd:=(rnd_ans (neg:=neg) hp hq hsc hd).eq;rw [<- hrnd]
 have hbl:blen S<=524288:=by
  obtain⟨K,hK⟩:∃ K,K=524288:=⟨_,rfl⟩
  have h1:=num_lt_wlen hx.w32;rw [hS] at h1;rw [<- hK]
  exact blen_le_iff.2 (Nat.lt_of_lt_of_le h1 (Nat.pow_le_pow_right (by omega) (by omega)))
 have hb0:0<blen S:=by
  rcases Nat.eq_zero_or_pos (blen S) with h | h
  ·rw [blen_eq_zero] at h;omega
  ·exact h
 obtain⟨b,hb⟩:∃ b,blen S=b:=⟨_,rfl⟩
 obtain⟨f,hf⟩:∃ f:Int,(b:Int) - 1+exp=f:=⟨_,rfl⟩
 rw [hb] at hL hsc hmore hbl hb0 hrnd ⊢;rw [hf] at hsc hrnd ⊢
 obtain⟨away,haw⟩:∃ a,(decide (d=1) != neg)=a:=⟨_,rfl⟩
 have HBY:=Hd (beyond_any d neg w hd);rw [haw] at HBY ⊢;have HL:=Hd hL;have HSC:=Hd hsc;have HX:=Hd hx;have HD:=Hd hD;have HAW:=Hd haw;have HS:=Hd hS;have HHD:=Hd hd
 have hqe:((b:Int) == 0)=false:=by simp;omega
 clear hL hsc hx hD haw hS hd hrnd hp
 by_cases hov:1023<f
 ·have hP:ansT p q f away=if away then M else M - 1:=by unfold ansT;rw [if_pos hov]
  rw [<- hP] at HBY
  obtain⟨T,hT⟩:∃ T,pat (sg neg (ansT p q f away))=T:=⟨_,rfl⟩
  rw [hT] at HBY ⊢;clear hP hT
  go_enter Tryz.func230,Tryz.ntmps230
  go_wp2_with fail;refine HL.out.mono ?_;rintro e w' ⟨rfl,rfl⟩;go_wp2_with fail;refine HBY.out.mono ?_;rintro e w' ⟨rfl,rfl⟩;go_wp2
  go_ret
  exact⟨rfl,Below.refl _ _⟩
 ·have hfe:=lastBit_bounds (f:=f) (by omega);have hwlt:=w_lt hq HSC.out;have hwge:=w_ge hq HSC.out
  have hP:ansT p q f away=if away then capT p q (lastBit f) else cutT p q (lastBit f):=by unfold ansT;rw [if_neg hov]
  obtain⟨E,hE⟩:∃ E,lastBit f=E:=⟨_,rfl⟩
  rw [hE] at hfe hwlt hwge hP
  have hE2:max ((b:Int) - 53+exp) (-1074)=E:=by unfold lastBit at hE;split at hE<;>omega
  have HP:=Hd hP
  obtain⟨C,hC⟩:∃ C,E - 2 - exp=C:=⟨_,rfl⟩
  have HC:=Hd hC
  obtain⟨AA,hAA⟩:∃ AA,pat (sg neg (ansT p q f away))=AA:=⟨_,rfl⟩
  rw [hAA];have HAA:=Hd hAA;clear hP hE hAA
  go_enter Tryz.func230,Tryz.ntmps230
  go_wp2_with fail;refine HL.out.mono ?_;rintro e w' ⟨rfl,rfl⟩
  go_upto_if 44 with fail
  clear hC
  obtain⟨cb,hcb⟩:∃ x,decide (0<C)=x:=⟨_,rfl⟩
  rw [hcb];have HCB:=Hd hcb;clear hcb
  go_cut [14,15] from 45 to 58 (fun s14 s15 wx=>∃ A1 n1 c1 lost v,s14=.slice A1 n1 c1/\s15=.bool lost/\U32s wx A1 n1 c1 (digs v)/\Cutd S exp E v lost more/\Below w.heap.size w wx)
  case first=>
   have hC:=HC.out
   by_cases hc:0<C
   ·obtain⟨k,hk⟩:∃ k:Nat,E - 2 - exp=k:=⟨(E - 2 - exp).toNat,by omega⟩
    obtain rfl:C=k:=by omega
    obtain rfl:cb=true:=by rw [<- HCB.out];exact decide_eq_true hc
    have HSH:=Hd (nshr_any A n c k xs w HX.out hl (by omega));rw [HS.out] at HSH;have HCU:=Hd (show Cutd S exp E (S / 2^k) (decide (S % 2^k≠0)) more from⟨fun _=>by rw [hk,Int.toNat_natCast];exact⟨rfl,by simp⟩,fun h=>by omega⟩)
    obtain⟨lost,hlo⟩:∃ l,decide (S % 2^k≠0)=l:=⟨_,rfl⟩
    obtain⟨v,hv⟩:∃ l,S / 2^k=l:=⟨_,rfl⟩
    rw [hlo,hv] at HSH HCU;clear hc HCB hk hC HC hlo hv hE2 hfe hwlt hwge hf hov hmore he1 he2;go_wp2_with fail;refine HSH.out.mono ?_;rintro e w1 ⟨A2,n2,c2,rfl,hu,hb⟩;have HU:=Hd hu;have HB:=Hd hb;clear hu hb;go_wp2_with fail
    go_meet
    exact⟨A2,n2,c2,lost,v,rfl,rfl,HU.out,HCU.out,HB.out⟩
   ·obtain⟨k,hk⟩:∃ k:Nat,-(E - 2 - exp)=k:=⟨(-(E - 2 - exp)).toNat,by omega⟩
    have hmf:E - 2 - exp<0->more=false:=by
     intro h
     cases more with
     | false=>rfl
     | true=>have:=hmore rfl;omega
    have HSH:=Hd (nshl_any A n c k xs w HX.out hl (by rw [HS.out,hb];omega));rw [HS.out] at HSH
    have HCU:=Hd (show Cutd S exp E (S*2^k) false more from⟨fun h=>by
     have hk0:k=0:=by omega
     rw [show (E - 2 - exp).toNat=0 from by omega,hk0]
     simp [Nat.mod_one],fun h=>⟨by rw [hk,Int.toNat_natCast],rfl,hmf h⟩⟩)
    obtain⟨v,hv⟩:∃ l,S*2^k=l:=⟨_,rfl⟩
    rw [hv] at HSH HCU
    have hkb:k<=2000:=by omega
    obtain rfl:C=-(k:Int):=by omega
    obtain rfl:cb=false:=by rw [<- HCB.out];exact decide_eq_false hc
    clear hc;clear HCB hk hC HC hv hmf hE2 hfe hwlt hwge hf hov hmore he1 he2;go_wp2_with fail;refine HSH.out.mono ?_;rintro e w1 ⟨A2,n2,c2,rfl,hu,hb⟩;have HU:=Hd hu;have HB:=Hd hb;clear hu hb;go_wp2_with fail
    go_meet
    exact⟨A2,n2,c2,false,v,rfl,rfl,HU.out,HCU.out,HB.out⟩
  case rest=>
  obtain⟨A1,n1,c1,lost,v,rfl,rfl,hu,hcu,hb1⟩:=hcut;have hda:=digits_at HD.out hq hfe.1 hcu.1 hcu.2
  obtain⟨V,hV⟩:∃ V,marked v (lost || more)=V:=⟨_,rfl⟩
  have hvv:v / 4=V / 4:=by rw [<- hV,marked_div]
  rw [hV] at hda
  have hv64:v<18446744073709551616:=by have:=hda.1;omega
  have hV64:V<18446744073709551616:=by have:=hda.1;omega
  have HWD:=Hd (nword_any A1 n1 c1 (digs v) wc hu (by
   rw [wlen_digs];exact digs_length_le (k:=2) (by omega)))
  rw [num_digs] at HWD;have HB1:=Hd hb1;have HV:=Hd hV;have HDA:=Hd hda;clear hu hcu hb1 hV hda;go_wp2_with fail;refine HWD.out.mono ?_;rintro e w2 ⟨rfl,z,hz⟩;have HB2:=Hd (show Below w.heap.size w w2 from by rw [hz];exact below_drewN HB1.out z);clear hz HB1 HWD
  go_upto_region 13 with fail
  go_cut [67] from 64 to 66 (fun s67 wx=>s67=.bool (lost || more)/\wx=w2)
  case first=>
   cases lost<;>cases more<;>(go_wp2_with fail;go_meet;exact⟨rfl,rfl⟩)
  case rest=>
  obtain⟨rfl,rfl⟩:=hcut
  obtain⟨L,hL⟩:∃ L,(lost || more)=L:=⟨_,rfl⟩
  rw [hL] at HV ⊢;clear hL
  go_upto_if 67 with fail
  go_cut [16] from 68 to 69 (fun s16 wx=>s16=.int .u64 (V:Int)/\wc=wx)
  case first=>
   have hor:bits .or .u64 (v:Int) 1=((2*(v / 2)+1:Nat):Int):=by
    have h:=u64_or_nat v 1 hv64 (by omega);rw [or_one] at h;exact h
   have hv:=HV.out
   cases L
   ·have e:v=V:=by rw [<- hv];rfl
    subst e;go_wp2_with fail
    go_meet
    exact⟨rfl,rfl⟩
   ·have e:2*(v / 2)+1=V:=by rw [<- hv];rfl
    rw [e] at hor;go_wp2_with fail
    go_meet
    exact⟨rfl,rfl⟩
  case rest=>
  obtain⟨rfl,rfl⟩:=hcut
  have h3:bits .and .u64 (V:Int) 3=((V % 4:Nat):Int):=by
   have h:=u64_and_nat V 3 hV64 (by omega);rw [show (3:Nat)=2^2 - 1 from rfl,Nat.and_two_pow_sub_one_eq_mod] at h
   exact h
  obtain⟨R,hR⟩:∃ R,V % 4=R:=⟨_,rfl⟩
  obtain⟨W,hW⟩:∃ W,V / 4=W:=⟨_,rfl⟩
  rw [hR] at h3;have hda:=HDA.out;rw [hR,hW] at hda;rw [<- hda.1] at hwlt hwge
  have h4:(V:Int) / 4=(W:Int):=by omega
  obtain⟨Z,hZ⟩:∃ Z,W+(if away=true/\R≠0 then 1 else 0)=Z:=⟨_,rfl⟩
  have hT:ansT p q f away=(E+1074).toNat*4503599627370496+Z:=by
   rw [HP.out,<- hZ,hda.1];unfold capT cutT
   by_cases hr:R=0
   ·have h5:=hda.2.1 hr;rw [if_pos h5]
    cases away<;>simp [hr]
   ·have h5:¬ upN p E % upM q E=0:=fun h=>hr (hda.2.2 h);rw [if_neg h5]
    cases away<;>simp [hr]
  have hZ1:Z<=9007199254740992:=by rw [<- hZ];split<;>omega
  have hZ2:E=-1074\/4503599627370496<=Z:=by
   by_cases h:-1074<E
   ·right
    have h6:=hwge h
    rw [<- hZ];split<;>omega
   ·left;omega
  have HLD:=Hd fun W'=>ldexp_any Z E W' hZ1 hfe hZ2
  obtain⟨T,hTT⟩:∃ T,(E+1074).toNat*4503599627370496+Z=T:=⟨_,rfl⟩
  have hTM:T<=M:=by
   have hM:M=2045*4503599627370496+9007199254740992:=rfl;rw [<- hTT,hM]
   exact Nat.add_le_add (Nat.mul_le_mul_right _ (by omega)) hZ1
  rw [hTT] at HLD hT;have HT:=Hd hT;have HZ:=Hd hZ;have hWb:W<9007199254740992:=hwlt;clear hT hZ hTT hda hR hW hwlt hwge hZ2 hvv HV hfe HDA HP
  go_upto_block 0 with fail
  go_cut [18] from 74 to 104 (fun s18 wx=>s18=.int .u64 (Z:Int)/\wc=wx)
  case first=>
   have haw:=HAW.out;have hz:=HZ.out
   rcases Nat.eq_zero_or_pos R with hr | hr
   ·subst hr
    have hz2:Z=W:=by rw [<- hz];simp
    subst hz2;clear haw hz
    rcases HHD.out with rfl | rfl<;>cases neg<;>(go_wp2_with fail;go_meet;exact⟨rfl,rfl⟩)
   ·have hr2:¬ R=0:=by omega
    rcases HHD.out with rfl | rfl<;>cases neg<;>simp at haw<;>subst haw<;>simp [hr2] at hz<;>subst hz<;>clear hr2<;>(go_wp2_with fail;go_meet;exact⟨rfl,rfl⟩)
  case rest=>
  obtain⟨rfl,rfl⟩:=hcut;clear HZ HAW;go_wp2_with fail;refine (HLD.out _).mono ?_;rintro e w3 ⟨rfl,rfl⟩;have hTr:=rung_idx (b:=T) (by have hM:M=9218868437227405312:=rfl;omega)
  have hpt:pat (T:Int)=T:=by rw [pat_nn (by omega)];rfl
  have haa:=HAA.out;rw [HT.out] at haa
  cases neg
  ·have e:=Hd (show T=AA by rw [<- haa];exact hpt.symm);clear haa hpt hTr hTM;go_wp2
   go_ret
   exact⟨by rw [<- e.out];rfl,HB2.out⟩
  ·rcases Nat.eq_zero_or_pos T with h0 | h0
   ·subst h0;have ho:=ord_eq (a:=0) (b:=0) real_zero real_zero rfl;have e:=Hd (show 0=AA by rw [<- haa];rfl)
    have hqz:(FloatKind.f64.format.order 0 0 != some Ordering.eq)=false:=by rw [ho];rfl
    clear haa hpt hTr hTM ho;go_wp2
    go_ret
    exact⟨by rw [<- e.out];rfl,HB2.out⟩
   ·have ho:=ord_gt (a:=T) (b:=0) (by omega) real_zero (by rw [idx_zero];omega);have hn:=neg_pat (i:=(T:Int)) (by omega) (by omega) (by omega);rw [hpt] at hn;have e:=Hd (show Op.negFloat .f64 T=AA by rw [<- haa];exact hn);clear hn hpt hTr h0 hTM haa;go_wp2
    go_ret
    exact⟨by rw [<- e.out];rfl,HB2.out⟩
end
section
open Go.RowKit
theorem Dg.quo{N D k:Nat}{exp:Int}(hD:0<D):Dg (N*2^k / D) (N*2^exp.toNat) (D*2^(-exp).toNat) (exp - k) (decide (0<N*2^k % D)):=by
 obtain⟨U,hU⟩:∃ U,3000+exp.natAbs+k=U:=⟨_,rfl⟩
 refine⟨U,by omega,by omega,?_⟩
 obtain⟨E,hE⟩:∃ E,(exp - k+U).toNat=E:=⟨_,rfl⟩
 have e1:N*2^exp.toNat*2^U=N*2^k*(2^E*2^(-exp).toNat):=by
  rw [Nat.mul_assoc,Nat.mul_assoc,<- Nat.pow_add,<- Nat.pow_add,<- Nat.pow_add];congr 2;omega
 have e2:∀ s:Nat,s*2^E*(D*2^(-exp).toNat)=s*D*(2^E*2^(-exp).toNat):=fun s=>by ac_rfl
 have hc:0<2^E*2^(-exp).toNat:=Nat.mul_pos (Nat.two_pow_pos _) (Nat.two_pow_pos _);rw [hE,e1,e2,e2];have h1:=Nat.div_add_mod (N*2^k) D;have h2:=Nat.mod_lt (N*2^k) hD;rw [Nat.mul_comm] at h1;refine⟨Nat.mul_le_mul_right _ (by omega),(Nat.mul_lt_mul_right hc).2 (by rw [Nat.add_mul];omega),?_⟩;rw [Nat.mul_left_inj (by omega)]
 simp only [decide_eq_false_iff_not]
 omega
theorem quo_blen{N D k n m t:Nat}(hN:0<N)(hD:0<D)(hn:blen N=n)(hm:blen D=m)(h:m+t<=n+k)(ht:0<t):t<=blen (N*2^k / D):=by
 have h1:=pow_blen_le hN;have h2:=lt_pow_blen D;rw [hn] at h1;rw [hm] at h2
 have hn0:0<n:=by
  rcases Nat.eq_zero_or_pos n with h0 | h0
  ·rw [h0,blen_eq_zero] at hn;omega
  ·exact h0
 have h3:2^(t - 1)*D<=N*2^k:=by
  have a1:2^(t - 1)*D<=2^(t - 1)*2^m:=Nat.mul_le_mul_left _ (by omega);have a2:2^(n - 1)*2^k<=N*2^k:=Nat.mul_le_mul_right _ h1
  have a3:2^(t - 1)*2^m<=2^(n - 1)*2^k:=by
   rw [<- Nat.pow_add,<- Nat.pow_add];exact Nat.pow_le_pow_right (by omega) (by omega)
  omega
 have h4:2^(t - 1)<=N*2^k / D:=(Nat.le_div_iff_mul_le hD).2 h3
 rcases Nat.lt_or_ge (blen (N*2^k / D)) t with h5 | h5
 ·exfalso
  have h6:=lt_pow_blen (N*2^k / D);have h7:2^blen (N*2^k / D)<=2^(t - 1):=Nat.pow_le_pow_right (by omega) (by omega)
  omega
 ·exact h5
theorem quo_blen_le{N D k n b:Nat}(hn:blen N=n)(h:n+k<=b):blen (N*2^k / D)<=b:=by
 rw [blen_le_iff];have h1:=lt_pow_blen N;rw [hn] at h1;have h2:N*2^k / D<=N*2^k:=Nat.div_le_self _ _;have h3:N*2^k<2^n*2^k:=(Nat.mul_lt_mul_right (Nat.two_pow_pos _)).2 h1;rw [<- Nat.pow_add] at h3;have h4:2^(n+k)<=2^b:=Nat.pow_le_pow_right (by omega) h
 omega
theorem rndI_tiny_pos{p q U:Nat}(hU:U=1074)(hp:0<p)(hq:0<q)(h:p*2^U<q):rndI (-1) (rv false p q)=0/\rndI 1 (rv false p q)=1:=by
 have hx:0<rv false p q:=by
  have h1:=mt (rv_le_false (p:=p) (p':=0) hq (q':=1) (by omega)).1 (by omega);rw [rv_zero] at h1
  grind
 have e1:fl (1:Int)=rv false 1 (2^U):=by
  have:=fl_nat 1 hU
  rwa [mag_small (by decide)] at this
 have hlt:¬ rv false 1 (2^U)<=rv false p q:=by
  rw [rv_le_false (Nat.two_pow_pos _) hq];omega
 have hM:=M_val
 constructor
 ·have h1:=rndI_down (rv false p q);have h2:=(h1.2.2 0 (by omega) (by omega)).2 (by rw [fl_zero];grind);have h3:=mt (h1.2.2 1 (by omega) (by omega)).1 (by rw [e1];exact hlt)
  omega
 ·have h1:=rndI_up (rv false p q);have h2:=(h1.2.2 1 (by omega) (by omega)).2 (by rw [e1];exact (rv_le_false hq (Nat.two_pow_pos _)).2 (by omega));have h3:=mt (h1.2.2 0 (by omega) (by omega)).1 (by rw [fl_zero];grind)
  omega
theorem rndI_tiny{d:Int}{neg:Bool}{p q p' q' U:Nat}(hd:d=-1\/d=1)(hU:U=1074)(hp:0<p)(hq:0<q)(h:p*2^U<q)(hp':0<p')(hq':0<q')(h':p'*2^U<q'):
  rndI d (rv neg p q)=rndI d (rv neg p' q'):=by
 have a:=rndI_tiny_pos hU hp hq h;have b:=rndI_tiny_pos hU hp' hq' h'
 cases neg
 ·rcases hd with rfl | rfl
  ·rw [a.1,b.1]
  ·rw [a.2,b.2]
 ·rw [rv_true,rv_true]
  rcases hd with rfl | rfl
  ·have h1:=rndI_neg (d:=1) (.inr rfl) (rv false p q);have h2:=rndI_neg (d:=1) (.inr rfl) (rv false p' q');rw [show ((-1:Int))=-1 from rfl,h1,h2,a.2,b.2]
  ·have h1:=rndI_neg (d:=-1) (.inl rfl) (rv false p q);have h2:=rndI_neg (d:=-1) (.inl rfl) (rv false p' q');rw [show ((1:Int))=- -1 from rfl,h1,h2,a.1,b.1]
theorem tiny_of{N D n m U:Nat}{exp:Int}(hU:U=1074)(hD:0<D)(hn:blen N=n)(hm:blen D=m)(h:(n:Int) - m+exp < -1100):N*2^exp.toNat*2^U<D*2^(-exp).toNat:=by
 have h1:=lt_pow_blen N;have h2:=pow_blen_le hD;rw [hn] at h1;rw [hm] at h2
 have hm0:0<m:=by
  rcases Nat.eq_zero_or_pos m with h0 | h0
  ·rw [h0,blen_eq_zero] at hm;omega
  ·exact h0
 have a1:N*(2^exp.toNat*2^U)<2^n*(2^exp.toNat*2^U):=(Nat.mul_lt_mul_right (Nat.mul_pos (Nat.two_pow_pos _) (Nat.two_pow_pos _))).2 h1;have a2:2^(m - 1)*2^(-exp).toNat<=D*2^(-exp).toNat:=Nat.mul_le_mul_right _ h2
 have a3:2^n*(2^exp.toNat*2^U)<=2^(m - 1)*2^(-exp).toNat:=by
  rw [<- Nat.pow_add,<- Nat.pow_add,<- Nat.pow_add];exact Nat.pow_le_pow_right (by omega) (by omega)
 rw [Nat.mul_assoc];omega
end
section
open Go.RowKit Ieee
attribute [local go_sem] run_store_float
theorem hold_any(x:Int)(w:World)(h1:-1099511627776<=x)(h2:x<=1099511627776):
  Calls Tryz.prog 239 #[.int .i64 x] w fun e w'=>e=.returned (.int .i64 x)/\w=w':=by
 have e1:max x (-1099511627776)=x:=by omega
 have e2:min x 1099511627776=x:=by omega
 go_enter Tryz.func239,Tryz.ntmps239
 go_wp2
 go_ret
 exact⟨rfl,rfl⟩
def RtOf(w:World)(d:Int)(neg:Bool)(N D:Nat)(exp:Int)(e:Ending)(w':World):Prop:=
 e=.returned (.float .f64 (pat (rndI d (rv neg N D*2^exp))))/\Below w.heap.size w w'
theorem of_quo(d:Int)(neg:Bool)(A:Option Addr)(n c N D k:Nat)(exp:Int)(w:World)(hN:0<N)(hD:0<D)(hb:blen N<=300000)(hk:k<=200000)(h57:blen D+57<=blen N+k)(hu:U32s w A n c (digs (N*2^k / D)))(hd:d=-1\/d=1)
  (he1:-700000<=exp)(he2:exp<=1099511627776):
  Calls Tryz.prog 230 #[.int .i64 d,.bool neg,.slice A n c,.int .i64 (exp - (k:Int)),.bool (decide (0<N*2^k % D))] w (RtOf w d neg N D exp):=by
 have h1:=quo_blen (t:=57) hN hD rfl rfl h57 (by omega);have h2:=quo_blen_le (D:=D) (b:=500000) (k:=k) (N:=N) rfl (by omega)
 have hS:0<N*2^k / D:=by
  rcases Nat.eq_zero_or_pos (N*2^k / D) with h | h
  ·rw [h,blen_zero] at h1;omega
  ·exact h
 have hl:=wlen_digs_le (K:=16384) (S:=N*2^k / D) (by omega);have h:=of_pos d neg (decide (0<N*2^k % D)) A n c (N*2^k / D) (N*2^exp.toNat) (D*2^(-exp).toNat) _ (exp - (k:Int)) w hu (num_digs _) hS hl hd (Dg.quo hD) (Nat.mul_pos hD (Nat.two_pow_pos _)) (fun _=>by omega) (by omega) (by omega);rw [rv_scale neg hD exp] at h
 exact h
theorem long_plain(d:Int)(neg:Bool)(A B:Option Addr)(n c m c2 N D:Nat)(exp:Int)(w:World)(hu:U32s w A n c (digs N))(hv:U32s w B m c2 (digs D))(hN:0<N)(hD:0<D)(hbN:blen N<=300000)(hbD:blen D<=200000)(h57:blen D+57<=blen N)(hd:d=-1\/d=1)
  (he1:-700000<=exp)(he2:exp<=1099511627776):
  Calls Tryz.prog 241 #[.int .i64 d,.bool neg,.slice A n c,.slice B m c2,.int .i64 exp] w (RtOf w d neg N D exp):=by
 have L1:=nlen_any A n c _ w hu;have L2:=nlen_any B m c2 _ w hv;have wN:=wlen_digs_le (K:=16384) (S:=N) (by omega);have wD:=wlen_digs_le (K:=16384) (S:=D) (by omega);have HS:=nshl_any A n c 0 _ w hu wN (by rw [num_digs];omega);rw [num_digs] at L1 L2 HS;rw [Nat.pow_zero,Nat.mul_one] at HS;have hq57:=quo_blen (k:=0) (t:=57) hN hD rfl rfl (by omega) (by omega);have hq2:=quo_blen_le (D:=D) (b:=500000) (k:=0) (N:=N) rfl (by omega);have HF:=Hd fun A n c W h=>of_quo d neg A n c N D 0 exp W hN hD hbN (by omega) (by omega) h hd he1 he2;rw [Nat.pow_zero,Nat.mul_one] at hq57 HF;rw [show ((0:Nat):Int)=0 from rfl] at HS HF;rw [Int.sub_zero] at HF
 obtain⟨bn,hbn⟩:∃ b,blen N=b:=⟨_,rfl⟩
 obtain⟨bd,hbd⟩:∃ b,blen D=b:=⟨_,rfl⟩
 rw [hbn] at L1 hbN h57;rw [hbd] at L2 hbD h57
 have hmx:max 0 ((bd:Int) - (bn:Int))=0:=by omega
 have K1:=Hd L1;have K2:=Hd L2;have KS:=Hd HS;have HV:=Hd hv
 have HQ:=Hd fun A B n c m d W (h1:U32s W A n c (digs N)) (h2:U32s W B m d (digs D))=>(by
  have h:=nquo_any A B n c m d _ _ W h1 h2 wN wD (by rw [num_digs];exact hD)
  rw [num_digs,num_digs] at h;exact h:Calls Tryz.prog 240 #[.slice A n c,.slice B m d] W (NewQR W (N / D) (N % D)))
 obtain⟨Q,hQ⟩:∃ z,N / D=z:=⟨_,rfl⟩
 obtain⟨R,hR⟩:∃ z,N % D=z:=⟨_,rfl⟩
 rw [hQ] at hq57 HQ HF;rw [hR] at HQ HF
 have HL:=Hd fun A n c W (h:U32s W A n c (digs Q))=>(by
  have h:=nlen_any A n c _ W h
  rw [num_digs] at h;exact h:Calls Tryz.prog 232 #[.slice A n c] W fun e w'=>e=.returned (.int .i64 (blen Q:Int))/\W=w')
 obtain⟨bq,hbq⟩:∃ b,blen Q=b:=⟨_,rfl⟩
 rw [hbq] at hq57 HL
 have h57i:¬ (bq:Int)<57:=by omega
 have hlr:=fun (m:Nat) (h:(digs R).length=m)=>(show decide (0<R)=decide (0<m) from by
  rcases Nat.eq_zero_or_pos R with h0 | h0
  ·subst h0;rw [digs_zero] at h;subst h;rfl
  ·have:=digs_len_pos (by omega) h
   rw [decide_eq_true h0,decide_eq_true this])
 have HLR:=Hd hlr;clear hu hv hN hD L1 L2 HS wN wD hq2 hbn hbd hQ hR hbq hlr hq57 h57
 go_enter Tryz.func241,Tryz.ntmps241
 go_wp2_with fail;refine K2.out.mono ?_;rintro e w' ⟨rfl,rfl⟩;go_wp2_with fail;refine K1.out.mono ?_;rintro e w' ⟨rfl,rfl⟩;go_wp2_with fail;refine KS.out.mono ?_;rintro e w1 ⟨A1,n1,c1,rfl,hu1,hb1⟩;have HU1:=Hd hu1;have HV1:=Hd (HV.out.below hb1);have HB1:=Hd hb1;clear hu1 hb1 K1 K2 KS HV;go_wp2_with fail;refine (HQ.out _ _ _ _ _ _ _ HU1.out HV1.out).mono ?_;rintro e w2 ⟨A2,n2,c3,B2,m2,d2,rfl,hq,hr,hb2⟩;have HB2:=Hd (HB1.out.trans (hb2.mono HB1.out.size));have HQ2:=Hd hq;have HRL:=Hd (HLR.out _ hr.len);clear hq hr hb2 HU1 HV1 HB1 HQ HLR;have hi0:max 0 ((bd:Int) - (bn:Int))=0:=hmx;go_wp2
 go_loopw [11,14,15,17,18] (fun kv qv rv _ _ wr=>kv=.int .i64 0/\qv=.slice A2 n2 c3/\rv=.slice B2 m2 d2/\wr=w2) (fun _ _ _ _ _ _=>0)
 case atStart=>exact⟨rfl,rfl,rfl,rfl⟩
 case round=>
  obtain⟨rfl,rfl,rfl,rfl⟩:=hrel;go_wp2_with fail;refine cy (HL.out _ _ _ _ HQ2.out) ?_;go_wp2_with fail;have h:=HF.out _ _ _ _ HQ2.out;rw [HRL.out] at h;refine h.mono ?_;rintro e w3 ⟨rfl,hb3⟩;have HB3:=Hd (HB2.out.trans (hb3.mono HB2.out.size));clear hb3 h;go_wp2
  go_ret
  exact⟨rfl,HB3.out⟩
theorem of_tiny(d:Int)(neg:Bool)(N D:Nat)(exp:Int)(w:World)(hN:0<N)(hD:0<D)(h:(blen N:Int) - blen D+exp < -1100)(hd:d=-1\/d=1):
  Calls Tryz.prog 230 #[.int .i64 d,.bool neg,.slice (some ⟨w.heap.size,0,none⟩) 1 1,.int .i64 (-1200),.bool false] (w.alloc (.cells #[.int .u32 1] 117)) (RtOf w d neg N D exp):=by
 obtain⟨U,hU⟩:∃ U,U=1074:=⟨_,rfl⟩
 obtain⟨V,hV⟩:∃ V,V=1200:=⟨_,rfl⟩
 have e0:(-1200:Int)=-(V:Int):=by omega
 have e1:(-(-(V:Int))).toNat=V:=by omega
 have e2:(-(V:Int)).toNat=0:=by omega
 have hdg:=Dg.exact 1 (-(V:Int));have hx:=U32s.lit1 w 117 (a:=1) (by omega)
 have hb1:blen 1=1:=by decide
 have ht:=tiny_of hU hD rfl rfl h;have h1:=of_pos d neg false (some ⟨w.heap.size,0,none⟩) 1 1 1 _ _ [1] (-(V:Int)) _ hx (by decide) (by omega) (by decide) hd hdg (Nat.two_pow_pos _) (fun h=>by cases h) (by omega) (by omega);rw [e1,e2,Nat.pow_zero] at h1
 have h2:rndI d (rv neg (1*1) (2^V))=rndI d (rv neg (N*2^exp.toNat) (D*2^(-exp).toNat)):=by
  refine rndI_tiny hd hU (by omega) (Nat.two_pow_pos _) ?_ (Nat.mul_pos hN (Nat.two_pow_pos _)) (Nat.mul_pos hD (Nat.two_pow_pos _)) ht;rw [Nat.mul_one,Nat.one_mul]
  exact Nat.pow_lt_pow_right (by omega) (by omega)
 rw [h2,rv_scale neg hD exp] at h1;rw [e0];refine h1.mono ?_;rintro e w' ⟨rfl,hb⟩
 exact⟨rfl,(below_alloc w _).trans (hb.mono (by simp))⟩
theorem ratio_any(d:Int)(neg:Bool)(A B:Option Addr)(n c m c2 N D:Nat)(exp:Int)(w:World)(hu:U32s w A n c (digs N))(hv:U32s w B m c2 (digs D))(hD:0<D)(hbN:blen N<=200000)(hbD:blen D<=150000)(hd:d=-1\/d=1)
  (he1:-1099511627776<=exp)(he2:exp<=1099511627776):
  Calls Tryz.prog 211 #[.int .i64 d,.bool neg,.slice A n c,.slice B m c2,.int .i64 exp] w (RtOf w d neg N D exp):=by
 have L1:=nlen_any A n c _ w hu;have L2:=nlen_any B m c2 _ w hv;rw [num_digs] at L1 L2
 have hbD0:blen D≠0:=fun h=>by rw [blen_eq_zero] at h;omega
 rcases Nat.eq_zero_or_pos N with h0 | hN
 ·subst h0;have K1:=Hd L1;have K2:=Hd L2;rw [blen_zero] at K1
  obtain⟨bd,hbd⟩:∃ b,blen D=b:=⟨_,rfl⟩
  rw [hbd] at K2 hbD hbD0
  have hz:((bd:Int) == 0)=false:=by simp;omega
  have hP:=Hd (show pat (rndI d (rv neg 0 D*2^exp))=0 from by rw [rv_zero,Rat.zero_mul,rndI_zero hd];rfl);clear L1 L2 hbd hu hv hbN
  go_enter Tryz.func211,Tryz.ntmps211
  go_wp2_with fail;refine K1.out.mono ?_;rintro e w' ⟨rfl,rfl⟩;go_wp2_with fail;refine K2.out.mono ?_;rintro e w' ⟨rfl,rfl⟩;clear K1 K2;go_wp2
  go_ret
  exact⟨by rw [hP.out];rfl,Below.refl _ _⟩
 ·have hbN0:blen N≠0:=fun h=>by rw [blen_eq_zero] at h;omega
  have HT:=Hd fun W h=>of_tiny d neg N D exp W hN hD h hd;have HLG:=Hd fun h57 h1=>long_plain d neg A B n c m c2 N D exp w hu hv hN hD (by omega) (by omega) h57 hd h1 he2;have wN:=wlen_digs_le (K:=16384) (S:=N) (by omega)
  have HS:=Hd fun k (hk:blen N+k<=524288)=>(by
   have h:=nshl_any A n c k _ w hu wN (by rw [num_digs];omega)
   rw [num_digs] at h;exact h:Calls Tryz.prog 202 #[.slice A n c,.int .i64 (k:Int)] w (NewU32E w (digs (N*2^k))))
  have HQ:=Hd fun k (hk:blen N+k<=524288) A B n c m d W (h1:U32s W A n c (digs (N*2^k))) (h2:U32s W B m d (digs D))=>(by
   have h:=nquo_any A B n c m d _ _ W h1 h2 (wlen_digs_le (K:=16384) (by rw [blen_shl _ _ hN];omega)) (wlen_digs_le (K:=16384) (by omega)) (by rw [num_digs];exact hD)
   rw [num_digs,num_digs] at h;exact h:Calls Tryz.prog 240 #[.slice A n c,.slice B m d] W (NewQR W (N*2^k / D) (N*2^k % D)))
  have HF:=Hd fun k A n c W hk h57 h h1=>of_quo d neg A n c N D k exp W hN hD (by omega) hk h57 h hd h1 he2;have HH:=Hd fun W=>hold_any exp W he1 he2;have HV:=Hd hv;have K1:=Hd L1;have K2:=Hd L2
  obtain⟨bd,hbd⟩:∃ b,blen D=b:=⟨_,rfl⟩
  obtain⟨bn,hbn⟩:∃ b,blen N=b:=⟨_,rfl⟩
  rw [hbd] at K2 hbD hbD0 HT HLG HF;rw [hbn] at K1 hbN hbN0 HT HLG HS HQ HF
  have hz1:((bd:Int) == 0)=false:=by simp;omega
  have hz2:((bn:Int) == 0)=false:=by simp;omega
  clear L1 L2 hbd hbn hu hv wN hN hD hd hbD0 hbN0
  go_enter Tryz.func211,Tryz.ntmps211
  go_wp2_with fail;refine K1.out.mono ?_;rintro e w' ⟨rfl,rfl⟩;go_wp2_with fail;refine K2.out.mono ?_;rintro e w' ⟨rfl,rfl⟩;clear K1 K2;go_wp2_with fail;refine cy (HH.out _) ?_;clear HH
  by_cases ht:(bn:Int) - (bd:Int)+exp < -1100
  ·have K:=Hd (HT.out w ht);clear HT HLG HS HQ HF HV;go_wp2_with fail;refine K.out.mono ?_;rintro e w' ⟨rfl,hb⟩;have HB:=Hd hb;clear hb K;go_wp2
   go_ret
   exact⟨rfl,HB.out⟩
  ·by_cases hk:57+(bd:Int) - (bn:Int)<=0
   ·have K:=Hd (HLG.out (by omega) (by omega));clear HT HLG HS HQ HF HV;go_wp2_with fail;refine K.out.mono ?_;rintro e w' ⟨rfl,hb⟩;have HB:=Hd hb;clear hb K;go_wp2
    go_ret
    exact⟨rfl,HB.out⟩
   ·obtain⟨k,hkk⟩:∃ k:Nat,57+(bd:Int) - (bn:Int)=(k:Int):=⟨(57+(bd:Int) - (bn:Int)).toNat,by omega⟩
    have hk0:¬ (k:Int)<=0:=by omega
    have KS:=Hd (HS.out k (by omega));have KQ:=Hd (HQ.out k (by omega));have KF:=Hd fun A n c W h=>HF.out k A n c W (by omega) (by omega) h (by omega)
    obtain⟨Q,hQ⟩:∃ z,N*2^k / D=z:=⟨_,rfl⟩
    obtain⟨R,hR⟩:∃ z,N*2^k % D=z:=⟨_,rfl⟩
    rw [hQ] at KQ KF;rw [hR] at KQ KF
    have HLR:=Hd fun (m:Nat) (h:(digs R).length=m)=>(show decide (0<R)=decide (0<m) from by
     rcases Nat.eq_zero_or_pos R with h0 | h0
     ·subst h0;rw [digs_zero] at h;subst h;rfl
     ·have:=digs_len_pos (by omega) h
      rw [decide_eq_true h0,decide_eq_true this])
    have hk2:(k:Int)<=200000:=by omega
    have hk3:¬ (bn:Int) - (bd:Int)+exp < -1100:=ht;clear HT HLG HS HQ HF hQ hR hk;go_wp2_with fail;refine KS.out.mono ?_;rintro e w1 ⟨A1,n1,c1,rfl,hu1,hb1⟩;have HU1:=Hd hu1;have HV1:=Hd (HV.out.below hb1);have HB1:=Hd hb1;clear hu1 hb1 KS HV;go_wp2_with fail;refine (KQ.out _ _ _ _ _ _ _ HU1.out HV1.out).mono ?_;rintro e w2 ⟨A2,n2,c3,B2,m2,d2,rfl,hq,hr,hb2⟩;have HB2:=Hd (HB1.out.trans (hb2.mono HB1.out.size));have HQ2:=Hd hq;have HRL:=Hd (HLR.out _ hr.len);clear hq hr hb2 HU1 HV1 HB1 KQ HLR;go_wp2_with fail;have h:=KF.out _ _ _ _ HQ2.out;rw [HRL.out] at h;refine h.mono ?_;rintro e w3 ⟨rfl,hb3⟩;have HB3:=Hd (HB2.out.trans (hb3.mono HB2.out.size));clear hb3 h KF HRL HQ2 HB2;go_wp2
    go_ret
    exact⟨rfl,HB3.out⟩
end
end Go.Proofs.YthlmlmfebpjgdaaGreatDoor
