/-
Lemmas for the statement: ByMT WordT RoundT PlusT MinusT DsP RaT Lies FlrT OfT MinT WhfT BitsT LeastT Neg6T Bnd QuoT PieceT GoA GoB.
-/
import Derived.Test.YthlmlmfebpjgdaaGreatDoorM03
import Derived.Test.YthlmlmfebpjgdaaGreatDoorM01
import Derived.Deep.DeepCutAuto
import Derived.Deep.CutRange
import Derived.Test.YthlmlmfebpjgdaaGreatDoorM02
import Derived.Laws.Externs
set_option linter.unusedSimpArgs false
set_option linter.unusedVariables false
set_option maxHeartbeats 12800000
set_option maxRecDepth 8000
namespace Go.Proofs.YthlmlmfebpjgdaaGreatDoor
open Go.Proofs.Tryz
open Go.RowKit
set_option maxRecDepth 100000 in
theorem by_main(A B:Option Addr)(n c m d:Nat)(xs ys:List Nat)(w:World)(hx:U32s w A n c xs)(hy:U32s w B m d ys)(hs:n<=1073741824)(hm:m<=1073741824)(h0:0<num ys)(hle:num ys<=num xs):
  Calls prog 182 #[.slice A n c,.slice B m d] w (NewU32s w (digs (num xs / num ys)) (digs (num xs % num ys))):=by
 have hc:=cmp_any A B n c m d xs ys w hx hy
 obtain⟨cv,hcv⟩:∃ cv,cmp3 (num xs) (num ys)=cv:=⟨_,rfl⟩
 have hcv0:¬ cv<0:=by rw [<- hcv,cmp3_neg];omega
 rw [hcv] at hc;have HC:=Hd hc;have HX:=Hd hx;have HY:=Hd hy;have HLE:=Hd hle;have H0:=Hd h0;clear hc hx hy hle hcv
 obtain⟨L,hL⟩:∃ L,blen (num ys)=L:=⟨_,rfl⟩
 have hL0:1<=L:=by
  rw [<- hL];have:=@blen_eq_zero (num ys);omega
 have hL1:L<=32*m:=by
  rw [<- hL,blen_le_iff];have:=num_lt HY.out.w32
  rwa [HY.out.len] at this
 obtain⟨s,hs0⟩:∃ s,31 - (L - 1) % 32=s:=⟨_,rfl⟩
 have hs1:s<=31:=by omega
 have hsI:31 - ((L:Int) - 1) % 32=(s:Int):=by omega
 have HLL:=Hd hL;clear hL h0 hs0
 go_enter func182,ntmps182
 go_wp2_with fail;refine HC.out.mono ?_;rintro e w0 ⟨rfl,k0,rfl⟩;clear HC;have hlen:=len_any B m d ys (w.drewN k0) (HY.out.below (below_drewN (Below.refl _ _) k0));rw [HLL.out] at hlen;have HLEN:=Hd hlen;clear hlen;go_wp2_with fail;refine HLEN.out.mono ?_;rintro e w0 ⟨rfl,rfl⟩;clear HLEN;have hl1:=left_any A n c s xs (w.drewN k0) (HX.out.below (below_drewN (Below.refl _ _) k0)) (by omega) (by omega);have HL1:=Hd hl1;clear hl1;go_wp2_with fail;refine HL1.out.mono ?_;rintro e w1 ⟨Au,nu,cu,rfl,hu,hb1⟩;have hBw1:Below w.heap.size w w1:=(below_drewN (Below.refl _ _) k0).trans hb1;have hl2:=left_any B m d s ys w1 (HY.out.below hBw1) (by omega) (by omega);have HL2:=Hd hl2;have HU:=Hd hu;have HB1:=Hd hBw1;clear hl2 HL1 hu hb1 hBw1;go_wp2_with fail;refine HL2.out.mono ?_;rintro e w2 ⟨Av,nv,cv',rfl,hv,hb2⟩;have HU2:=Hd (HU.out.below hb2);have HV:=Hd hv;have HB2:=Hd (show Below w.heap.size w w2 from HB1.out.trans (hb2.mono HB1.out.size));clear HL2 HU HB1 hv hb2;have hVpos:0<num ys*2^s:=Nat.mul_pos H0.out (Nat.two_pow_pos s)
 have hnu:nu<=n+1:=by
  rw [<- HU2.out.len];refine digs_length_le ?_;have h1:=num_lt HX.out.w32;rw [HX.out.len] at h1
  calc num xs*2^s<2^(32*n)*2^s:=Nat.mul_lt_mul_of_pos_right h1 (Nat.two_pow_pos s)
   _<=2^(32*(n+1)):=by rw [<- Nat.pow_add];exact Nat.pow_le_pow_right (by omega) (by omega)
 have hnv:nv<=m+1:=by
  rw [<- HV.out.len];refine digs_length_le ?_;have h1:=num_lt HY.out.w32;rw [HY.out.len] at h1
  calc num ys*2^s<2^(32*m)*2^s:=Nat.mul_lt_mul_of_pos_right h1 (Nat.two_pow_pos s)
   _<=2^(32*(m+1)):=by rw [<- Nat.pow_add];exact Nat.pow_le_pow_right (by omega) (by omega)
 have hnv0:1<=nv:=by
  have h1:=HV.out.len;have:=@digs_length_eq_zero (num ys*2^s)
  omega
 have HVP:=Hd hVpos;clear hVpos;have hmk1:=fun W=>make_u32 (N:=(nu:Int)) (n:=nu) rfl (by omega) W;have hmk2:=fun W=>make_u32 (N:=(nv:Int)+1) (n:=nv+1) (by omega) (by omega) W;have hdiv1:num xs*2^s / (num ys*2^s)=num xs / num ys:=Nat.mul_div_mul_right _ _ (Nat.two_pow_pos s)
 have hdiv2:num xs*2^s % (num ys*2^s) / 2^s=num xs % num ys:=by rw [Nat.mul_mod_mul_right,Nat.mul_div_cancel _ (Nat.two_pow_pos s)]
 have hUn:num (digs (num xs*2^s))=num xs*2^s:=num_digs _
 obtain⟨U,hU⟩:∃ U,num xs*2^s=U:=⟨_,rfl⟩
 obtain⟨V,hVV⟩:∃ V,num ys*2^s=V:=⟨_,rfl⟩
 rw [hU,hVV] at hdiv1 hdiv2;rw [hU] at HU2 hUn;rw [hVV] at HV HVP;have HD1:=Hd hdiv1;have HD2:=Hd hdiv2;clear hdiv1 hdiv2 hU hVV H0 HLE HX HY hUn HLL;have hul:(digs U).length=nu:=HU2.out.len;have HUL:=Hd hul;clear hul;go_wp2
 go_loopw [11] (fun iv wr=>∃ (i R:Nat) (qs rs:List Nat),iv=.int .i64 ((i:Int) - 1)/\i<=nu/\ByInv (digs U) qs V R i/\Arr wr w2.heap.size qs/\Arr wr (w2.heap.size+1) rs/\W32 rs/\rs.length=nv+1/\num rs=R/\Below w2.heap.size w2 wr) (fun iv _=>(intOf iv+1).toNat)
 case atStart=>
  refine⟨nu,0,List.replicate nu 0,List.replicate (nv+1) 0,rfl,Nat.le_refl _,?_,?_,?_,W32.replicate _,by simp,num_replicate _,?_⟩
  ·have:=ByInv.start (digs U) HVP.out;rw [HUL.out] at this;exact this
  ·exact (Arr.zeros _ _).alloc _
  ·have:=Arr.zeros (w2.alloc (.cells (Array.replicate nu (wd 0)) 117)) (nv+1)
   simpa using this
  ·exact (below_alloc _ _).alloc (by simp) _
 case round=>
  clear hmk1 hmk2;obtain⟨i,R,qs,rs,rfl,hi,hinv,hq,hr,hrw,hrl,hrn,hb⟩:=hrel;have HI:=Hd hinv;have HQ:=Hd hq;have HR:=Hd hr;have HRW:=Hd hrw;have HRL:=Hd hrl;have HRN:=Hd hrn;have HB:=Hd hb;clear hinv hq hr hrw hrl hrn hb
  rcases Nat.eq_zero_or_pos i with hi0 | hi0
  ·subst hi0;obtain⟨e1,e2⟩:=HI.out.done;rw [num_digs] at e1 e2;have hright:=right_any (some ⟨w2.heap.size+1,0,none⟩) (nv+1) (nv+1) s rs wr (HR.out.u32s' HRW.out HRL.out (by omega)) (by omega) (by omega);rw [HRN.out,<- e2,HD2.out] at hright;have HRI:=Hd hright;have E1:=Hd e1;clear hright e1 e2;go_wp2_with fail;refine HRI.out.mono ?_;rintro e w3 ⟨A3,n3,c3,rfl,hu3,hb3⟩;have HU3:=Hd hu3;have hqw:W32 qs:=HI.out.1;have hnorm:=norm_any (some ⟨w2.heap.size,0,none⟩) nu nu qs w3 ((HQ.out.u32s' hqw (by rw [HI.out.2.1,HUL.out]) (by omega)).below hb3) (by omega);rw [trim_eq_digs hqw,<- E1.out,HD1.out] at hnorm;have HN:=Hd hnorm;have HB3:=Hd (show Below w.heap.size w w3 from HB2.out.trans ((HB.out.mono HB2.out.size).trans (hb3.mono (Nat.le_trans HB2.out.size HB.out.size))));clear hnorm HRI hu3 hb3 hqw;go_wp2_with fail;refine HN.out.mono ?_;rintro e w4 ⟨A4,n4,c4,rfl,hu4,hb4⟩;have HF:=Hd (show NewU32s w (digs (num xs / num ys)) (digs (num xs % num ys)) (.returned (.tuple #[.slice A4 n4 c4,.slice A3 n3 c3])) w4 from⟨A4,n4,c4,A3,n3,c3,rfl,hu4,HU3.out.below hb4,HB3.out.trans (hb4.mono HB3.out.size)⟩);clear hu4 hb4 HN;go_wp2
   go_ret2
   exact HF.out
  ·obtain⟨t,rfl⟩:∃ t,i=t+1:=⟨i - 1,by omega⟩
   rw [show (((t+1:Nat):Int) - 1)=(t:Int) from by omega]
   have j0:(0:Int)<=(t:Int):=by omega
   obtain⟨wo,hwo⟩:∃ wo:World,wo=wr:=⟨_,rfl⟩
   subst hwo;go_wp2
   go_loopw [12] (fun jv wr=>∃ (j:Nat) (cur:List Nat),jv=.int .i64 j/\j<=nv/\Moved rs cur j/\Arr wr w2.heap.size qs/\Arr wr (w2.heap.size+1) cur/\Below w2.heap.size w2 wr) (fun jv _=>(intOf jv).toNat)
   case atStart=>exact⟨nv,rs,by go_num,Nat.le_refl _,by have:=Moved.start rs;rw [HRL.out] at this;exact this,HQ.out,HR.out,HB.out⟩
   case round=>
    clear HQ HR HB;obtain⟨j,cur,rfl,hj,hmv,hq,hr,hb⟩:=hrel;have HMV:=Hd hmv;have HQ:=Hd hq;have HR:=Hd hr;have HB:=Hd hb;clear hmv hq hr hb
    rcases Nat.eq_zero_or_pos j with hj0 | hj0
    ·subst hj0;rw [show ((0:Nat):Int)=0 from rfl];obtain⟨ad,rfl,hcu⟩:=(HU2.out.below HB.out).cell (j:=t) (by omega);have hu1:=HU2.out.lt t;have hl:=HMV.out.1;have hf0:=HR.out.frozen 0;have hc0:=HR.out.cell (j:=0) (by rw [hl,HRL.out];omega)
     obtain⟨x1,hx1⟩:∃ x,cur[0]?.getD 0=x:=⟨_,rfl⟩
     rw [hx1] at hc0
     obtain⟨u,hu⟩:∃ u,(digs U)[t]?.getD 0=u:=⟨_,rfl⟩
     rw [hu] at hcu hu1;have hRV:R<V:=HI.out.2.2.2
     have hnum:=HMV.out.done (by intro h;rw [h] at HRL;have:=HRL.out;simp at this) (by
      rw [HRL.out,Nat.add_sub_cancel]
      have h1:num rs<2^(32*nv):=by
       rw [HRN.out];refine Nat.lt_trans hRV ?_;have:=num_lt HV.out.w32
       rwa [HV.out.len,num_digs] at this
      have h2:=num_take_next rs nv;rw [List.take_of_length_le (by rw [HRL.out];exact Nat.le_refl _)] at h2
      rcases Nat.eq_zero_or_pos (rs[nv]?.getD 0) with h3 | h3
      ·exact h3
      ·have:=Nat.le_mul_of_pos_right (2^(32*nv)) h3;omega) u
     rw [HRN.out] at hnum
     have hcw:W32 (cur.set 0 u):=by
      refine W32.of_get fun j=>?_
      by_cases hj1:j=0
      ·subst hj1;rw [List.getElem?_set_self (by rw [hl,HRL.out];omega)];exact hu1
      ·rw [List.getElem?_set_ne (by omega)]
       rcases Nat.lt_or_ge j rs.length with h2 | h2
       ·rw [HMV.out.2 j h2];split
        ·exact HRW.out.get _
        ·exact HRW.out.get _
       ·rw [List.getElem?_eq_none (by rw [hl];exact h2)];simp
     have hT:num (cur.set 0 u)<V*4294967296:=by
      rw [hnum];have:4294967296*(R+1)<=4294967296*V:=Nat.mul_le_mul_left _ hRV
      omega
     obtain⟨T,hTT⟩:∃ T,u+4294967296*R=T:=⟨_,rfl⟩
     rw [hTT] at hnum;rw [hnum] at hT;have HN1:=Hd hnum;have HCW:=Hd hcw;have HT:=Hd hT;have HTT:=Hd hTT;have HUU:=Hd hu;have HRV:=Hd hRV;have HCL:=Hd (show (cur.set 0 u).length=nv+1 by rw [List.length_set,hl,HRL.out]);clear hl hx1 hnum hcw hT hTT hu hRV
     obtain⟨w5,hw5⟩:∃ w5:World,w5=wr:=⟨_,rfl⟩
     subst hw5;go_wp2
     go_loopw [13] (fun dv wr=>∃ (d:Nat) (cur:List Nat),dv=.int .u64 (d:Int)/\d*V+num cur=T/\Arr wr w2.heap.size qs/\Arr wr (w2.heap.size+1) cur/\W32 cur/\cur.length=nv+1/\Below w2.heap.size w2 wr) (fun dv _=>4294967296 - (intOf dv).toNat)
     case atStart=>exact⟨0,_,rfl,by rw [HN1.out];omega,HQ.out.far (by simp) _,HR.out.set _ _,HCW.out,HCL.out,HB.out.setCell (by simp) _⟩
     case round=>
      clear HQ HR HB hcu hf0 hc0 HN1 HCW HCL;obtain⟨dd,cur,rfl,hsum,hq,hr,hcw,hcl,hb⟩:=hrel
      have hd32:dd<4294967296:=by
       rcases Nat.lt_or_ge dd 4294967296 with h | h
       ·exact h
       ·have h1:4294967296*V<=dd*V:=Nat.mul_le_mul_right _ h;rw [Nat.mul_comm] at h1;have:=HT.out;omega
      have hU1:=hr.u32s' hcw hcl (by omega);have hV1:=HV.out.below hb;have hcmp:=cmp_any (some ⟨w2.heap.size+1,0,none⟩) Av (nv+1) (nv+1) nv cv' cur (digs V) _ hU1 hV1;rw [num_digs] at hcmp
      obtain⟨cv2,hcv2⟩:∃ cv,cmp3 (num cur) V=cv:=⟨_,rfl⟩
      rw [hcv2] at hcmp;have HCMP:=Hd hcmp;have HSUM:=Hd hsum;have HQ:=Hd hq;have HR:=Hd hr;have HCW:=Hd hcw;have HCL:=Hd hcl;have HB:=Hd hb;have HV1:=Hd hV1
      by_cases hge:V<=num cur
      ·have g0:0<=cv2:=by rw [<- hcv2,cmp3_nonneg];exact hge
       have HGE:=Hd hge;clear hU1 hV1 hcmp hcv2 hsum hq hr hcw hcl hb hge;go_wp2_with fail;refine HCMP.out.mono ?_;rintro e w6 ⟨rfl,k6,rfl⟩;clear HCMP;have hgs:=guess_at Av (w2.heap.size+1) nv cv' cur (digs V) (World.drewN _ k6) (HR.out.drewN k6) HCW.out (HV1.out.below (below_drewN (Below.refl _ _) k6)) hnv0 HCL.out (by omega) (by rw [num_digs];exact HGE.out) (by rw [num_digs];have:=HT.out;have:=HSUM.out;omega);rw [num_digs] at hgs;have HGS:=Hd hgs;clear hgs;go_wp2_with fail;refine HGS.out.mono ?_;rintro e w7 ⟨x,rfl,hx0,hx1,hx2,k7,rfl⟩;clear HGS;have HX2:=Hd hx2;clear hx2;go_wp2_with fail
       have hsb:=sub_any Av (w2.heap.size+1) (nv+1) nv cv' x cur (digs V) (World.drewN (World.drewN _ k6) k7) ((HR.out.drewN k6).drewN k7) HCW.out (HV1.out.below (below_drewN (below_drewN (Below.refl _ _) k6) k7))
        (by
          intro ad' e;obtain⟨ad2,e2,hlt2,_⟩:=HV.out.at_ (by omega);rw [e] at e2
          injection e2 with e2
          subst e2;omega) HCL.out (by omega) (by omega) hx1 (by rw [num_digs];exact HX2.out)
       rw [num_digs] at hsb;rw [World.drewN_drewN] at hsb;have HSB:=Hd hsb;clear hsb;refine HSB.out.mono ?_;rintro e w8 ⟨cur2,rfl,hr2,hw2,hl2,hn2,hg2⟩;have HR2:=Hd hr2;have HW2:=Hd hw2;have HL2:=Hd hl2;have HN2:=Hd hn2;have HQ2:=Hd (show Arr w8 w2.heap.size qs from (HQ.out.drewN (k6+k7)).of_block (hg2.block _ (HQ.out.drewN (k6+k7)).lt (by simp)));have HB2':=Hd (show Below w2.heap.size w2 w8 from (below_drewN HB.out (k6+k7)).grown hg2 HB.out.size (fun k hk=>by injection hk with hk;omega))
       have hsum2:(dd+x)*V+num cur2=T:=by
        have h1:=HSUM.out;have h2:=HX2.out;rw [hn2,Nat.add_mul];omega
       have hd2:dd+x<4294967296:=by
        rcases Nat.lt_or_ge (dd+x) 4294967296 with h | h
        ·exact h
        ·have h1:4294967296*V<=(dd+x)*V:=Nat.mul_le_mul_right _ h;rw [Nat.mul_comm] at h1;have:=HT.out;omega
       have HS2:=Hd hsum2;clear HSB hr2 hw2 hl2 hn2 hg2 hsum2;go_wp2
       go_roundw
       case rel=>exact⟨dd+x,cur2,by go_num,HS2.out,HQ2.out,HR2.out,HW2.out,HL2.out,HB2'.out⟩
       case measure=>simp [intOf];omega
      ·have g0:¬ 0<=cv2:=by rw [<- hcv2,cmp3_nonneg];omega
       have hlt:num cur<V:=by omega
       have HLT:=Hd hlt;clear hU1 hV1 hcmp hcv2 hsum hq hr hcw hcl hb hge hlt;go_wp2_with fail;refine HCMP.out.mono ?_;rintro e w6 ⟨rfl,k6,rfl⟩;clear HCMP;have hf1:=(HQ.out.drewN k6).frozen t;have hc1:=(HQ.out.drewN k6).cell (j:=t) (by rw [HI.out.2.1,HUL.out];omega)
       obtain⟨y1,hy1⟩:∃ y,qs[t]?.getD 0=y:=⟨_,rfl⟩
       rw [hy1] at hc1;have hst:=HI.out.step (i:=t) (d:=dd) (R':=num cur) (by rw [HUL.out];omega) hd32 (by rw [HUU.out,HTT.out,HSUM.out]) HLT.out;have HST:=Hd hst;clear hst hy1
       have m1:(dd:Int) % 4294967296=(dd:Int):=by omega
       go_wp2
       go_roundw
       case rel=>exact⟨t,num cur,qs.set t dd,cur,by go_num,by omega,HST.out,(HQ.out.drewN k6).set _ _,(HR.out.drewN k6).far (by simp) _,HCW.out,HCL.out,rfl,(below_drewN HB.out k6).setCell (by simp) _⟩
       case measure=>simp [intOf]
    ·obtain⟨j,rfl⟩:∃ i,j=i+1:=⟨j - 1,by omega⟩
     have hl:=HMV.out.1;have hc0:=HR.out.cell (j:=j) (by rw [hl,HRL.out];omega);have hc1:=HR.out.cell (j:=j+1) (by rw [hl,HRL.out];omega);have hf1:=HR.out.frozen (j+1);have hv0:=HMV.out.2 j (by rw [HRL.out];omega);rw [if_neg (by omega)] at hv0;rw [hv0] at hc0
     obtain⟨x1,hx1⟩:∃ x,cur[j+1]?.getD 0=x:=⟨_,rfl⟩
     rw [hx1] at hc1;have HMS:=Hd (HMV.out.step (by rw [HRL.out];omega))
     obtain⟨x0,hx0⟩:∃ x,rs[j]?.getD 0=x:=⟨_,rfl⟩
     rw [hx0] at hc0 HMS;clear hl hv0 hx1 hx0;rw [show ((j+1:Nat):Int)=(j:Int)+1 from by omega]
     have i4:((j:Int)+1).toNat=j+1:=by omega
     have i5:((j:Int)+1)<((nv+1:Nat):Int):=by omega
     go_wp2
     go_roundw
     case rel=>exact⟨j,_,by go_num,by omega,HMS.out,HQ.out.far (by simp) _,HR.out.set _ _,HB.out.setCell (by simp) _⟩
     case measure=>simp [intOf]
section
open Go.RowKit
end
def fdec(p q:Nat)(f:Int):Bool:=if 0<=f then decide (p<q*2^f.toNat) else decide (p*2^(-f).toNat<q)
def fout(p q:Nat)(f:Int):Int:=if fdec p q f then f - 1 else f
theorem fout_sc{p q:Nat}{f:Int}(hp:0<p)(hq:0<q)(hf:f=(blen p:Int) - blen q):Sc p q (fout p q f):=by
 unfold fout
 by_cases h:fdec p q f=true
 ·rw [if_pos h];unfold fdec at h;refine scale_down hp hq hf (fun h0=>?_) (fun h0=>?_)
  ·rw [if_pos h0] at h;exact of_decide_eq_true h
  ·rw [if_neg (by omega)] at h;exact of_decide_eq_true h
 ·rw [if_neg h];unfold fdec at h;refine scale_keep hp hq hf (fun h0=>?_) (fun h0=>?_)
  ·rw [if_pos h0] at h;simp at h;exact h
  ·rw [if_neg (by omega)] at h;simp at h;exact h
theorem plus_any(A B:Option Addr)(n c m d:Nat)(xs ys:List Nat)(w:World)(hx:U32s w A n c xs)(hy:U32s w B m d ys)(hs1:n<=34359738360)(hs2:m<=34359738360):
  Calls prog 97 #[.slice A n c,.slice B m d] w (NewU32 w (digs (num xs+num ys))):=by
 have HX:=Hd hx;have HY:=Hd hy;clear hx hy
 go_enter func97,ntmps97
 go_wp2
 go_loopw [5,6,7] (fun v cv iv wr=>∃ (i k:Nat) (ls:List Nat),iv=.int .i64 i/\cv=.int .u64 k/\i<=max n m/\PlusInv xs ys ls i k/\Own wr w.heap.size v ls/\Below w.heap.size w wr) (fun _ _ iv _=>max n m - (intOf iv).toNat)
 case atStart=>exact⟨0,0,[],rfl,rfl,Nat.zero_le _,PlusInv.start _ _,Own.nil _ _,Below.refl _ _⟩
 case round=>
  obtain⟨i,k,ls,rfl,rfl,hi,hinv,hown,hb⟩:=hrel;have hk1:=hinv.carry;have hlen:=hinv.len;have HI:=Hd hinv;have HO:=Hd hown;clear hinv hown;have hbs:=hb.size;have HL:=Hd hlen;clear hlen
  by_cases ha:i<n
  ·obtain⟨ad,e,hc⟩:=(HX.out.below hb).cell (j:=i) ha
   cases e
   have hx1:=HX.out.lt i
   by_cases hbb:i<m
   ·obtain⟨ad',e,hc'⟩:=(HY.out.below hb).cell (j:=i) hbb
    cases e
    have hy1:=HY.out.lt i;have hm:=mask32_i (a:=(k:Int)+((xs[i]?.getD 0:Nat):Int)+((ys[i]?.getD 0:Nat):Int)) (by omega) (by omega)
    go_wp2_with (at_builtin;refine wpList_append_u32 _ rfl _ _ rfl w.heap.size _ ls rfl (HO.out.alloc _) ⟨_,0,none⟩ 1 ((k+xs[i]?.getD 0+ys[i]?.getD 0) % 4294967296) rfl ?c1 ?c2 ?c3 ?_)
    case c1=>simp
    case c2=>rw [HL.out];omega
    case c3=>simp;omega
    intro v' w' hown' hgrow;have HO':=Hd hown';have hb':Below w.heap.size w w':=(hb.alloc hbs _).grown hgrow (by simp;omega) (fun g hg=>(HO.out.lt g hg).1);clear hown' hb hgrow hc hc' hbs hm;go_wp2
    go_roundw
    case rel=>exact⟨i+1,(k+xs[i]?.getD 0+ys[i]?.getD 0) / 4294967296,_,by go_num,by go_num,by omega,HI.out.step HX.out.w32 HY.out.w32 (by rfl),HO'.out,hb'⟩
    case measure=>simp [intOf];omega
   ·have HZ:=Hd (show ys[i]?.getD 0=0 by rw [List.getElem?_eq_none (by rw [HY.out.len];omega)];rfl);have hm:=mask32_i (a:=(k:Int)+((xs[i]?.getD 0:Nat):Int)) (by omega) (by omega)
    go_wp2_with (at_builtin;refine wpList_append_u32 _ rfl _ _ rfl w.heap.size _ ls rfl (HO.out.alloc _) ⟨_,0,none⟩ 1 ((k+xs[i]?.getD 0) % 4294967296) rfl ?c1 ?c2 ?c3 ?_)
    case c1=>simp
    case c2=>rw [HL.out];omega
    case c3=>simp;omega
    intro v' w' hown' hgrow;have HO':=Hd hown';have hb':Below w.heap.size w w':=(hb.alloc hbs _).grown hgrow (by simp;omega) (fun g hg=>(HO.out.lt g hg).1);clear hown' hb hgrow hc hbs hm;go_wp2
    go_roundw
    case rel=>exact⟨i+1,(k+xs[i]?.getD 0) / 4294967296,_,by go_num,by go_num,by omega,HI.out.step HX.out.w32 HY.out.w32 (by rw [HZ.out];rfl),HO'.out,hb'⟩
    case measure=>simp [intOf];omega
  ·have HZ:=Hd (show xs[i]?.getD 0=0 by rw [List.getElem?_eq_none (by rw [HX.out.len];omega)];rfl)
   by_cases hbb:i<m
   ·obtain⟨ad',e,hc'⟩:=(HY.out.below hb).cell (j:=i) hbb
    cases e
    have hy1:=HY.out.lt i;have hm:=mask32_i (a:=(k:Int)+((ys[i]?.getD 0:Nat):Int)) (by omega) (by omega)
    go_wp2_with (at_builtin;refine wpList_append_u32 _ rfl _ _ rfl w.heap.size _ ls rfl (HO.out.alloc _) ⟨_,0,none⟩ 1 ((k+ys[i]?.getD 0) % 4294967296) rfl ?c1 ?c2 ?c3 ?_)
    case c1=>simp
    case c2=>rw [HL.out];omega
    case c3=>simp;omega
    intro v' w' hown' hgrow;have HO':=Hd hown';have hb':Below w.heap.size w w':=(hb.alloc hbs _).grown hgrow (by simp;omega) (fun g hg=>(HO.out.lt g hg).1);clear hown' hb hgrow hc' hbs hm;go_wp2
    go_roundw
    case rel=>exact⟨i+1,(k+ys[i]?.getD 0) / 4294967296,_,by go_num,by go_num,by omega,HI.out.step HX.out.w32 HY.out.w32 (by rw [HZ.out];rfl),HO'.out,hb'⟩
    case measure=>simp [intOf];omega
   ·have hd:=HI.out.done (by rw [HX.out.len];omega) (by rw [HY.out.len];omega);have HD:=Hd hd;clear hd
    go_wp2_with (at_builtin;refine wpList_append_u32 _ rfl _ _ rfl w.heap.size _ ls rfl (HO.out.alloc _) ⟨_,0,none⟩ 1 k rfl ?c1 ?c2 ?c3 ?_)
    case c1=>simp
    case c2=>rw [HL.out];omega
    case c3=>simp;omega
    intro v' w' hown' hgrow;have HO':=Hd hown';have hb':Below w.heap.size w w':=(hb.alloc hbs _).grown hgrow (by simp;omega) (fun g hg=>(HO.out.lt g hg).1);clear hown' hb hgrow hbs;obtain⟨A',c',rfl⟩:=HO'.out.form_snoc;have hu:=HO'.out.u32s (by simp) HD.out.2 (by simp;rw [HL.out];omega);have hnorm:=norm_any _ _ _ _ w' hu (by rw [HL.out];omega);rw [HD.out.1] at hnorm;have HN:=Hd hnorm;clear hnorm hu;go_wp2_with fail;refine HN.out.mono ?_;rintro e w'' ⟨A2,n2,c2,rfl,hu2,hb2⟩;have H2:=Hd (show NewU32 w (digs (num xs+num ys)) (.returned (.slice A2 n2 c2)) w'' from NewU32.trans ⟨A2,n2,c2,rfl,hu2,hb2⟩ hb');clear hu2 hb2 hb';go_wp2
    go_ret
    exact H2.out
theorem nminus_any(A B:Option Addr)(n c m d:Nat)(xs ys:List Nat)(w:World)(hx:U32s w A n c xs)(hy:U32s w B m d ys)(hs1:n<=34359738360)(hle:num ys<=num xs):
  Calls prog 99 #[.slice A n c,.slice B m d] w (NewU32 w (digs (num xs - num ys))):=by
 have HX:=Hd hx;have HY:=Hd hy;have HLE:=Hd hle;clear hx hy hle
 go_enter func99,ntmps99
 go_wp2
 go_loopw [5,6,7] (fun v cv iv wr=>∃ (i k:Nat) (ls:List Nat),iv=.int .i64 i/\cv=.int .u64 k/\i<=n/\MinusInv xs ys ls i k/\Own wr w.heap.size v ls/\Below w.heap.size w wr) (fun _ _ iv _=>n - (intOf iv).toNat)
 case atStart=>exact⟨0,0,[],rfl,rfl,Nat.zero_le _,MinusInv.start _ _,Own.nil _ _,Below.refl _ _⟩
 case round=>
  obtain⟨i,k,ls,rfl,rfl,hi,hinv,hown,hb⟩:=hrel;have hk1:=hinv.carry;have hlen:=hinv.len;have HI:=Hd hinv;have HO:=Hd hown;clear hinv hown;have hbs:=hb.size;have HL:=Hd hlen;clear hlen
  by_cases ha:i<n
  ·obtain⟨ad,e,hc⟩:=(HX.out.below hb).cell (j:=i) ha
   cases e
   have hx1:=HX.out.lt i;have hst:=fun d c'=>HI.out.step (d:=d) (c':=c')
   obtain⟨x,hxx⟩:∃ r,xs[i]?.getD 0=r:=⟨_,rfl⟩
   rw [hxx] at hc hx1
   simp only [hxx] at hst
   clear hxx
   by_cases hbb:i<m
   ·obtain⟨ad',e,hc'⟩:=(HY.out.below hb).cell (j:=i) hbb
    cases e
    have hy1:=HY.out.lt i
    obtain⟨y,hyy⟩:∃ r,ys[i]?.getD 0=r:=⟨_,rfl⟩
    rw [hyy] at hc' hy1
    simp only [hyy] at hst
    clear hyy
    by_cases hxy:x<k+y
    ·obtain⟨D,hD⟩:∃ D:Nat,D+(k+y)=x+4294967296:=⟨x+4294967296 - (k+y),by omega⟩
     have hlt:(x:Int)<(k:Int)+(y:Int):=by omega
     have e1:(x:Int)+4294967296 - ((k:Int)+(y:Int))=(D:Int):=by omega
     have hD1:D<4294967296:=by omega
     have HS:=Hd (hst D 1 hD1 (by omega) (by omega));clear hst hD hxy
     go_wp2_with (at_builtin;refine wpList_append_u32 _ rfl _ _ rfl w.heap.size _ ls rfl (HO.out.alloc _) ⟨_,0,none⟩ 1 D rfl ?c1al ?c2al ?c3al ?_)
     try case c1al=>simp
     case c2al=>rw [HL.out];omega
     case c3al=>first | omega | (simp;omega)
     intro v' w' hown' hgrow;have HO':=Hd hown';have hb':Below w.heap.size w w':=(hb.alloc hbs _).grown hgrow (by simp;omega) (fun g hg=>(HO.out.lt g hg).1);clear hown' hb hgrow hc hc' hbs hlt e1;go_wp2
     go_roundw
     case rel=>exact⟨i+1,1,_,by go_num,by go_num,by omega,HS.out,HO'.out,hb'⟩
     case measure=>simp [intOf];omega
    ·obtain⟨D,hD⟩:∃ D:Nat,D+(k+y)=x:=⟨x - (k+y),by omega⟩
     have hlt:¬ (x:Int)<(k:Int)+(y:Int):=by omega
     have e1:(x:Int) - ((k:Int)+(y:Int))=(D:Int):=by omega
     have hD1:D<4294967296:=by omega
     have HS:=Hd (hst D 0 hD1 (by omega) (by omega));clear hst hD hxy
     go_wp2_with (at_builtin;refine wpList_append_u32 _ rfl _ _ rfl w.heap.size _ ls rfl (HO.out.alloc _) ⟨_,0,none⟩ 1 D rfl ?c1ag ?c2ag ?c3ag ?_)
     try case c1ag=>simp
     case c2ag=>rw [HL.out];omega
     case c3ag=>first | omega | (simp;omega)
     intro v' w' hown' hgrow;have HO':=Hd hown';have hb':Below w.heap.size w w':=(hb.alloc hbs _).grown hgrow (by simp;omega) (fun g hg=>(HO.out.lt g hg).1);clear hown' hb hgrow hc hc' hbs hlt e1;go_wp2
     go_roundw
     case rel=>exact⟨i+1,0,_,by go_num,by go_num,by omega,HS.out,HO'.out,hb'⟩
     case measure=>simp [intOf];omega
   ·have hz:ys[i]?.getD 0=0:=by rw [List.getElem?_eq_none (by rw [HY.out.len];omega)];rfl
    simp only [hz] at hst
    clear hz
    by_cases hxy:x<k
    ·obtain⟨D,hD⟩:∃ D:Nat,D+(k)=x+4294967296:=⟨x+4294967296 - (k),by omega⟩
     have hlt:(x:Int)<(k:Int):=by omega
     have e1:(x:Int)+4294967296 - ((k:Int))=(D:Int):=by omega
     have hD1:D<4294967296:=by omega
     have HS:=Hd (hst D 1 hD1 (by omega) (by omega));clear hst hD hxy
     go_wp2_with (at_builtin;refine wpList_append_u32 _ rfl _ _ rfl w.heap.size _ ls rfl (HO.out.alloc _) ⟨_,0,none⟩ 1 D rfl ?c1bl ?c2bl ?c3bl ?_)
     try case c1bl=>simp
     case c2bl=>rw [HL.out];omega
     case c3bl=>first | omega | (simp;omega)
     intro v' w' hown' hgrow;have HO':=Hd hown';have hb':Below w.heap.size w w':=(hb.alloc hbs _).grown hgrow (by simp;omega) (fun g hg=>(HO.out.lt g hg).1);clear hown' hb hgrow hc hbs hlt e1;go_wp2
     go_roundw
     case rel=>exact⟨i+1,1,_,by go_num,by go_num,by omega,HS.out,HO'.out,hb'⟩
     case measure=>simp [intOf];omega
    ·obtain⟨D,hD⟩:∃ D:Nat,D+(k)=x:=⟨x - (k),by omega⟩
     have hlt:¬ (x:Int)<(k:Int):=by omega
     have e1:(x:Int) - ((k:Int))=(D:Int):=by omega
     have hD1:D<4294967296:=by omega
     have HS:=Hd (hst D 0 hD1 (by omega) (by omega));clear hst hD hxy
     go_wp2_with (at_builtin;refine wpList_append_u32 _ rfl _ _ rfl w.heap.size _ ls rfl (HO.out.alloc _) ⟨_,0,none⟩ 1 D rfl ?c1bg ?c2bg ?c3bg ?_)
     try case c1bg=>simp
     case c2bg=>rw [HL.out];omega
     case c3bg=>first | omega | (simp;omega)
     intro v' w' hown' hgrow;have HO':=Hd hown';have hb':Below w.heap.size w w':=(hb.alloc hbs _).grown hgrow (by simp;omega) (fun g hg=>(HO.out.lt g hg).1);clear hown' hb hgrow hc hbs hlt e1;go_wp2
     go_roundw
     case rel=>exact⟨i+1,0,_,by go_num,by go_num,by omega,HS.out,HO'.out,hb'⟩
     case measure=>simp [intOf];omega
  ·have hW:=HI.out.1;have hD:=HI.out.done (by rw [HX.out.len];omega) HX.out.w32 HY.out.w32 HLE.out;obtain⟨A',c',rfl⟩:=HO.out.form;have hu:=HO.out.u32s rfl hW (by rw [HL.out];omega);have hnorm:=norm_any _ _ _ _ _ hu (by rw [HL.out];omega);rw [trim_eq_digs hW,hD] at hnorm;have HN:=Hd hnorm;have HB:=Hd hb;clear hnorm hu hW hD hb hbs HI HO;go_wp2_with fail;refine HN.out.mono ?_;rintro e w'' ⟨A2,n2,c2,rfl,hu2,hb2⟩;have H2:=Hd (show NewU32 w (digs (num xs - num ys)) (.returned (.slice A2 n2 c2)) w'' from NewU32.trans ⟨A2,n2,c2,rfl,hu2,hb2⟩ HB.out);clear hu2 hb2 HB;go_wp2
   go_ret
   exact H2.out
theorem digs_len_pos{S:Nat}(h:0<S){n:Nat}(hl:(digs S).length=n):0<n:=by
 rcases Nat.eq_zero_or_pos n with h0 | h0
 ·rw [h0,digs_length_eq_zero] at hl;omega
 ·exact h0
theorem U32s.carry{W:World}{g:Nat}{t:TypeId}{cs:Array Value}{A:Option Addr}{n c:Nat}{xs:List Nat}(h:U32s W A n c xs)(hb:Blk W g t cs)(hc:cs.toList.all notWd=true)(i:Nat)(v:Value):U32s (W.setCell ⟨g,i,none⟩ v) A n c xs:=
 h.sets hb (NoWd.of (by rw [<- Array.all_toList];exact hc)) i [v]
theorem wlen_digs_le{S K:Nat}(h:blen S<=32*K):wlen (digs S)<=K:=by
 rw [wlen_digs];exact digs_length_le (blen_le_iff.1 h)
theorem blen_shl(S k:Nat)(h:0<S):blen (S*2^k)=blen S+k:=by
 have h1:=blen_high (hi:=S) (lo:=0) (k:=k) h (Nat.two_pow_pos k);rw [Nat.zero_add,Nat.mul_comm] at h1;rw [h1,Nat.add_comm]
def dsum(n1:Bool)(S1:Nat)(n2:Bool)(T2:Nat):Bool × Nat:=if n1=n2 then (n1,S1+T2) else if S1<T2 then (n2,T2 - S1) else (n1,S1 - T2)
theorem rv_int(n:Bool)(S:Nat):rv n S 1=((if n then -(S:Int) else (S:Int):Int):Rat):=by
 unfold rv
 cases n
 ·simp [Rat.div_def]
  rw [Rat.intCast_natCast];grind
 ·simp [Rat.div_def]
  rw [Rat.intCast_natCast];grind
theorem dsum_val(n1:Bool)(S1:Nat)(n2:Bool)(T2:Nat):rv (dsum n1 S1 n2 T2).1 (dsum n1 S1 n2 T2).2 1=rv n1 S1 1+rv n2 T2 1:=by
 rw [rv_int,rv_int,rv_int,<- Rat.intCast_add]
 congr 1
 unfold dsum
 by_cases h:n1=n2
 ·subst h;rw [if_pos rfl]
  cases n1<;>simp<;>omega
 ·rw [if_neg h]
  by_cases hlt:S1<T2
  ·rw [if_pos hlt]
   cases n1<;>cases n2<;>simp at h ⊢<;>omega
  ·rw [if_neg hlt]
   cases n1<;>cases n2<;>simp at h ⊢<;>omega
theorem rv_shift(n:Bool)(S k:Nat)(a b:Int)(h:b=a+k):rv n (S*2^k) 1*2^a=rv n S 1*2^b:=by
 rw [h,zpow_add,zpow_nat,rv_int,rv_int]
 cases n
 ·simp only [Bool.false_eq_true,if_false]
  rw [Rat.intCast_natCast,Rat.intCast_natCast,Rat.natCast_mul];grind
 ·simp only [if_true]
  rw [Rat.intCast_neg,Rat.intCast_neg,Rat.intCast_natCast,Rat.intCast_natCast,Rat.natCast_mul];grind
theorem blen_mono{a b:Nat}(h:a<=b):blen a<=blen b:=blen_le_iff.2 (Nat.lt_of_le_of_lt h (lt_pow_blen b))
theorem dsum_blen(n1:Bool)(S1:Nat)(n2:Bool)(T2 P:Nat)(h1:blen S1<=P)(h2:blen T2<=P):blen (dsum n1 S1 n2 T2).2<=P+1:=by
 have a1:=blen_le_iff.1 h1;have a2:=blen_le_iff.1 h2;refine blen_le_iff.2 ?_;rw [Nat.pow_succ];unfold dsum
 split
 ·dsimp only;omega
 ·split<;>(dsimp only;omega)
theorem wlen_blen{S:Nat}(h:blen S<=524288):wlen (digs S)<=16384:=wlen_digs_le (K:=16384) (by omega)
theorem HasBlk.u32s{W:World}{r:Nat}{t:TypeId}{n0:Nat}{A:Option Addr}{n c:Nat}{xs:List Nat}(h:HasBlk W r t n0)(hu:U32s W A n c xs)(vs:List Value):U32s (Proofs.YthlmlmfebpjgdaaGreatDoor.sets W r 0 vs) A n c xs:=by
 obtain⟨cs,h1,h2,h3⟩:=h
 exact hu.sets h1 h3 0 vs
theorem rv_over(n:Bool)(a D:Nat):rv n a D=rv n a 1*(D:Rat)⁻¹:=by
 unfold rv
 cases n<;>simp [Rat.div_def]<;>grind
theorem rv_add(n1:Bool)(p1 q1:Nat)(n2:Bool)(p2 q2:Nat)(h1:0<q1)(h2:0<q2):
  rv n1 p1 q1+rv n2 p2 q2=rv (dsum n1 (p1*q2) n2 (p2*q1)).1 (dsum n1 (p1*q2) n2 (p2*q1)).2 (q1*q2):=by
 have e1:rv n1 p1 q1=rv n1 (p1*q2) (q1*q2):=rv_eq h1 (Nat.mul_pos h1 h2) (by ac_rfl);have e2:rv n2 p2 q2=rv n2 (p2*q1) (q1*q2):=rv_eq h2 (Nat.mul_pos h1 h2) (by ac_rfl);rw [e1,e2,rv_over,rv_over n2,rv_over (dsum n1 (p1*q2) n2 (p2*q1)).1,dsum_val]
 grind
theorem plus_v(A B:Option Addr)(n c m d a b:Nat)(w:World)(hx:U32s w A n c (digs a))(hy:U32s w B m d (digs b))(hs1:n<=8589934592)(hs2:m<=8589934592):
  Calls prog 97 #[.slice A n c,.slice B m d] w (NewU32 w (digs (a+b))):=by
 have h:=plus_any A B n c m d _ _ w hx hy (by omega) (by omega);rw [num_digs,num_digs] at h;exact h
theorem minus_v(A B:Option Addr)(n c m d a b:Nat)(w:World)(hx:U32s w A n c (digs a))(hy:U32s w B m d (digs b))(hs1:n<=8589934592)(hle:b<=a):
  Calls prog 99 #[.slice A n c,.slice B m d] w (NewU32 w (digs (a - b))):=by
 have h:=nminus_any A B n c m d _ _ w hx hy (by omega) (by rw [num_digs,num_digs];exact hle);rw [num_digs,num_digs] at h;exact h
theorem cmp_w(A B:Option Addr)(n c m d a b:Nat)(w:World)(hx:U32s w A n c (digs a))(hy:U32s w B m d (digs b)):
  Rt 98 #[.slice A n c,.slice B m d] (.int .i64 (cmp3 a b)) w:=by
 have h:=cmp_any A B n c m d _ _ w hx hy;rw [num_digs,num_digs] at h;refine h.mono ?_;rintro e w' ⟨rfl,k,rfl⟩
 exact⟨rfl,below_drewN (Below.refl _ _) k⟩
section
def Lies(w W:World)(l:List (Nat × TypeId × Array Value))(r:List (Nat × TypeId × Nat)):Prop:=
 Below w.heap.size w W/\(∀ x ∈ l,Blk W x.1 x.2.1 x.2.2)/\∀ x ∈ r,HasBlk W x.1 x.2.1 x.2.2
section
variable {w W W':World} {l l':List (Nat × TypeId × Array Value)} {r:List (Nat × TypeId × Nat)} {g n:Nat} {t:TypeId} {cs:Array Value}
theorem Lies.b(h:Lies w W l r):Below w.heap.size w W:=h.1
theorem Lies.blk(h:Lies w W l r)(i:Nat)(hi:l[i]?=some (g,t,cs)):Blk W g t cs:=h.2.1 _ (List.mem_of_getElem? hi)
theorem Lies.has(h:Lies w W l r)(i:Nat)(hi:r[i]?=some (g,t,n)):HasBlk W g t n:=h.2.2 _ (List.mem_of_getElem? hi)
theorem Lies.keep(h:Lies w W l r)(hb:Below W.heap.size W W'):Lies w W' l r:=
 ⟨h.1.trans (hb.mono h.1.size),fun x hx=>(h.2.1 x hx).keep hb,fun x hx=>(h.2.2 x hx).keep hb⟩
theorem Lies.alloc(h:Lies w W l r)(o:Obj):Lies w (W.alloc o) l r:=
 ⟨h.1.alloc h.1.size o,fun x hx=>(h.2.1 x hx).alloc o,fun x hx=>(h.2.2 x hx).alloc o⟩
theorem Lies.drew(h:Lies w W l r):Lies w W.drew l r:=⟨h.1.drew,fun x hx=>(h.2.1 x hx).drew,fun x hx=>(h.2.2 x hx).drew⟩
theorem Lies.put(h:Lies w W l r)(hb:Blk W g t cs):Lies w W (l ++ [(g,t,cs)]) r:=
 ⟨h.1,fun x hx=>by
   rcases List.mem_append.1 hx with hx | hx
   ·exact h.2.1 x hx
   ·rw [List.mem_singleton.1 hx];exact hb,h.2.2⟩
theorem Lies.new(h:Lies w W l r)(t:TypeId)(cs:Array Value):Lies w (W.alloc (.cells cs t)) (l ++ [(W.heap.size,t,cs)]) r:=(h.alloc _).put (Blk.new W t cs)
theorem Lies.loose(h:Lies w W l r)(i:Nat)(hi:l[i]?=some (g,t,cs))(hc:cs.toList.all notWd=true):Lies w W (l.eraseIdx i) ((g,t,cs.size) :: r):=
 ⟨h.1,fun x hx=>h.2.1 x (List.mem_of_mem_eraseIdx hx),fun x hx=>by
   rcases List.mem_cons.1 hx with rfl | hx
   ·exact HasBlk.of (h.blk i hi) rfl hc
   ·exact h.2.2 x hx⟩
theorem Lies.write(h:Lies w W l ((g,t,n) :: r))(vs:List Value)(hl:vs.length=n)(hg:w.heap.size<=g)(h1:∀ x ∈ l,x.1≠g)(h2:∀ x ∈ r,x.1≠g):Lies w (sets W g 0 vs) (l ++ [(g,t,vs.toArray)]) r:=
 ⟨below_sets hg vs 0 _ h.1,fun x hx=>by
   rcases List.mem_append.1 hx with hx | hx
   ·exact (h.2.1 x hx).other (h1 x hx) 0 vs
   ·rw [List.mem_singleton.1 hx];exact (h.2.2 _ (List.mem_cons_self ..)).laid vs hl,fun x hx=>(h.2.2 x (List.mem_cons_of_mem _ hx)).other (h2 x hx) 0 vs⟩
theorem Lies.part(h:Lies w W l r)(k:Nat)(hk:l[k]?=some (g,t,cs))(i:Nat)(vs:List Value)(hg:w.heap.size<=g)(h1:∀ x ∈ l.eraseIdx k,x.1≠g)(h2:∀ x ∈ r,x.1≠g):Lies w (sets W g i vs) (l.eraseIdx k ++ [(g,t,laid cs i vs)]) r:=
 ⟨below_sets hg vs i _ h.1,fun x hx=>by
   rcases List.mem_append.1 hx with hx | hx
   ·exact (h.2.1 x (List.mem_of_mem_eraseIdx hx)).other (h1 x hx) i vs
   ·rw [List.mem_singleton.1 hx];exact (h.blk k hk).sets vs i _ _,fun x hx=>(h.2.2 x hx).other (h2 x hx) i vs⟩
theorem Lies.over(h:Lies w W l r)(k:Nat)(hk:r[k]?=some (g,t,n))(vs:List Value)(hl:vs.length=n)(hv:vs.all notWd=true)(hg:w.heap.size<=g)(h1:∀ x ∈ l,x.1≠g)(h2:∀ x ∈ r.eraseIdx k,x.1≠g):Lies w (sets W g 0 vs) l r:=
 ⟨below_sets hg vs 0 _ h.1,fun x hx=>(h.2.1 x hx).other (h1 x hx) 0 vs,fun x hx=>by
   obtain⟨i,hi⟩:=List.mem_iff_getElem?.1 hx
   by_cases e:i=k
   ·subst e;rw [hk] at hi;cases hi;exact (h.has i hk).sets vs hl hv
   ·exact (h.2.2 x hx).other (h2 x (by rw [List.mem_iff_getElem?];rcases Nat.lt_or_ge i k with hlt | hge
                                       ·exact⟨i,by rw [List.getElem?_eraseIdx_of_lt hlt];exact hi⟩
                                       ·exact⟨i - 1,by rw [List.getElem?_eraseIdx_of_ge (by omega),show i - 1+1=i from by omega];exact hi⟩)) 0 vs⟩
theorem Lies.far(h:Lies w W l r)(vs:List Value)(i:Nat)(hg:w.heap.size<=g)(h1:∀ x ∈ l,x.1≠g)(h2:∀ x ∈ r,x.1≠g):Lies w (sets W g i vs) l r:=
 ⟨below_sets hg vs i _ h.1,fun x hx=>(h.2.1 x hx).other (h1 x hx) i vs,fun x hx=>(h.2.2 x hx).other (h2 x hx) i vs⟩
theorem Lies.fresh(h:Lies w W l r)(t:TypeId)(cs:Array Value):∃ g,W.heap.size=g/\w.heap.size<=g/\(∀ x ∈ l,x.1<g)/\(∀ x ∈ r,x.1<g)/\Blk (W.alloc (.cells cs t)) g t cs:=
 ⟨_,rfl,h.1.size,fun x hx=>(h.2.1 x hx).lt,fun x hx=>(h.2.2 x hx).lt,Blk.new W t cs⟩
theorem Lies.tight(h:Lies w W l ((g,t,n) :: r))(hb:Blk W g t cs):Lies w W (l ++ [(g,t,cs)]) r:=
 ⟨h.1,fun x hx=>by
   rcases List.mem_append.1 hx with hx | hx
   ·exact h.2.1 x hx
   ·rw [List.mem_singleton.1 hx];exact hb,fun x hx=>h.2.2 x (List.mem_cons_of_mem _ hx)⟩
theorem Lies.same(h:Lies w W l r)(k:Nat)(hk:l[k]?=some (g,t,cs))(vs:List Value)(hv:laid cs 0 vs=cs)(hg:w.heap.size<=g)(h1:∀ x ∈ l.eraseIdx k,x.1≠g)(h2:∀ x ∈ r,x.1≠g):Lies w (sets W g 0 vs) l r:=
 ⟨below_sets hg vs 0 _ h.1,fun x hx=>by
   obtain⟨i,hi⟩:=List.mem_iff_getElem?.1 hx
   by_cases e:i=k
   ·subst e;rw [hk] at hi;cases hi;have hs:=(h.blk i hk).sets vs 0 _ _;rw [hv] at hs;exact hs
   ·exact (h.2.1 x hx).other (h1 x (by rw [List.mem_iff_getElem?];rcases Nat.lt_or_ge i k with hlt | hge
                                       ·exact⟨i,by rw [List.getElem?_eraseIdx_of_lt hlt];exact hi⟩
                                       ·exact⟨i - 1,by rw [List.getElem?_eraseIdx_of_ge (by omega),show i - 1+1=i from by omega];exact hi⟩)) 0 vs,fun x hx=>(h.2.2 x hx).other (h2 x hx) 0 vs⟩
theorem Lies.perm{r':List (Nat × TypeId × Nat)}(h:Lies w W l r)(hl:∀ x ∈ l',x ∈ l)(hr:∀ x ∈ r',x ∈ r):Lies w W l' r':=⟨h.1,fun x hx=>h.2.1 x (hl x hx),fun x hx=>h.2.2 x (hr x hx)⟩
theorem Lies.lts(h:Lies w W l r):w.heap.size<=W.heap.size/\(∀ x ∈ l,x.1<W.heap.size)/\∀ x ∈ r,x.1<W.heap.size:=⟨h.1.size,fun x hx=>(h.2.1 x hx).lt,fun x hx=>(h.2.2 x hx).lt⟩
theorem Lies.newE(h:Lies w W l r)(e:W.alloc (.cells cs t)=W'):Lies w W' (l ++ [(W.heap.size,t,cs)]) r:=e ▸ h.new t cs
theorem below_allocE{o:Obj}(e:W.alloc o=W'):Below W.heap.size W W':=e ▸ below_alloc W o
theorem Blk.newE(e:W.alloc (.cells cs t)=W'):Blk W' W.heap.size t cs:=e ▸ Blk.new W t cs
theorem Blk.setsE{i:Nat}{vs:List Value}(h:Blk W g t cs)(e:Proofs.YthlmlmfebpjgdaaGreatDoor.sets W g i vs=W'):Blk W' g t (laid cs i vs):=e ▸ h.sets vs i W cs
theorem RatV.setsE{K:Nat}{neg:Bool}{vn vd:Value}{x:Rat}{i:Nat}{vs:List Value}(h:RatV W K neg vn vd x)(hb:Blk W g t cs)(hc:NoWd cs)(e:Proofs.YthlmlmfebpjgdaaGreatDoor.sets W g i vs=W'):RatV W' K neg vn vd x:=e ▸ h.sets hb hc i vs
theorem U32s.setsE{A:Option Addr}{k c:Nat}{xs:List Nat}{i:Nat}{vs:List Value}(h:U32s W A k c xs)(hb:Blk W g t cs)(hc:NoWd cs)(e:Proofs.YthlmlmfebpjgdaaGreatDoor.sets W g i vs=W'):U32s W' A k c xs:=e ▸ h.sets hb hc i vs
theorem stL(h:Hid (Lies w W l r))(hb:Below W.heap.size W W'):Hid (Lies w W' l r):=Hd (h.out.keep hb)
end
theorem nowd{cs:Array Value}(h:cs.toList.all notWd=true):NoWd cs:=NoWd.of (by rw [<- Array.all_toList];exact h)
section
variable {P:Program} {ops:Array Oper} {Q:Exit->Act->World->Prop} {md:Region.Mode} {S:World->Prop} {fuel:Nat} {listed:Array Bool} {a:Act} {w:World}
theorem rd2(i j:Nat){o o':Oper}(h:∀ K':Act->World->Prop,Shut (∀ a w,S w->(S w->wpAnyH P md ops Q S fuel (listed.setIfInBounds i true) a w)->K' a w)->if Region.wanted o (yielded ops a.tmps)=true then Oper.wp P o a w K' Q else K' (a.put o.dst undef) w)
  (h':∀ K':Act->World->Prop,Shut (∀ a w,S w->(S w->wpAnyH P md ops Q S fuel (listed.setIfInBounds j true) a w)->K' a w)->if Region.wanted o' (yielded ops a.tmps)=true then Oper.wp P o' a w K' Q else K' (a.put o'.dst undef) w)
  (hr:Region.ready md ops listed=[i,j]:=by kernel_rfl)(ho:ops[i]?=some o:=by rfl)(ho':ops[j]?=some o':=by rfl):wpAnyH P md ops Q S (fuel+1) listed a w:=
 wpAnyH_ready hr (by simp) (AllReadyH.cons ho h (AllReadyH.cons ho' h' AllReadyH.nil))
end
theorem regL{P:Program}{ops:Array Oper}{Q:Exit->Act->World->Prop}{id:Nat}{a:Act}{w W:World}{l:List (Nat × TypeId × Array Value)}{r:List (Nat × TypeId × Nat)}(h:Hid (Lies w W l r))
  (k:Lies w W.drew l r->wpAnyH P .any ops Q (fun W'=>Lies w W' l r) ops.size (Array.replicate ops.size false) a W.drew)(hm:P.follows .mixedOrders=true:=by kernel_rfl):(Code.region id ops true).wp P Q a W:=
 wp_region_held_drew (S:=fun W'=>Lies w W' l r) hm h.out.drew k
theorem li1(w:World)(c0:Array Value)(t0:TypeId):Hid (Lies w (w.alloc (.cells c0 t0)) [(w.heap.size,t0,c0)] []):=by
 obtain⟨hb,h0⟩:=bx1 w c0 t0
 exact Hd ⟨hb.out,by simp only [List.mem_cons,List.not_mem_nil,or_false,forall_eq_or_imp,forall_eq];exact h0.out,by simp⟩
theorem li2(w:World)(c0:Array Value)(t0:TypeId)(c1:Array Value)(t1:TypeId):Hid (Lies w ((w.alloc (.cells c0 t0)).alloc (.cells c1 t1)) [(w.heap.size,t0,c0),(w.heap.size+1,t1,c1)] []):=by
 obtain⟨hb,h0,h1⟩:=bx2 w c0 t0 c1 t1
 exact Hd ⟨hb.out,by simp only [List.mem_cons,List.not_mem_nil,or_false,forall_eq_or_imp,forall_eq];exact⟨h0.out,h1.out⟩,by simp⟩
theorem li3(w:World)(c0:Array Value)(t0:TypeId)(c1:Array Value)(t1:TypeId)(c2:Array Value)(t2:TypeId):Hid (Lies w (((w.alloc (.cells c0 t0)).alloc (.cells c1 t1)).alloc (.cells c2 t2)) [(w.heap.size,t0,c0),(w.heap.size+1,t1,c1),(w.heap.size+2,t2,c2)] []):=by
 obtain⟨hb,h0,h1,h2⟩:=bx3 w c0 t0 c1 t1 c2 t2
 exact Hd ⟨hb.out,by simp only [List.mem_cons,List.not_mem_nil,or_false,forall_eq_or_imp,forall_eq];exact⟨h0.out,h1.out,h2.out⟩,by simp⟩
theorem li4(w:World)(c0:Array Value)(t0:TypeId)(c1:Array Value)(t1:TypeId)(c2:Array Value)(t2:TypeId)(c3:Array Value)(t3:TypeId):Hid (Lies w ((((w.alloc (.cells c0 t0)).alloc (.cells c1 t1)).alloc (.cells c2 t2)).alloc (.cells c3 t3)) [(w.heap.size,t0,c0),(w.heap.size+1,t1,c1),(w.heap.size+2,t2,c2),(w.heap.size+3,t3,c3)] []):=by
 obtain⟨hb,h0,h1,h2,h3⟩:=bx4 w c0 t0 c1 t1 c2 t2 c3 t3
 exact Hd ⟨hb.out,by simp only [List.mem_cons,List.not_mem_nil,or_false,forall_eq_or_imp,forall_eq];exact⟨h0.out,h1.out,h2.out,h3.out⟩,by simp⟩
theorem cs{C P Q:Prop}(c:C)(q:Q)(h:C->Q->P:=by intro hc hq;refine hc.mono ?_;rintro e wk ⟨rfl,hb⟩;go_wp2_with fail;refine hKK.out _ _ (hHeld.keep hb) (fun hH=>?_);(try simp only [Act.put,lay]);revert hH;revert hb;revert wk;exact hq):P:=h c q
section
variable {P:Program} {ops:Array Oper} {Q:Exit->Act->World->Prop} {md:Region.Mode} {S:World->Prop} {fuel:Nat} {listed:Array Bool} {a:Act} {w:World}
theorem rcs(i:Nat){o:Oper}{C R:Prop}(c:C)(q:R)(hr:Region.ready md ops listed=[i]:=by kernel_rfl)(ho:ops[i]?=some o:=by rfl)
  (h:C->R->∀ K':Act->World->Prop,Shut (∀ a w,S w->(S w->wpAnyH P md ops Q S fuel (listed.setIfInBounds i true) a w)->K' a w)->if Region.wanted o (yielded ops a.tmps)=true then Oper.wp P o a w K' Q else K' (a.put o.dst undef) w:=by intro hc hq KK hKK;go_simp;refine hc.mono ?_;rintro e wk ⟨rfl,hb⟩;go_wp2_with fail;refine hKK.out _ _ (hHeld.keep hb) (fun hH=>?_);(try simp only [Act.put,lay]);revert hH;revert hb;revert wk;exact hq):wpAnyH P md ops Q S (fuel+1) listed a w:=rdy i (h c q) hr ho
theorem rcn(i:Nat){o:Oper}{C R:Prop}(c:C)(q:R)(hr:Region.ready md ops listed=[i]:=by kernel_rfl)(ho:ops[i]?=some o:=by rfl)
  (h:C->R->∀ K':Act->World->Prop,Shut (∀ a w,S w->(S w->wpAnyH P md ops Q S fuel (listed.setIfInBounds i true) a w)->K' a w)->if Region.wanted o (yielded ops a.tmps)=true then Oper.wp P o a w K' Q else K' (a.put o.dst undef) w:=by intro hc hq KK hKK;go_simp;refine hc.mono ?_;rintro e wk ⟨g,A,n,c,B,m,d,rfl,hr,hb⟩;go_wp2_with fail;refine hKK.out _ _ (hHeld.keep hb) (fun hH=>?_);(try simp only [Act.put,lay]);revert hH;revert hb;revert hr;revert d;revert m;revert B;revert c;revert n;revert A;revert g;revert wk;exact hq):wpAnyH P md ops Q S (fuel+1) listed a w:=rdy i (h c q) hr ho
end
section
variable {w W:World} {x y z:Nat × TypeId × Array Value} {g:Nat} {t:TypeId} {c:Array Value} {l:List (Nat × TypeId × Array Value)} {r:List (Nat × TypeId × Nat)}
theorem Lies.loose0(h:Lies w W ((g,t,c) :: l) r)(hc:c.toList.all notWd=true):Lies w W l ((g,t,c.size) :: r):=h.loose 0 rfl hc
theorem Lies.loose1(h:Lies w W (x :: (g,t,c) :: l) r)(hc:c.toList.all notWd=true):Lies w W (x :: l) ((g,t,c.size) :: r):=h.loose 1 rfl hc
theorem Lies.loose2(h:Lies w W (x :: y :: (g,t,c) :: l) r)(hc:c.toList.all notWd=true):Lies w W (x :: y :: l) ((g,t,c.size) :: r):=h.loose 2 rfl hc
theorem Lies.loose3(h:Lies w W (x :: y :: z :: (g,t,c) :: l) r)(hc:c.toList.all notWd=true):Lies w W (x :: y :: z :: l) ((g,t,c.size) :: r):=h.loose 3 rfl hc
theorem Lies.wr{n:Nat}(h:Lies w W l ((g,t,n) :: r))(vs:List Value)(hl:vs.length=n:=by rfl)(hg:w.heap.size<=g:=by omega)(h1:∀ x ∈ l,x.1≠g:=by simp<;>omega)(h2:∀ x ∈ r,x.1≠g:=by simp<;>omega):Lies w (sets W g 0 vs) (l ++ [(g,t,vs.toArray)]) r:=h.write vs hl hg h1 h2
end
end
def fz(g:Bool)(p q:Nat):Int:=if g=true then -((p / q+(if 0<p % q then 1 else 0):Nat):Int) else ((p / q:Nat):Int)
theorem fz_floor{g:Bool}{p q:Nat}(hq:0<q):fz g p q=(rv g p q).floor:=by
 have h1:=Nat.div_add_mod p q;have h2:=Nat.mod_lt p hq;have hq0:(0:Rat)<(q:Rat):=cast_pos hq
 have hv:rv g p q*(q:Rat)=if g=true then -(p:Rat) else (p:Rat):=by
  unfold rv;exact Rat.div_mul_cancel (cast_ne hq)
 have two:∀ z:Int,(z:Rat)*q<=rv g p q*q->rv g p q*q<((z:Rat)+1)*q->z=(rv g p q).floor:=by
  intro z a b
  have a':(z:Rat)<=rv g p q:=by
   by_cases k:(z:Rat)<=rv g p q
   ·exact k
   ·have:rv g p q<z:=by grind
    have:=(Rat.mul_lt_mul_right hq0).2 this
    grind
  have b':rv g p q<(z:Rat)+1:=(Rat.mul_lt_mul_right hq0).1 b;have c1:=Rat.le_floor_iff.2 a'
  have c2:(rv g p q).floor<z+1:=by
   have:=Rat.floor_le (rv g p q);rw [<- Rat.intCast_lt_intCast,Rat.intCast_add];have e1:((1:Int):Rat)=1:=rfl
   grind
  omega
 refine two _ ?_ ?_
 ·rw [hv];unfold fz
  cases g
  ·simp only [Bool.false_eq_true,if_false]
   rw [Rat.intCast_natCast,<- Rat.natCast_mul,Rat.natCast_le_natCast,Nat.mul_comm];omega
  ·simp only [if_true]
   rw [Rat.intCast_neg,Rat.intCast_natCast,Rat.neg_mul,<- Rat.natCast_mul]
   have:(p:Rat)<=(((p / q+if 0<p % q then 1 else 0)*q:Nat):Rat):=by
    rw [Rat.natCast_le_natCast,Nat.add_mul,Nat.mul_comm]
    split<;>omega
   grind
 ·rw [hv];unfold fz
  cases g
  ·simp only [Bool.false_eq_true,if_false]
   have:(p:Rat)<(((p / q+1)*q:Nat):Rat):=by
    rw [Rat.natCast_lt_natCast,Nat.add_mul,Nat.mul_comm];omega
   rw [Rat.natCast_mul,Rat.natCast_add] at this;rw [Rat.intCast_natCast]
   exact this
  ·simp only [if_true]
   have:(((p / q+if 0<p % q then 1 else 0)*q:Nat):Rat)<((p+q:Nat):Rat):=by
    rw [Rat.natCast_lt_natCast,Nat.add_mul,Nat.mul_comm]
    split<;>omega
   rw [Rat.natCast_mul,Rat.natCast_add p q] at this;rw [Rat.intCast_neg,Rat.intCast_natCast]
   grind
theorem by_w(A B:Option Addr)(n c m d:Nat)(xs ys:List Nat)(w:World)(hx:U32s w A n c xs)(hy:U32s w B m d ys)(hs:n<=1073741824)(hm:m<=1073741824)(h0:0<num ys):
  Calls prog 182 #[.slice A n c,.slice B m d] w (NewU32s w (digs (num xs / num ys)) (digs (num xs % num ys))):=by
 rcases Nat.lt_or_ge (num xs) (num ys) with h | h
 ·have:=by_less A B n c m d _ _ w hx hy (by omega) h;rw [Nat.div_eq_of_lt h,Nat.mod_eq_of_lt h,digs_zero]
  exact this
 ·exact by_main A B n c m d _ _ w hx hy hs hm h0 h
theorem digs_len0{v n:Nat}(h:(digs v).length=n):(n=0↔v=0):=by rw [<- h,digs_length_eq_zero]
theorem rfloor_walk(g:Bool)(A:Option Addr)(n c:Nat)(B:Option Addr)(m d:Nat)(p q:Nat)(Z:Int)(w:World)(hby:∀ W,Below w.heap.size w W->Calls prog 182 #[.slice A n c,.slice B m d] W (NewU32s W (digs (p / q)) (digs (p % q))))(hZ:fz g p q=Z)(hb:blen (p / q)<=1000000):
  Calls prog 114 #[Zg g A n c B m d] w (fun e w'=>∃ A' n' c',e=.returned (.tuple #[.bool (decide (Z<0)),.slice A' n' c'])/\U32s w' A' n' c' (digs Z.natAbs)/\Below w.heap.size w w'):=by
 have HBY:=Hd hby
 have HPL:=Hd fun (A1:Option Addr) (n1 c1:Nat) (A2:Option Addr) (n2 c2:Nat) W (h1:U32s W A1 n1 c1 (digs (p / q))) (h2:U32s W A2 n2 c2 (digs 1)) (hn:n1<=1073741824) (hn2:n2<=1073741824)=>plus_v A1 A2 n1 c1 n2 c2 _ _ W h1 h2 (by omega) (by omega)
 have HL:=Hd fun (n1:Nat) (h:(digs (p / q)).length=n1)=>(show n1<=1073741824 by
  obtain⟨k,hk⟩:∃ k:Nat,k=40000:=⟨_,rfl⟩
  have:=digs_length_le (n:=p / q) (k:=k) (blen_le_iff.1 (by omega))
  omega)
 have HZ:=Hd hZ
 obtain⟨Q,hQ⟩:∃ Q,p / q=Q:=⟨_,rfl⟩
 obtain⟨R,hR⟩:∃ R,p % q=R:=⟨_,rfl⟩
 unfold fz at HZ;rw [hQ] at HBY HPL HL HZ;rw [hR] at HBY HZ;clear hby hZ hQ hR hb;have LL:=li1 w (Zr g A n c B m d) 42
 go_enter func114,ntmps114
 obtain⟨q1_0,q1_1,q1_2⟩:=(LL.out.blk 0 rfl).c3;go_wp2_with fail;refine (HBY.out _ LL.out.b).mono ?_;rintro e w1 ⟨A1,n1,c1,B1,m1,d1,rfl,hu1,hv1,hb1⟩;replace LL:=stL LL hb1;have U1:=Hd hu1;have hl1:=digs_len0 hu1.len;have hl2:=digs_len0 hv1.len;have hn1:=HL.out n1 hu1.len;clear hu1 hv1 hb1 HBY HL q1_0 q1_1 q1_2
 cases g
 case false=>
  obtain⟨q2_0,q2_1,q2_2⟩:=(LL.out.blk 0 rfl).c3;have hz:Z=(Q:Int):=HZ.out.symm;subst hz;have F:=Hd (show U32s w1 A1 n1 c1 (digs ((Q:Int).natAbs)) from U1.out);have hd:decide ((Q:Int)<0)=false:=decide_eq_false (by omega);have HD:=Hd hd;clear HZ HPL U1 hl1 hl2 hd;go_wp2
  go_ret2
  exact⟨_,_,_,by rw [HD.out];rfl,F.out,LL.out.b⟩
 case true=>
  by_cases hr:R=0
  case pos=>
   obtain⟨q3_0,q3_1,q3_2⟩:=(LL.out.blk 0 rfl).c3
   obtain rfl:m1=0:=hl2.2 hr
   have hz:Z=-(Q:Int):=by rw [<- HZ.out,if_pos rfl,if_neg (by omega)];omega
   subst hz;have F:=Hd (show U32s w1 A1 n1 c1 (digs ((-(Q:Int)).natAbs)) from by rw [Int.natAbs_neg];exact U1.out)
   have hd:decide (-(Q:Int)<0)=decide (0<n1):=by rw [decide_eq_decide];have:=hl1;omega
   have HD:=Hd hd;clear HZ HPL U1 hl1 hl2 hd hr;go_wp2
   go_ret2
   exact⟨_,_,_,by rw [HD.out];rfl,F.out,LL.out.b⟩
  case neg=>
   obtain⟨q4_0,q4_1,q4_2⟩:=(LL.out.blk 0 rfl).c3
   have hm1:0<m1:=by have:=hl2;omega
   have hz:Z=-((Q+1:Nat):Int):=by rw [<- HZ.out,if_pos rfl,if_pos (by omega)]
   subst hz;have HD1:=Hd (show U32s (w1.alloc (.cells #[.int .u32 1] 117)) (some ⟨w1.heap.size,0,none⟩) 1 1 (digs 1) from by rw [digs_one];exact U32s.lit1 w1 117 (a:=1) (by omega));have HQ:=Hd (HPL.out A1 n1 c1 _ 1 1 (w1.alloc (.cells #[.int .u32 1] 117)) (U1.out.alloc _) HD1.out hn1 (by omega));have hd:decide (-((Q+1:Nat):Int)<0)=true:=decide_eq_true (by omega);have HD:=Hd hd;clear HZ HPL U1 hl1 hl2 hd hr HD1;go_wp2_with fail;refine HQ.out.mono ?_;rintro e w2 ⟨A2,n2,c2,rfl,hu2,hb2⟩
   have hn2:0<n2:=by have:=digs_len0 hu2.len;omega
   have F:=Hd (show U32s w2 A2 n2 c2 (digs ((-((Q+1:Nat):Int)).natAbs)) from by rw [Int.natAbs_neg];exact hu2);replace LL:=Hd (LL.out.alloc (.cells #[.int .u32 1] 117));replace LL:=stL LL hb2;clear hu2 hb2 HQ;obtain⟨q5_0,q5_1,q5_2⟩:=(LL.out.blk 0 rfl).c3;go_wp2
   go_ret2
   exact⟨_,_,_,by rw [HD.out];rfl,F.out,LL.out.b⟩
theorem pat_ne_max{i:Int}(h0:-(M:Int)<=i)(h1:i<M):((pat i:Int) == 9218868437227405312)=false:=by
 rw [beq_eq_false_iff_ne];intro h;have:=pat_inj h0 (by omega) (show -(M:Int)<=(M:Int) by rw [M_val];omega) (Int.le_refl _) (by rw [pat_max];omega)
 omega
theorem of_none(x y:Nat)(w:World)(hx:L64 x)(hy:L64 y)(h:snd x y=false):
  Calls prog 83 #[.agg #[.int .u64 (x:Int),.int .u64 (y:Int)]] w (NewSet w 1 true 0 0 0 0):=by
 have h1:rd x y=((M:Int),-(M:Int)):=by unfold rd;rw [h];rfl
 have HR:=Hd fun W=>read6 x y W hx hy;rw [h1] at HR
 simp only [pat_max,pat_min] at HR
 have HE:=Hd empty6;have HF:=Hd fun W=>finite_nat 0 W (by omega);clear h h1;obtain⟨LB0,LG0_0,LR⟩:=bx2 w #[.int .u64 (x:Int),.int .u64 (y:Int)] 24 #[.bool false,.int .i64 0,.bool false,.slice none 0 0,.slice none 0 0,.int .i64 0,.bool false,.slice none 0 0,.slice none 0 0] 89;have LR0:=Hd (HasBlk.of (n:=9) LR.out rfl rfl);clear LR
 go_enter func83,ntmps83
 go_wp2_with fail;refine cx (HR.out _) fun w1 hb1=>?_;have LB1:=stB LB0 hb1 LB0.out.size;have LR1:=stR LR0 hb1;have LG0_1:=stG LG0_0 hb1;clear LB0 LR0 LG0_0;have hlt2:=LR1.out.lt;have LB2:=Hd (LB1.out.alloc LB1.out.size (.cells #[.int .u64 9218868437227405312,.int .u64 18442240474082181120] 24));have LR2:=Hd (LR1.out.alloc (.cells #[.int .u64 9218868437227405312,.int .u64 18442240474082181120] 24));have LG0_2:=Hd (LG0_1.out.alloc (.cells #[.int .u64 9218868437227405312,.int .u64 18442240474082181120] 24));have LG1_2:=Hd (Blk.new w1 24 #[.int .u64 9218868437227405312,.int .u64 18442240474082181120]);clear LB1 LR1 LG0_1;go_wp2_with fail;refine wp_region_held_drew (S:=fun W'=>Blk W' w.heap.size 24 #[.int .u64 (x:Int),.int .u64 (y:Int)]/\Blk W' w1.heap.size 24 #[.int .u64 9218868437227405312,.int .u64 18442240474082181120]/\HasBlk W' (w.heap.size+1) 89 9/\Below w.heap.size w W') (by kernel_rfl) (by exact⟨LG0_2.out.drew,LG1_2.out.drew,LR2.out.drew,LB2.out.drew⟩) (fun hHeld=>?_);refine tkb 0 (fun _ h=>h.2.1.c2) ?_;refine rdy 1 fun KK hKK=>?_;go_simp;refine cx (HE.out _) fun w2 hb2=>?_;go_wp2_with fail;refine hKK.out _ _ (⟨hHeld.1.keep hb2,hHeld.2.1.keep hb2,hHeld.2.2.1.keep hb2,hHeld.2.2.2.trans (hb2.mono hHeld.2.2.2.size)⟩) (fun _=>?_);clear hKK KK hHeld;rename_i hHeld;(try simp only [Act.put,lay]);refine tks 2 ?_;refine wpAnyH_done (by kernel_rfl) ?_ _;have LB3:=Hd hHeld.2.2.2;have LR3:=Hd hHeld.2.2.1;have LG0_3:=Hd hHeld.1;have LG1_3:=Hd hHeld.2.1
 clear hHeld LB2 LR2 LG0_2 LG1_2;go_wp2_with fail;refine (HF.out _).mono ?_;rintro e w3 ⟨g1,A1,n1,c1,B1,m1,d1,rfl,h1,hb1⟩;have LB4:=stB LB3 hb1 LB3.out.size;have LR4:=stR LR3 hb1;have LG0_4:=stG LG0_3 hb1;have LG1_4:=stG LG1_3 hb1;clear LB3 LR3 LG0_3 LG1_3;go_wp2_with fail;refine (HF.out _).mono ?_;rintro e w4 ⟨g2,A2,n2,c2,B2,m2,d2,rfl,h2,hb2⟩;have LB5:=stB LB4 hb2 LB4.out.size;have LR5:=stR LR4 hb2;have LG0_5:=stG LG0_4 hb2;have LG1_5:=stG LG1_4 hb2;clear LB4 LR4 LG0_4 LG1_4;obtain⟨ha0,hf0,ha1,hf1,ha2,hf2,ha3,hf3,ha4,hf4,ha5,hf5,ha6,hf6,ha7,hf7,ha8,hf8⟩:=LR5.out.sf9;obtain⟨hk0,hk1,hk2,hk3,hk4,hk5,hk6,hk7,hk8⟩:=LR5.out.sc9 (.bool true) (.int .i64 0) (.bool g1) (.slice A1 n1 c1) (.slice B1 m1 d1) (.int .i64 0) (.bool g2) (.slice A2 n2 c2) (.slice B2 m2 d2);have F:=Hd (below_sets (w0:=w) (r:=(w.heap.size+1)) (by omega) [.bool true,.int .i64 0,.bool g1,.slice A1 n1 c1,.slice B1 m1 d1,.int .i64 0,.bool g2,.slice A2 n2 c2,.slice B2 m2 d2] 0 _ LB5.out)
 simp [sets] at hk0 hk1 hk2 hk3 hk4 hk5 hk6 hk7 hk8
 have FR1:=Hd (LR5.out.rat (h1.below hb2) [.bool true,.int .i64 0,.bool g1,.slice A1 n1 c1,.slice B1 m1 d1,.int .i64 0,.bool g2,.slice A2 n2 c2,.slice B2 m2 d2]);have FR2:=Hd (LR5.out.rat h2 [.bool true,.int .i64 0,.bool g1,.slice A1 n1 c1,.slice B1 m1 d1,.int .i64 0,.bool g2,.slice A2 n2 c2,.slice B2 m2 d2]);clear hb1 hb2 h1 h2 LR5 LB5 LG0_5 LG1_5;go_wp2;refine bodyPost_ret (v:=.agg #[.bool true,.int .i64 0,.bool g1,.slice A1 n1 c1,.slice B1 m1 d1,.int .i64 0,.bool g2,.slice A2 n2 c2,.slice B2 m2 d2]) (by simp [results,results83,go_sem,hk0,hk1,hk2,hk3,hk4,hk5,hk6,hk7,hk8]) rfl ?_
 exact⟨_,_,_,_,_,_,_,_,_,_,_,_,_,_,rfl,FR1.out,FR2.out,F.out⟩
theorem of_full(x y:Nat)(w:World)(hx:L64 x)(hy:L64 y)(h:snd x y=true):
  Calls prog 83 #[.agg #[.int .u64 (x:Int),.int .u64 (y:Int)]] w (NewSet w 34 false (es (idx x)) (ex (idx x)) (es (idx y)) (ex (idx y))):=by
 have h1:rd x y=(idx x,idx y):=by unfold rd;rw [h];rfl
 have hd:=of_decide_eq_true h;have hi:=idx_bounds hd.1;have hj:=idx_bounds hd.2.1;have HR:=Hd fun W=>read6 x y W hx hy;rw [h1] at HR;have H1:=Hd fun W=>bound_raw (pat (idx x)) W (pat_lt hi.1 hi.2) (by rw [rung_pat hi.1 hi.2];omega);have H2:=Hd fun W=>bound_raw (pat (idx y)) W (pat_lt hj.1 hj.2) (by rw [rung_pat hj.1 hj.2];omega);rw [idx_pat hi.1 hi.2] at H1;rw [idx_pat hj.1 hj.2] at H2;have hp:=pat_ne_max hi.1 hd.2.2.2.1
 dsimp only at HR
 obtain⟨p,hpp⟩:∃ p,pat (idx x)=p:=⟨_,rfl⟩
 obtain⟨q,hqq⟩:∃ q,pat (idx y)=q:=⟨_,rfl⟩
 obtain⟨s1,e1⟩:∃ s,es (idx x)=s:=⟨_,rfl⟩
 obtain⟨x1,e2⟩:∃ s,ex (idx x)=s:=⟨_,rfl⟩
 obtain⟨s2,e3⟩:∃ s,es (idx y)=s:=⟨_,rfl⟩
 obtain⟨x2,e4⟩:∃ s,ex (idx y)=s:=⟨_,rfl⟩
 rw [hpp] at HR H1 hp;rw [hqq] at HR H2;rw [e1,e2] at H1 ⊢;rw [e3,e4] at H2 ⊢;have HE:=Hd empty6;clear h h1 hd hi hj hpp hqq e1 e2 e3 e4;obtain⟨LB0,LG0_0,LR⟩:=bx2 w #[.int .u64 (x:Int),.int .u64 (y:Int)] 24 #[.bool false,.int .i64 0,.bool false,.slice none 0 0,.slice none 0 0,.int .i64 0,.bool false,.slice none 0 0,.slice none 0 0] 89;have LR0:=Hd (HasBlk.of (n:=9) LR.out rfl rfl);clear LR
 go_enter func83,ntmps83
 go_wp2_with fail;refine cx (HR.out _) fun w1 hb1=>?_;have LB1:=stB LB0 hb1 LB0.out.size;have LR1:=stR LR0 hb1;have LG0_1:=stG LG0_0 hb1;clear LB0 LR0 LG0_0;have hlt2:=LR1.out.lt;have LB2:=Hd (LB1.out.alloc LB1.out.size (.cells #[.int .u64 (p:Int),.int .u64 (q:Int)] 24));have LR2:=Hd (LR1.out.alloc (.cells #[.int .u64 (p:Int),.int .u64 (q:Int)] 24));have LG0_2:=Hd (LG0_1.out.alloc (.cells #[.int .u64 (p:Int),.int .u64 (q:Int)] 24));have LG1_2:=Hd (Blk.new w1 24 #[.int .u64 (p:Int),.int .u64 (q:Int)]);clear LB1 LR1 LG0_1;go_wp2_with fail;refine wp_region_held_drew (S:=fun W'=>Blk W' w.heap.size 24 #[.int .u64 (x:Int),.int .u64 (y:Int)]/\Blk W' w1.heap.size 24 #[.int .u64 (p:Int),.int .u64 (q:Int)]/\HasBlk W' (w.heap.size+1) 89 9/\Below w.heap.size w W') (by kernel_rfl) (by exact⟨LG0_2.out.drew,LG1_2.out.drew,LR2.out.drew,LB2.out.drew⟩) (fun hHeld=>?_);refine tkb 0 (fun _ h=>h.2.1.c2) ?_;refine rdy 1 fun KK hKK=>?_;go_simp;refine cx (HE.out _) fun w2 hb2=>?_;go_wp2_with fail;refine hKK.out _ _ (⟨hHeld.1.keep hb2,hHeld.2.1.keep hb2,hHeld.2.2.1.keep hb2,hHeld.2.2.2.trans (hb2.mono hHeld.2.2.2.size)⟩) (fun _=>?_);clear hKK KK hHeld;rename_i hHeld;(try simp only [Act.put,lay]);refine tks 2 ?_;refine wpAnyH_done (by kernel_rfl) ?_ _;have LB3:=Hd hHeld.2.2.2;have LR3:=Hd hHeld.2.2.1;have LG0_3:=Hd hHeld.1;have LG1_3:=Hd hHeld.2.1;clear hHeld LB2 LR2 LG0_2 LG1_2;go_wp2_with fail;refine wp_region_held_drew (S:=fun W'=>Blk W' w.heap.size 24 #[.int .u64 (x:Int),.int .u64 (y:Int)]/\Blk W' w1.heap.size 24 #[.int .u64 (p:Int),.int .u64 (q:Int)]/\HasBlk W' (w.heap.size+1) 89 9/\Below w.heap.size w W') (by kernel_rfl) (by exact⟨LG0_3.out.drew,LG1_3.out.drew,LR3.out.drew,LB3.out.drew⟩) (fun hHeld=>?_)
 refine tks 0 ?_;refine tkb 1 (fun _ h=>h.2.1.c2) ?_;refine tks 3 ?_;refine tkb 4 (fun _ h=>h.2.1.c2) ?_;refine rdy 2 fun KK hKK=>?_;go_simp;refine (H1.out _).mono ?_;rintro e w3 ⟨g1,A1,n1,c1,B1,m1,d1,rfl,h1,hb1⟩;go_wp2_with fail;refine hKK.out _ _ (⟨hHeld.1.keep hb1,hHeld.2.1.keep hb1,hHeld.2.2.1.keep hb1,hHeld.2.2.2.trans (hb1.mono hHeld.2.2.2.size)⟩) (fun _=>?_);clear hKK KK hHeld;rename_i hHeld;(try simp only [Act.put,lay]);refine rdy 5 fun KK hKK=>?_;go_simp;refine (H2.out _).mono ?_;rintro e w4 ⟨g2,A2,n2,c2,B2,m2,d2,rfl,h2,hb2⟩;go_wp2_with fail;refine hKK.out _ _ (⟨hHeld.1.keep hb2,hHeld.2.1.keep hb2,hHeld.2.2.1.keep hb2,hHeld.2.2.2.trans (hb2.mono hHeld.2.2.2.size)⟩) (fun _=>?_);clear hKK KK hHeld;rename_i hHeld;(try simp only [Act.put,lay]);refine tks 6 ?_;refine rdy 7 fun KK hKK=>?_;have ha0:=hHeld.2.2.1.someCell 0 (by decide);have hf0:=hHeld.2.2.1.frozen 0;have ha1:=hHeld.2.2.1.someCell 1 (by decide);have hf1:=hHeld.2.2.1.frozen 1;have ha2:=hHeld.2.2.1.someCell 2 (by decide);have hf2:=hHeld.2.2.1.frozen 2;have ha3:=hHeld.2.2.1.someCell 3 (by decide);have hf3:=hHeld.2.2.1.frozen 3;have ha4:=hHeld.2.2.1.someCell 4 (by decide);have hf4:=hHeld.2.2.1.frozen 4;have ha5:=hHeld.2.2.1.someCell 5 (by decide);have hf5:=hHeld.2.2.1.frozen 5;have ha6:=hHeld.2.2.1.someCell 6 (by decide);have hf6:=hHeld.2.2.1.frozen 6;have ha7:=hHeld.2.2.1.someCell 7 (by decide);have hf7:=hHeld.2.2.1.frozen 7;have ha8:=hHeld.2.2.1.someCell 8 (by decide);have hf8:=hHeld.2.2.1.frozen 8;have HK:=Hd (hHeld.2.2.1.setCell [.bool false,.int .i64 s1,.bool g1,.slice A1 n1 c1,.slice B1 m1 d1,.int .i64 s2,.bool g2,.slice A2 n2 c2,.slice B2 m2 d2] rfl);have F:=Hd (below_sets (w0:=w) (r:=(w.heap.size+1)) (by omega) [.bool false,.int .i64 s1,.bool g1,.slice A1 n1 c1,.slice B1 m1 d1,.int .i64 s2,.bool g2,.slice A2 n2 c2,.slice B2 m2 d2] 0 _ hHeld.2.2.2);have FR1:=Hd (hHeld.2.2.1.rat (h1.below hb2) [.bool false,.int .i64 s1,.bool g1,.slice A1 n1 c1,.slice B1 m1 d1,.int .i64 s2,.bool g2,.slice A2 n2 c2,.slice B2 m2 d2]);have FR2:=Hd (hHeld.2.2.1.rat h2 [.bool false,.int .i64 s1,.bool g1,.slice A1 n1 c1,.slice B1 m1 d1,.int .i64 s2,.bool g2,.slice A2 n2 c2,.slice B2 m2 d2])
 go_simp;refine hKK.out _ _ (⟨hHeld.1.other (by omega) 0 [.bool false,.int .i64 s1,.bool g1,.slice A1 n1 c1,.slice B1 m1 d1,.int .i64 s2,.bool g2,.slice A2 n2 c2,.slice B2 m2 d2],hHeld.2.1.other (by omega) 0 [.bool false,.int .i64 s1,.bool g1,.slice A1 n1 c1,.slice B1 m1 d1,.int .i64 s2,.bool g2,.slice A2 n2 c2,.slice B2 m2 d2],hHeld.2.2.1.sets [.bool false,.int .i64 s1,.bool g1,.slice A1 n1 c1,.slice B1 m1 d1,.int .i64 s2,.bool g2,.slice A2 n2 c2,.slice B2 m2 d2] rfl rfl,below_sets (by omega) [.bool false,.int .i64 s1,.bool g1,.slice A1 n1 c1,.slice B1 m1 d1,.int .i64 s2,.bool g2,.slice A2 n2 c2,.slice B2 m2 d2] 0 _ hHeld.2.2.2⟩) (fun _=>?_);clear hKK KK hHeld;rename_i hHeld;(try simp only [Act.put,lay]);refine wpAnyH_done (by kernel_rfl) ?_ _;have hk0:=HK.out 0 (by decide);have hk1:=HK.out 1 (by decide);have hk2:=HK.out 2 (by decide);have hk3:=HK.out 3 (by decide);have hk4:=HK.out 4 (by decide);have hk5:=HK.out 5 (by decide);have hk6:=HK.out 6 (by decide);have hk7:=HK.out 7 (by decide);have hk8:=HK.out 8 (by decide)
 simp [sets] at hk0 hk1 hk2 hk3 hk4 hk5 hk6 hk7 hk8
 clear hHeld HK;go_wp2;refine bodyPost_ret (v:=.agg #[.bool false,.int .i64 s1,.bool g1,.slice A1 n1 c1,.slice B1 m1 d1,.int .i64 s2,.bool g2,.slice A2 n2 c2,.slice B2 m2 d2]) (by simp [results,results83,go_sem,hk0,hk1,hk2,hk3,hk4,hk5,hk6,hk7,hk8]) rfl ?_
 exact⟨_,_,_,_,_,_,_,_,_,_,_,_,_,_,rfl,FR1.out,FR2.out,F.out⟩
section
open Go.RowKit
end
def NewBd(w:World)(K:Nat)(s:Int)(x:Rat)(N:Int)(op:Bool)(e:Ending)(w':World):Prop:=
 ∃ neg A n c B m d,e=.returned (.agg #[.int .i64 s,.bool neg,.slice A n c,.slice B m d,.int .i64 N,.bool op])/\RatV w' K neg (.slice A n c) (.slice B m d) x/\Below w.heap.size w w'
def NewPiece(w:World)(K:Nat)(none:Bool)(s:Int)(x:Rat)(N:Int)(o:Bool)(s':Int)(x':Rat)(N':Int)(o':Bool)(e:Ending)(w':World):Prop:=
 ∃ neg A n c B m d neg' A' n' c' B' m' d',e=.returned (.agg #[.bool none,.int .i64 s,.bool neg,.slice A n c,.slice B m d,.int .i64 N,.bool o,.int .i64 s',.bool neg',.slice A' n' c',.slice B' m' d',.int .i64 N',.bool o']) /\
  RatV w' K neg (.slice A n c) (.slice B m d) x/\RatV w' K neg' (.slice A' n' c') (.slice B' m' d') x'/\Below w.heap.size w w'
section
open Go.RowKit
end
section
open Go.RowKit
end
theorem es_bounds(i:Int):-1<=es i/\es i<=1:=by unfold es;split<;>(try split)<;>omega
theorem ex_zero{i:Int}(h:es i=0):ex i=fl i:=by unfold ex;rw [if_pos h]
theorem num_neg_iff{x:Rat}:x.num<0↔x<0:=by rw [<- Int.not_le,Rat.num_nonneg,Rat.not_le]
theorem rat_rv(x:Rat):rv (decide (x<0)) x.num.natAbs x.den=x:=by
 have h:(x.num:Rat) / (x.den:Rat)=x:=by rw [<- Rat.mkRat_eq_div,Rat.mkRat_self]
 unfold rv
 by_cases h0:x<0
 ·have h1:x.num<0:=num_neg_iff.2 h0
  have h2:((x.num.natAbs:Nat):Int)=-x.num:=by omega
  have h3:((x.num.natAbs:Nat):Rat)=-(x.num:Rat):=by rw [<- Rat.intCast_natCast,h2,Rat.intCast_neg]
  simp only [h0,decide_true,if_true,h3,Rat.neg_neg]
  exact h
 ·have h1:¬ x.num<0:=fun h=>h0 (num_neg_iff.1 h)
  have h2:((x.num.natAbs:Nat):Int)=x.num:=by omega
  have h3:((x.num.natAbs:Nat):Rat)=(x.num:Rat):=by rw [<- Rat.intCast_natCast,h2]
  simp only [h0,decide_false,h3]
  exact h
theorem Rnd.dir{d:Int}{x:Rat}{i:Int}(h:Rnd d x i):d=-1\/d=1:=by
 rcases h with ⟨h,_⟩ | ⟨h,_⟩
 ·exact .inl h
 ·exact .inr h
theorem Rnd.unique{d:Int}{x:Rat}{i j:Int}(h:Rnd d x i)(h':Rnd d x j):i=j:=by
 rcases h with ⟨rfl,a1,a2,a3⟩ | ⟨rfl,a1,a2,a3⟩
 ·rcases h' with ⟨-,b1,b2,b3⟩ | ⟨h,_⟩
  ·rcases Int.lt_trichotomy i j with h | h | h
   ·have:=(a3 j (by omega) b2).2 ((b3 j (by omega) b2).1 (Int.le_refl _));omega
   ·exact h
   ·have:=(b3 i (by omega) a2).2 ((a3 i (by omega) a2).1 (Int.le_refl _));omega
  ·omega
 ·rcases h' with ⟨h,_⟩ | ⟨-,b1,b2,b3⟩
  ·omega
  ·rcases Int.lt_trichotomy i j with h | h | h
   ·have:=(b3 i a1 (by omega)).2 ((a3 i a1 (by omega)).1 (Int.le_refl _));omega
   ·exact h
   ·have:=(a3 j b1 (by omega)).2 ((b3 j b1 (by omega)).1 (Int.le_refl _));omega
def rndI(d:Int)(x:Rat):Int:=
 if x=0 then 0 else sg (decide (x<0)) (ansT x.num.natAbs x.den (fout x.num.natAbs x.den ((blen x.num.natAbs:Int) - blen x.den)) (decide (d=1) != decide (x<0)))
theorem rnd_rndI{d:Int}(hd:d=-1\/d=1)(x:Rat):Rnd d x (rndI d x):=by
 unfold rndI
 by_cases h0:x=0
 ·rw [if_pos h0,h0];exact rnd_zero hd
 ·rw [if_neg h0]
  have hp:0<x.num.natAbs:=by
   have:x.num≠0:=fun h=>h0 (Rat.num_eq_zero.1 h)
   omega
  have h:=rnd_ans (neg:=decide (x<0)) hp x.den_pos (fout_sc hp x.den_pos rfl) hd;rw [rat_rv] at h
  exact h
theorem Rnd.eq{d:Int}{x:Rat}{i:Int}(h:Rnd d x i):i=rndI d x:=h.unique (rnd_rndI h.dir x)
theorem rndI_neg{d:Int}(hd:d=-1\/d=1)(x:Rat):rndI (-d) (-x)=- rndI d x:=((rnd_rndI hd x).neg.eq).symm
theorem rndI_fl{d a:Int}(hd:d=-1\/d=1)(h0:-(M:Int)<a)(h1:a<M):rndI d (fl a)=a:=(rnd_rndI hd (fl a)).exact h0 h1
theorem rndI_zero{d:Int}(hd:d=-1\/d=1):rndI d 0=0:=(rnd_zero hd).eq.symm
theorem rndI_down(x:Rat):-(M:Int)<=rndI (-1) x/\rndI (-1) x<M/\∀ j:Int,-(M:Int)<j->j<M->(j<=rndI (-1) x↔fl j<=x):=by
 rcases rnd_rndI (.inl rfl) x with ⟨-,h⟩ | ⟨h,_⟩
 ·exact h
 ·omega
theorem rndI_up(x:Rat):-(M:Int)<rndI 1 x/\rndI 1 x<=M/\∀ j:Int,-(M:Int)<j->j<M->(rndI 1 x<=j↔x<=fl j):=by
 rcases rnd_rndI (.inr rfl) x with ⟨h,_⟩ | ⟨-,h⟩
 ·omega
 ·exact h
theorem rndI_mono{d:Int}(hd:d=-1\/d=1){x y:Rat}(h:x<=y):rndI d x<=rndI d y:=by
 rcases hd with rfl | rfl
 ·have h1:=rndI_down x;have h2:=rndI_down y
  by_cases hc:rndI (-1) x<=rndI (-1) y
  ·exact hc
  ·have h3:=(h1.2.2 (rndI (-1) x) (by omega) h1.2.1).1 (Int.le_refl _)
   exact (h2.2.2 _ (by omega) h1.2.1).2 (Rat.le_trans h3 h)
 ·have h1:=rndI_up x;have h2:=rndI_up y
  by_cases hc:rndI 1 x<=rndI 1 y
  ·exact hc
  ·have h3:=(h2.2.2 (rndI 1 y) h2.1 (by omega)).1 (Int.le_refl _)
   exact (h1.2.2 _ h2.1 (by omega)).2 (Rat.le_trans h h3)
theorem rndI_le(x:Rat):rndI (-1) x<=rndI 1 x:=by
 have h1:=rndI_down x;have h2:=rndI_up x
 by_cases hc:rndI (-1) x<=rndI 1 x
 ·exact hc
 ·have h3:=(h2.2.2 (rndI 1 x) h2.1 (by omega)).1 (Int.le_refl _)
  by_cases h4:rndI 1 x<rndI (-1) x
  ·have h5:=(h1.2.2 (rndI (-1) x) (by omega) h1.2.1).1 (Int.le_refl _);have:=fl_lt_iff.2 h4
   grind
  ·omega
def dn(s:Int)(x:Rat):Int:=if s=0 then rndI (-1) x else s*M
def up(s:Int)(x:Rat):Int:=if s=0 then rndI 1 x else s*M
theorem dn_zero(x:Rat):dn 0 x=rndI (-1) x:=rfl
theorem up_zero(x:Rat):up 0 x=rndI 1 x:=rfl
theorem rc_neg_iff{x y:Rat}:rc x y<0↔x<y:=by
 unfold rc
 by_cases h:x<y
 ·simp [h]
 ·rw [if_neg h]
  by_cases h':y<x<;>simp [h,h']
theorem rc_pos_iff{x y:Rat}:0<rc x y↔y<x:=by
 unfold rc
 by_cases h:x<y
 ·have:¬ y<x:=by grind
  simp [h,this]
 ·rw [if_neg h]
  by_cases h':y<x<;>simp [h']
theorem rc_zero_iff{x y:Rat}:rc x y=0↔x=y:=by
 unfold rc
 by_cases h:x<y
 ·have:x≠y:=by grind
  simp [h,this]
 ·rw [if_neg h]
  by_cases h':y<x
  ·have:x≠y:=by grind
   simp [h',this]
  ·have:x=y:=by grind
   simp [this]
theorem ec_hi{i s:Int}{x:Rat}(hi:-(M:Int)<=i/\i<M)(hs:s=0\/s=1):0<ec (es i) (ex i) s x↔dn s x<i:=by
 have hM:M=9218868437227405312:=rfl
 rcases hs with rfl | rfl
 ·rw [dn_zero];have h:=rndI_down x
  by_cases h0:i=-(M:Int)
  ·subst h0;rw [es_min,ec_lt _ _ (by omega)];omega
  ·rw [es_mid (by omega) hi.2,ec_zero,ex_mid (by omega) hi.2,rc_pos_iff];have h1:=h.2.2 i (by omega) hi.2;rw [<- Int.not_le,h1];grind
 ·have h1:es i<1:=by have:=es_bounds i;unfold es;split<;>(try split)<;>omega
  rw [ec_lt _ _ h1];unfold dn;rw [if_neg (by omega)];omega
theorem ec_lo{j s:Int}{x:Rat}(hj:-(M:Int)<j/\j<=M)(hs:s=0\/s=-1):ec (es j) (ex j) s x<0↔j<up s x:=by
 have hM:M=9218868437227405312:=rfl
 rcases hs with rfl | rfl
 ·rw [up_zero];have h:=rndI_up x
  by_cases h0:j=(M:Int)
  ·subst h0;rw [es_max,ec_gt _ _ (by omega)];omega
  ·rw [es_mid (by omega) (by omega),ec_zero,ex_mid (by omega) (by omega),rc_neg_iff];have h1:=h.2.2 j hj.1 (by omega);rw [<- Int.not_le,h1];grind
 ·have h1:-1<es j:=by unfold es;split<;>(try split)<;>omega
  rw [ec_gt _ _ h1];unfold up;rw [if_neg (by omega)];omega
theorem ec_lo_at{i s:Int}{x:Rat}(hi:-(M:Int)<=i/\i<M)(hs:s=0\/s=-1):(if ec (es i) (ex i) s x<0 then rndI (-1) x else i)=max i (dn s x):=by
 have hM:M=9218868437227405312:=rfl
 rcases hs with rfl | rfl
 ·rw [dn_zero];have h:=rndI_down x
  by_cases h0:i=-(M:Int)
  ·subst h0;rw [es_min,ec_lt _ _ (by omega),if_pos (by omega)];omega
  ·rw [es_mid (by omega) hi.2,ec_zero,ex_mid (by omega) hi.2];have h1:=h.2.2 i (by omega) hi.2
   by_cases hc:fl i<x
   ·rw [if_pos (rc_neg_iff.2 hc)];have:=h1.2 (by grind);omega
   ·rw [if_neg (fun h=>hc (rc_neg_iff.1 h))]
    have:rndI (-1) x<=i:=by
     by_cases h2:rndI (-1) x=-(M:Int)
     ·omega
     ·have h3:=(h.2.2 (rndI (-1) x) (by omega) h.2.1).1 (Int.le_refl _);rw [<- fl_le_iff];grind
    omega
 ·have h1:-1<=es i:=(es_bounds i).1
  have h2:¬ ec (es i) (ex i) (-1) x<0:=by
   by_cases h3:es i=-1
   ·rw [ec_inf _ _ h3 (by omega)];omega
   ·rw [ec_gt _ _ (by omega)];omega
  rw [if_neg h2];unfold dn;rw [if_neg (by omega)];omega
theorem ec_hi_at{j s:Int}{x:Rat}(hj:-(M:Int)<j/\j<=M)(hs:s=0\/s=1):(if 0<ec (es j) (ex j) s x then rndI 1 x else j)=min j (up s x):=by
 have hM:M=9218868437227405312:=rfl
 rcases hs with rfl | rfl
 ·rw [up_zero];have h:=rndI_up x
  by_cases h0:j=(M:Int)
  ·subst h0;rw [es_max,ec_gt _ _ (by omega),if_pos (by omega)];omega
  ·rw [es_mid (by omega) (by omega),ec_zero,ex_mid (by omega) (by omega)];have h1:=h.2.2 j hj.1 (by omega)
   by_cases hc:x<fl j
   ·rw [if_pos (rc_pos_iff.2 hc)];have:=h1.2 (by grind);omega
   ·rw [if_neg (fun h=>hc (rc_pos_iff.1 h))]
    have:j<=rndI 1 x:=by
     by_cases h2:rndI 1 x=(M:Int)
     ·omega
     ·have h3:=(h.2.2 (rndI 1 x) h.1 (by omega)).1 (Int.le_refl _);rw [<- fl_le_iff];grind
    omega
 ·have h1:es j<=1:=(es_bounds j).2
  have h2:¬ 0<ec (es j) (ex j) 1 x:=by
   by_cases h3:es j=1
   ·rw [ec_inf _ _ h3 (by omega)];omega
   ·rw [ec_lt _ _ (by omega)];omega
  rw [if_neg h2];unfold up;rw [if_neg (by omega)];omega
theorem ec_hi_open{i s:Int}{x:Rat}(hi:-(M:Int)<=i/\i<M)(hs:s=1):ec (es i) (ex i) s x≠0:=by
 have h1:es i<s:=by unfold es;split<;>(try split)<;>omega
 rw [ec_lt _ _ h1];omega
theorem ec_lo_open{j s:Int}{x:Rat}(hj:-(M:Int)<j/\j<=M)(hs:s=-1):ec (es j) (ex j) s x≠0:=by
 have hM:M=9218868437227405312:=rfl
 have h1:s<es j:=by unfold es;split<;>(try split)<;>omega
 rw [ec_gt _ _ h1];omega
def ct(i j pd pu qd qu:Int):Int × Int:=if qd<i\/j<pu then ((M:Int),-(M:Int)) else (max i pd,min j qu)
theorem pow_mm{K:Nat}(a b:Nat)(ha:a<2^(32*K))(hb:b<2^(32*K)):a*b<2^(32*(2*K)):=by
 have h:2^(32*(2*K))=2^(32*K)*2^(32*K):=by rw [<- Nat.pow_add];congr 1;omega
 rw [h]
 exact Nat.mul_lt_mul'' ha hb
theorem rv_mul(g1 g2:Bool)(p1 q1 p2 q2:Nat):rv g1 p1 q1*rv g2 p2 q2=rv (g1 != g2) (p1*p2) (q1*q2):=by
 unfold rv
 cases g1<;>cases g2<;>simp [Rat.div_def,Rat.natCast_mul,Rat.inv_mul_rev]<;>grind
theorem rv_ne(g:Bool){p q:Nat}(hp:0<p)(hq:0<q):rv g p q≠0:=by
 have h1:=mt (rv_le_false (p:=p) (p':=0) hq (q':=1) (by omega)).1 (by omega);rw [rv_zero] at h1
 cases g
 ·grind
 ·rw [rv_true];grind
theorem rv_quo(g1 g2:Bool)(p1 q1 p2 q2:Nat)(h1:0<q1)(h2:0<q2)(h3:0<p2):rv g1 p1 q1 / rv g2 p2 q2=rv (g1 != g2) (p1*q2) (q1*p2):=by
 refine div_eq (rv_ne g2 h3 h2) ?_;rw [rv_mul,show ((g1 != g2) != g2)=g1 from by cases g1<;>cases g2<;>rfl]
 exact rv_eq h1 (Nat.mul_pos (Nat.mul_pos h1 h3) h2) (by ac_rfl)
section
open Go.RowKit
end
theorem run_frombits(b:Nat)(w:World):(callFunc 74 #[.int .u64 (b:Int)]).run prog w=.ok (.value (.float .f64 b)) w:=by
 rw [run_callFunc_extern (e:=Extern.MathFloatBits.float64frombits) func74 (by kernel_rfl) (by kernel_rfl) (by kernel_rfl) (by kernel_rfl)]
 rfl
theorem run_bitsof(b:Nat)(w:World):(callFunc 73 #[.float .f64 b]).run prog w=.ok (.value (.int .u64 (b:Int))) w:=by
 rw [run_callFunc_extern (e:=Extern.MathFloatBits.float64bits) func73 (by kernel_rfl) (by kernel_rfl) (by kernel_rfl) (by kernel_rfl)]
 rfl
theorem inf_pos(w:World):Calls prog 19 #[.int .i64 1] w fun e w'=>e=.returned (.float .f64 9218868437227405312)/\w=w':=by
 have hf:∀ W:World,(callFunc 74 #[.int .u64 9218868437227405312]).run prog W=.ok (.value (.float .f64 9218868437227405312)) W:=fun W=>run_frombits 9218868437227405312 W
 go_enter func19,ntmps19
 go_wp2
 go_ret
 exact⟨rfl,rfl⟩
theorem inf_neg(w:World):Calls prog 19 #[.int .i64 (-1)] w fun e w'=>e=.returned (.float .f64 18442240474082181120)/\w=w':=by
 have hf:∀ W:World,(callFunc 74 #[.int .u64 18442240474082181120]).run prog W=.ok (.value (.float .f64 18442240474082181120)) W:=fun W=>run_frombits 18442240474082181120 W
 go_enter func19,ntmps19
 go_wp2
 go_ret
 exact⟨rfl,rfl⟩
theorem plainf(b:Nat)(w:World)(hb:L64 b)(hr:rungOf b<=M):Calls prog 171 #[.float .f64 b] w fun e w'=>e=.returned (.float .f64 (pat (idx b)))/\w=w':=by
 have ho:FloatKind.f64.format.order b 0=some (compare (idx b) (idx 0)):=order_real hr (by show rungOf 0<=M;decide);rw [show idx 0=0 from by decide] at ho;have hp:=pl_real hb hr
 by_cases h:idx b=0
 ·have hq:(FloatKind.f64.format.order b 0 == some Ordering.eq)=true:=by rw [ho,h];rfl
  rw [h,pat_zero];clear ho hp h hr
  go_enter func171,ntmps171
  go_wp2
  go_ret
  exact⟨rfl,rfl⟩
 ·have hq:(FloatKind.f64.format.order b 0 == some Ordering.eq)=false:=by
   rw [ho]
   rcases Int.lt_trichotomy (idx b) 0 with h1 | h1 | h1
   ·rw [show compare (idx b) 0=.lt from Int.compare_eq_lt.2 h1];rfl
   ·exact absurd h1 h
   ·rw [show compare (idx b) 0=.gt from Int.compare_eq_gt.2 h1];rfl
  have e:pat (idx b)=b:=by
   rw [<- hp];unfold pl;have:=pat_cases hb;rw [if_neg (by omega),if_neg (by omega)]
  rw [e];clear ho hp h hr e
  go_enter func171,ntmps171
  go_wp2
  go_ret
  exact⟨rfl,rfl⟩
theorem soundf(x y:Nat)(w:World)(hx:L64 x)(hy:L64 y):Calls prog 170 (Zv x y) w fun e w'=>e=.returned (.bool (snd x y))/\w=w':=by
 have H1:=Hd inf_pos;have H2:=Hd inf_neg;have hM:M=9218868437227405312:=rfl
 have n1:idx 9218868437227405312=M:=by decide
 have n2:idx 18442240474082181120=-(M:Int):=by decide
 have r1:real 9218868437227405312:=by show rungOf _<=M;decide
 have r2:real 18442240474082181120:=by show rungOf _<=M;decide
 by_cases hx':rungOf x<=M
 ·by_cases hy':rungOf y<=M
  ·have ho:FloatKind.f64.format.order x y=some (compare (idx x) (idx y)):=order_real hx' hy';have h2:FloatKind.f64.format.order x 9218868437227405312=some (compare (idx x) (idx 9218868437227405312)):=order_real hx' r1;have h3:FloatKind.f64.format.order y 18442240474082181120=some (compare (idx y) (idx 18442240474082181120)):=order_real hy' r2;rw [n1] at h2;rw [n2] at h3;have bx:=idx_bounds hx';have bY:=idx_bounds hy'
   by_cases h:idx y<idx x
   ·rw [show compare (idx x) (idx y)=.gt from Int.compare_eq_gt.2 h] at ho;have hs:snd x y=false:=decide_eq_false (by omega);rw [hs];clear h2 h3 n1 n2 r1 r2 bx bY h hs hx' hy' hM
    go_enter func170,ntmps170
    go_wp2
    go_ret
    exact⟨rfl,rfl⟩
   ·have hle:compare (idx x) (idx y)=.lt\/compare (idx x) (idx y)=.eq:=by
     rcases Int.lt_trichotomy (idx x) (idx y) with h1 | h1 | h1
     ·exact .inl (Int.compare_eq_lt.2 h1)
     ·exact .inr (by rw [h1];exact Int.compare_eq_eq.2 rfl)
     ·exact absurd h1 h
    by_cases hm:idx x=M
    ·rw [show compare (idx x) (M:Int)=.eq from by rw [hm];exact Int.compare_eq_eq.2 rfl] at h2;have hs:snd x y=false:=decide_eq_false (by omega);rw [hs];clear h3 n1 n2 r1 r2 bx bY h hs hx' hy' hM hm
     rcases hle with e | e<;>rw [e] at ho<;>clear e
     all_goals
      go_enter func170,ntmps170
      go_wp2_with fail;refine (H1.out _).mono ?_;rintro e w1 ⟨rfl,rfl⟩;go_wp2
      go_ret
      exact⟨rfl,rfl⟩
    ·rw [show compare (idx x) (M:Int)=.lt from Int.compare_eq_lt.2 (by omega)] at h2
     by_cases hn:idx y=-(M:Int)
     ·rw [show compare (idx y) (-(M:Int))=.eq from by rw [hn];exact Int.compare_eq_eq.2 rfl] at h3;have hs:snd x y=false:=decide_eq_false (by omega);rw [hs];clear n1 n2 r1 r2 bx bY h hs hx' hy' hM hm hn
      rcases hle with e | e<;>rw [e] at ho<;>clear e
      all_goals
       go_enter func170,ntmps170
       go_wp2_with fail;refine (H1.out _).mono ?_;rintro e w1 ⟨rfl,rfl⟩;go_wp2_with fail;refine (H2.out _).mono ?_;rintro e w1 ⟨rfl,rfl⟩;go_wp2
       go_ret
       exact⟨rfl,rfl⟩
     ·rw [show compare (idx y) (-(M:Int))=.gt from Int.compare_eq_gt.2 (by omega)] at h3;have hs:snd x y=true:=decide_eq_true (by omega);rw [hs];clear n1 n2 r1 r2 bx bY h hs hx' hy' hM hm hn
      rcases hle with e | e<;>rw [e] at ho<;>clear e
      all_goals
       go_enter func170,ntmps170
       go_wp2_with fail;refine (H1.out _).mono ?_;rintro e w1 ⟨rfl,rfl⟩;go_wp2_with fail;refine (H2.out _).mono ?_;rintro e w1 ⟨rfl,rfl⟩;go_wp2
       go_ret
       exact⟨rfl,rfl⟩
  ·have ho:FloatKind.f64.format.order x y=none:=order_nan_right x (by omega);have hs:snd x y=false:=decide_eq_false (by omega);rw [hs];clear n1 n2 r1 r2 hs hx' hy' hM
   go_enter func170,ntmps170
   go_wp2
   go_ret
   exact⟨rfl,rfl⟩
 ·have ho:FloatKind.f64.format.order x y=none:=order_nan_left y (by omega);have hs:snd x y=false:=decide_eq_false (by omega);rw [hs];clear n1 n2 r1 r2 hs hx' hM
  go_enter func170,ntmps170
  go_wp2
  go_ret
  exact⟨rfl,rfl⟩
end Go.Proofs.YthlmlmfebpjgdaaGreatDoor
