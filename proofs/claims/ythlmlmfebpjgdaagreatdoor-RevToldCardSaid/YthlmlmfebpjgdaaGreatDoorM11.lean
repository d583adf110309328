/-
Lemmas for the statement: NshlT Win NbackT NshrT RofT DsP.
-/
import Derived.Test.YthlmlmfebpjgdaaGreatDoorPNwT
import Derived.Deep.DeepAppendRoom
import Derived.Test.YthlmlmfebpjgdaaGreatDoorM01
import Derived.Outline
import Derived.Test.YthlmlmfebpjgdaaGreatDoorPMathT
import Derived.Deep.DeepCutAuto
import Derived.Deep.CutBlock
import Derived.Test.YthlmlmfebpjgdaaGreatDoorM02
set_option linter.unusedSimpArgs false
set_option linter.unusedVariables false
set_option maxHeartbeats 12800000
namespace Go.Proofs.YthlmlmfebpjgdaaGreatDoor
section
open Go.RowKit
theorem shift_any(A:Option Addr)(n c s:Nat)(xs:List Nat)(w:World)(hx:U32s w A n c xs)(hs:s<32)(hn:n<=1073741824):
  Calls Tryz.prog 258 #[.slice A n c,.int .i64 (s:Int)] w fun e w'=>∃ zs,NewArr w zs e w'/\W32 zs/\zs.length=n+1/\num zs=num xs*2^s:=by
 have HX:=Hd hx;clear hx;have hmk:=fun W=>make_u32 (N:=(n:Int)+1) (n:=n+1) (by omega) (by omega) W;have hp:2^s<=2147483648:=Nat.pow_le_pow_right (n:=2) (by omega) (show s<=31 by omega);have hp0:=Nat.two_pow_pos s
 go_enter Tryz.func258,Tryz.ntmps258
 go_wp2
 go_loopw [6,7,8,15] (fun cv _ _ iv wr=>∃ (i k:Nat) (cur:List Nat),iv=.int .i64 i/\cv=.int .u64 k/\i<=n/\ShiftArr xs cur (n+1) s i k/\Arr wr w.heap.size cur/\Below w.heap.size w wr) (fun _ _ _ iv _=>n - (intOf iv).toNat)
 case atStart=>exact⟨0,0,_,rfl,rfl,Nat.zero_le _,ShiftArr.start _ _ _,Arr.zeros _ _,below_alloc _ _⟩
 case round=>
  obtain⟨i,k,cur,rfl,rfl,hi,hinv,harr,hb⟩:=hrel;have HI:=Hd hinv;have HA:=Hd harr;have hk1:=hinv.carry;clear hinv harr hmk
  by_cases hlt:i<n
  ·obtain⟨ad,e,hc⟩:=(HX.out.below hb).cell (j:=i) hlt
   cases e
   have hx1:=HX.out.lt i;have hf:=HA.out.frozen i;have hcc:=HA.out.cell (j:=i) (by rw [HI.out.len (by omega)];omega)
   obtain⟨x,hx⟩:∃ x,xs[i]?.getD 0=x:=⟨_,rfl⟩
   rw [hx] at hc hx1;have HXX:=Hd hx;clear hx
   have i1:(i:Int)<((n+1:Nat):Int):=by omega
   have hz1:x*2^s<=4294967295*2147483648:=Nat.mul_le_mul (by omega) hp
   have hsh:(x:Int)*(2:Int)^s=((x*2^s:Nat):Int):=by rw [Int.natCast_mul,Int.natCast_pow];rfl
   have hor:=or_join' (i:=s) (x:=x) (y:=k) (by omega) hk1 (by omega)
   obtain⟨z,hz⟩:∃ z,x*2^s=z:=⟨_,rfl⟩
   rw [hz] at hor hsh hz1;have HZ:=Hd hz;clear hz;go_wp2
   go_roundw
   case rel=>
    refine⟨i+1,(z+k) / 4294967296,cur.set i ((z+k) % 4294967296),by go_num,by go_num,by omega,HI.out.step (by omega) HX.out.w32 (by rw [HXX.out,HZ.out]),?_,hb.setCell (Nat.le_refl _) _⟩;rw [show ((k:Int)+(z:Int)) % 4294967296=(((z+k) % 4294967296:Nat):Int) from by omega]
    exact HA.out.set i ((z+k) % 4294967296)
   case measure=>simp [intOf];omega
  ·obtain rfl:i=n:=by omega
   have hd:=HI.out.done (by rw [HX.out.len];omega) (by omega);have hl:=HI.out.len (by omega);have hcc:=HA.out.cell (j:=i) (by rw [hl];omega);have hf:=HA.out.frozen i;have HAA:=Hd (HA.out.set i k);have HBB:=Hd (hb.setCell (p:=⟨w.heap.size,i,none⟩) (Nat.le_refl _) (wd k));have HL:=Hd (show (cur.set i k).length=i+1 by simp [hl]);have HD:=Hd hd
   have i1:(i:Int)<((i+1:Nat):Int):=by omega
   have hk4:(k:Int) % 4294967296=(k:Int):=by omega
   clear hd hl hb HI HA;go_wp2
   go_ret
   exact⟨cur.set i k,⟨_,i+1,rfl,HL.out,HAA.out,Nat.le_refl _,HBB.out⟩,HD.out.2,HL.out,HD.out.1⟩
theorem getElem_map_wd{zs:List Nat}{j:Nat}{u:Value}(h:(zs.map wd)[j]?=some u):j<zs.length/\u=wd (zs[j]?.getD 0):=by
 rw [List.getElem?_map] at h
 by_cases hj:j<zs.length
 ·rw [List.getElem?_eq_getElem hj] at h ⊢
  simp at h
  exact⟨hj,by simp [h]⟩
 ·rw [List.getElem?_eq_none (by omega)] at h;simp at h
theorem make_cap{N K:Int}{n k:Nat}(hN:N=n)(hK:K=k)(hnk:n<=k)(h:k<=34359738368)(w:World):
  (Instr.makeSlice 40 (.int .i64 N) (.int .i64 K)).run Tryz.prog w=.ok (.slice (some ⟨w.heap.size,0,none⟩) n k) (w.alloc (.cells (Array.replicate k (wd 0)) 117)):=by
 obtain⟨i0,hi,hz0,hz1,hz2⟩:=info_parts info_u32;subst hN hK;have hr:=run_make (P:=Tryz.prog) w 40 117 i0 (.int .u32 0) Tryz.underlying40 hi hz0 .i64 .i64 (n:Int) (k:Int) (by omega) (by omega) (by rw [hz2];omega) (by omega)
 simp only [Int.toNat_natCast] at hr
 have e:madeCells (Value.int .u32 0).cells k=Array.replicate k (wd 0):=by
  have:=toList_madeCells_one (.int .u32 0) k;rw [show (Value.int .u32 0).cells=#[.int .u32 0] from rfl];rw [<- Array.toArray_toList (xs:=madeCells #[Value.int .u32 0] k),this]
  simp
 rw [hr,hz1,Nat.mul_one,e]
theorem ownsRow_make(w:World)(n k:Nat)(hnk:n<=k)(hk:k<=34359738368):
  (w.alloc (.cells (Array.replicate k (wd 0)) 117)).ownsRow w.heap.size 117 1 (.slice (some ⟨w.heap.size,0,none⟩) n k) n ((List.replicate n 0).map wd):=by
 refine⟨by simp,.inr ⟨w.heap.size,k,Array.replicate k (wd 0),rfl,Nat.le_refl _,?_,hnk,by unfold maxLen;omega,by simp,by simp [Nat.min_eq_left hnk]⟩⟩;have:=Arr.zeros w k;unfold Arr at this
 simpa using this
theorem up_any(A:Option Addr)(n c k:Nat)(xs:List Nat)(w:World)(hx:U32s w A n c xs)(hn:n<=1073741824)(hk:k<=1073741824):
  Calls Tryz.prog 233 #[.slice A n c,.int .i64 (k:Int)] w (NewU32 w (digs (num xs*2^k))):=by
 obtain⟨q,hq⟩:∃ q,k / 32=q:=⟨_,rfl⟩
 obtain⟨s,hs⟩:∃ s,k % 32=s:=⟨_,rfl⟩
 have e1:(k:Int) / 32=(q:Int):=by omega
 have e2:(k:Int) % 32=(s:Int):=by omega
 have ek:k=32*q+s:=by omega
 have hq1:q<=1073741824:=by omega
 have hs1:s<32:=by omega
 have hmk:=fun W=>make_cap (N:=(q:Int)) (K:=(q:Int)+(n:Int)+1) (n:=q) (k:=q+n+1) rfl (by omega) (by omega) (by omega) W;have HS:=Hd fun (W:World) (hb:Below w.heap.size w W)=>shift_any A n c s xs W (hx.below hb) hs1 hn;have EK:=Hd ek;clear hx hq hs ek
 obtain⟨w1,hw1⟩:∃ w1,w.alloc (.cells (Array.replicate (q+n+1) (wd 0)) 117)=w1:=⟨_,rfl⟩
 have HB1:=Hd (show Below w.heap.size w w1 from by rw [<- hw1];exact below_alloc w _);have HO1:=Hd (show w1.ownsRow w.heap.size 117 1 (.slice (some ⟨w.heap.size,0,none⟩) q (q+n+1)) q ((List.replicate q 0).map wd) from by rw [<- hw1];exact ownsRow_make w q _ (by omega) (by omega));have HW1:=Hd hw1;clear hw1
 go_enter Tryz.func233,Tryz.ntmps233
 go_wp2_with fail;rw [HW1.out];refine (HS.out _ HB1.out).mono ?_;rintro e w2 ⟨zs,⟨g,nn,rfl,hl,hA,hg,hb⟩,hz,hl2,hv⟩
 obtain rfl:nn=n+1:=by omega
 have HO2:=Hd (HO1.out.kept (row:=some g) (w':=w2) ⟨hb.os,hb.tape,hb.output,hb.size,fun j hj _=>hb.block j hj⟩ (.inr (fun e=>by
  have h1:w.heap.size<w1.heap.size:=(HO1.out.lt w.heap.size rfl).2
  simp [Value.ownBlock] at e;omega)))
 obtain⟨i0,hi0,hz0,hz1,hz2⟩:=info_parts info_u32;have HA:=Hd hA;have HB2:=Hd (HB1.out.trans (hb.mono HB1.out.size));have HZ:=Hd hz;have HV:=Hd hv;have HL:=Hd hl2;have hgw:w.heap.size<=g:=Nat.le_trans HB1.out.size hg
 have HNE:=Hd (show w.heap.size≠g from fun e=>by
  have h1:=(HO1.out.lt _ rfl).2;have h2:w.heap.size<w1.heap.size:=h1
  omega)
 clear hb hA hz hv hl2 hl HB1 HO1 HS hg
 go_wp2_with (at_builtin;(refine wpList_append_own_spare _ rfl (.tmp 15) (.tmp 19) 40 rfl w.heap.size 117 i0 1 Tryz.underlying40 hi0 hz1 w.heap.size q (q+n+1) _ rfl HO2.out ⟨g,0,none⟩ (n+1) (n+1) (zs.map wd) rfl ?c1 ?c2 ?c3 ?c4 ?_))
 case c1=>simp [HL.out]
 case c2=>
  intro j u hu;obtain⟨hj,rfl⟩:=getElem_map_wd hu;rw [show (⟨g,0,none⟩:Addr).add j=⟨g,j,none⟩ from by unfold Addr.add;split<;>simp_all]
  exact HA.out.cell hj
 case c3=>intro u hu;simp at hu;obtain⟨_,_,rfl⟩:=hu;rfl
 case c4=>omega
 intro w3 hown3 hgrow3;rw [show List.replicate q (wd 0) ++ zs.map wd=(List.replicate q 0 ++ zs).map wd from by simp] at hown3;have hw3:W32 (List.replicate q 0 ++ zs):=(W32.replicate q).append HZ.out;have hu:=U32s.own hown3 hw3 (by omega)
 have hval:num (List.replicate q 0 ++ zs)=num xs*2^k:=by
  rw [num_append,num_replicate,List.length_replicate,HV.out,EK.out,Nat.pow_add,Nat.zero_add]
  ac_rfl
 have HC:=Hd (cut_any _ _ _ _ _ hu);have HD:=Hd hu.cutd;rw [hval] at HD;have HB3:=Hd (below_grown HB2.out hgrow3 (Nat.le_refl _) HB2.out.size)
 obtain⟨kk,hkk⟩:∃ kk,wlen (List.replicate q 0 ++ zs)=kk:=⟨_,rfl⟩
 rw [hkk] at HC HD;clear hkk hval hu hw3 hown3 hgrow3;go_wp2_with fail;refine HC.out.mono ?_;rintro e w' ⟨rfl,rfl⟩;go_wp2
 go_ret
 exact⟨_,kk,kk,rfl,HD.out,HB3.out⟩
theorem nshl_any(A:Option Addr)(n c k:Nat)(xs:List Nat)(w:World)(hx:U32s w A n c xs)(hl:wlen xs<=16384)(hk:blen (num xs)+k<=524288):
  Calls Tryz.prog 202 #[.slice A n c,.int .i64 (k:Int)] w (NewU32E w (digs (num xs*2^k))):=by
 have HW:=Hd (nwords_any A n c xs w hx);have n1:=hx.small;have c1:=hx.cap;have l1:=wlen_le xs;rw [hx.len] at l1;have e1:=num_trim xs;rw [trim_eq_take] at e1;have h0:=wlen_eq_zero (l:=xs);have HX0:=hx.take l1
 obtain⟨p,hp⟩:∃ p,wlen xs=p:=⟨_,rfl⟩
 rw [hp] at HW l1 hl e1 HX0 h0
 obtain⟨us,hus⟩:∃ l,xs.take p=l:=⟨_,rfl⟩
 rw [hus] at e1 HX0;rw [<- e1] at hk h0 ⊢
 have hlp:wlen us<=16384:=by
  have h2:=wlen_le us;rw [HX0.len] at h2;omega
 have HLG:=Hd fun (W:World) (hb:Below w.heap.size w W)=>long_one W.heap.size A p c us (W.alloc (.cells #[.slice A p c] 40)) ((HX0.below hb).alloc _) (by simp [World.cell?_alloc_new]) hlp;have HL:=Hd fun (W:World) (hb:Below w.heap.size w W)=>nlen_any A p c us W (HX0.below hb);have HU:=Hd fun (W:World) (hb:Below w.heap.size w W)=>up_any A p c k us W (HX0.below hb) (by omega) (by omega);have HB0:=Hd (Below.refl w.heap.size w)
 obtain⟨b,hb⟩:∃ b,blen (num us)=b:=⟨_,rfl⟩
 rw [hb] at HL hk;clear hx hp hus e1 HX0 hlp hb
 rcases Nat.eq_zero_or_pos p with hp0 | hp0
 ·subst hp0
  have hz:num us*2^k=0:=by rw [h0.1 rfl,Nat.zero_mul]
  rw [hz,digs_zero];clear hz h0 HU HL
  go_enter Tryz.func202,Tryz.ntmps202
  go_wp2_with fail;refine HW.out.mono ?_;rintro e w' ⟨rfl,rfl⟩;go_wp2_with fail;refine (HLG.out _ HB0.out).mono ?_;rintro e w' ⟨rfl,rfl⟩;go_wp2
  go_ret2
  exact⟨none,0,0,rfl,U32s.nil _ _ _,below_alloc _ _⟩
 ·have hq:((p:Int) == 0)=false:=by simp;omega
  have hk2:¬ (k:Int) > 524288 - (b:Int):=by omega
  clear h0
  go_enter Tryz.func202,Tryz.ntmps202
  go_wp2_with fail;refine HW.out.mono ?_;rintro e w' ⟨rfl,rfl⟩;go_wp2_with fail;refine (HLG.out _ HB0.out).mono ?_;rintro e w' ⟨rfl,rfl⟩;have HB1:=Hd (HB0.out.alloc HB0.out.size (.cells #[.slice A p c] 40));clear HLG HB0;go_wp2_with fail;refine (HL.out _ HB1.out).mono ?_;rintro e w' ⟨rfl,rfl⟩;go_wp2_with fail;refine (HU.out _ HB1.out).mono ?_;rintro e w2 ⟨A2,n2,c2,rfl,hu,hb⟩;have HUU:=Hd hu;have HBB:=Hd (HB1.out.trans (hb.mono HB1.out.size));clear hu hb HU HL HB1;go_wp2
  go_ret2
  exact⟨_,n2,c2,rfl,HUU.out,HBB.out⟩
end
section
open Go.RowKit
def Win(w:World)(ad:Addr)(pre ws post:List Nat):Prop:=∃ g,ad=⟨g,pre.length,none⟩/\Arr w g (pre ++ (ws ++ post))
theorem add_none(g j i:Nat):(⟨g,j,none⟩:Addr).add i=⟨g,j+i,none⟩:=by unfold Addr.add;split<;>simp_all
theorem mid_get{pre ws post:List Nat}{i:Nat}(hi:i<ws.length):(pre ++ (ws ++ post))[pre.length+i]?.getD 0=ws[i]?.getD 0:=by
 rw [List.getElem?_append_right (by omega),Nat.add_sub_cancel_left,List.getElem?_append_left hi]
theorem mid_set{pre ws post:List Nat}{i:Nat}(hi:i<ws.length)(x:Nat):(pre ++ (ws ++ post)).set (pre.length+i) x=pre ++ (ws.set i x ++ post):=by
 rw [List.set_append_right _ _ (by omega),Nat.add_sub_cancel_left,List.set_append_left _ _ hi]
theorem Win.cell{w:World}{ad:Addr}{pre ws post:List Nat}(h:Win w ad pre ws post){i:Nat}(hi:i<ws.length):w.cell? (ad.add i)=some (wd (ws[i]?.getD 0)):=by
 obtain⟨g,rfl,ha⟩:=h;rw [add_none,ha.cell (by simp;omega),mid_get hi]
theorem Win.frozen{w:World}{ad:Addr}{pre ws post:List Nat}(h:Win w ad pre ws post)(i:Nat):w.frozen? (ad.add i)=false:=by
 obtain⟨g,rfl,ha⟩:=h;rw [add_none];exact ha.frozen _
theorem Win.set{w:World}{ad:Addr}{pre ws post:List Nat}(h:Win w ad pre ws post){i:Nat}(hi:i<ws.length)(x:Nat):Win (w.setCell (ad.add i) (wd x)) ad pre (ws.set i x) post:=by
 obtain⟨g,rfl,ha⟩:=h;refine⟨g,rfl,?_⟩;rw [add_none,<- mid_set hi]
 exact ha.set _ _
theorem Win.drewN{w:World}{ad:Addr}{pre ws post:List Nat}(h:Win w ad pre ws post)(n:Nat):Win (w.drewN n) ad pre ws post:=h
theorem grown_setw{w0 w:World}{ad:Addr}(h:w0.grownBy w (some ad.block))(i:Nat)(v:Value):w0.grownBy (w.setCell (ad.add i) v) (some ad.block):=
 h.trans ⟨rfl,rfl,rfl,by simp,fun k _ hk=>Below.heap_setCell _ _ _ _ (fun e=>hk (by rw [e,block_of_add]))⟩
theorem _root_.Go.World.grownBy.drawn{w w':World}{r:Option Nat}(h:w.grownBy w' r)(n:Nat):w.grownBy (w'.drewN n) r:=
 h.trans ⟨rfl,rfl,rfl,Nat.le_refl _,fun _ _ _=>rfl⟩
theorem U32s.grown{w w':World}{A:Option Addr}{n c g:Nat}{xs:List Nat}(h:U32s w A n c xs)(hg:w.grownBy w' (some g))(hne:∀ ad,A=some ad->0<n->ad.block≠g):U32s w' A n c xs:=
 h.keep hg.size (fun ad e h0=>by
  obtain⟨ad',e',hlt',_⟩:=h.at_ h0;rw [e] at e';cases e'
  exact hg.block _ hlt' (fun h=>hne ad e h0 (by injection h)))
theorem Win.lt{w:World}{ad:Addr}{pre ws post:List Nat}(h:Win w ad pre ws post):ad.block<w.heap.size:=by
 obtain⟨g,rfl,ha⟩:=h
 exact ha.lt
theorem Win.u32s{w:World}{ad:Addr}{pre ws post:List Nat}(h:Win w ad pre ws post)(hw:W32 ws){n c:Nat}(hl:ws.length=n)(hs:n<=34359738368)(hc:n<=c):U32s w (some ad) n c ws:=
 ⟨hl,hc,hs,hw,fun _=>⟨ad,rfl,h.lt,fun _ hj=>h.cell (by omega)⟩⟩
theorem Arr.win{w:World}{g:Nat}{xs:List Nat}(h:Arr w g xs):Win w ⟨g,0,none⟩ [] xs []:=⟨g,rfl,by simpa using h⟩
end
section
open Go.RowKit
theorem back_win(ad:Addr)(n c s:Nat)(pre rs post:List Nat)(w:World)(hr:Win w ad pre rs post)(hc:n<=c)(hrw:W32 rs)(hrl:rs.length=n)(hs:s<32)(hn:n<=1073741824):
  Calls Tryz.prog 266 #[.slice (some ad) n c,.int .i64 (s:Int)] w fun e w'=>
   ∃ k,e=.returned (.slice (some ad) k k)/\U32s w' (some ad) k k (digs (num rs / 2^s))/\w.grownBy w' (some ad.block):=by
 have HR:=Hd hr;have HRW:=Hd hrw;have HRL:=Hd hrl;clear hr hrw hrl
 go_enter Tryz.func266,Tryz.ntmps266
 go_wp2
 go_loopw [5,6,9] (fun _ _ iv wr=>∃ (i:Nat) (cur:List Nat),iv=.int .i64 i/\i<=n/\BackArr rs cur s i/\Win wr ad pre cur post/\w.grownBy wr (some ad.block)) (fun _ _ iv _=>n - (intOf iv).toNat)
 case atStart=>exact⟨0,rs,rfl,Nat.zero_le _,BackArr.start _ _,HR.out,World.grownBy.refl w _⟩
 case round=>
  obtain⟨i,cur,rfl,hi,hinv,harr,hgr⟩:=hrel;have HI:=Hd hinv;have HA:=Hd harr;have HG:=Hd hgr;clear hinv harr hgr
  by_cases hlt:i<n
  ·have hf:=HA.out.frozen i
   have hll:cur.length=n:=by rw [HI.out.len (by rw [HRL.out];exact hi),HRL.out]
   have hcc:=HA.out.cell (i:=i) (by rw [hll];exact hlt);rw [HI.out.at (Nat.le_refl _)] at hcc;have hx1:=HRW.out.get i
   obtain⟨x,hxx⟩:∃ r,rs[i]?.getD 0=r:=⟨_,rfl⟩
   rw [hxx] at hcc hx1;have HXX:=Hd hxx;clear hxx
   by_cases hl2:i+1<n
   ·have hc2:=HA.out.cell (i:=i+1) (by rw [hll];exact hl2);rw [HI.out.at (by omega)] at hc2;rw [show ad.add (i+1)=⟨ad.block,ad.off+(i+1),none⟩ from by unfold Addr.add;simp] at hc2;have hy1:=HRW.out.get (i+1)
    obtain⟨y,hyy⟩:∃ r,rs[i+1]?.getD 0=r:=⟨_,rfl⟩
    rw [hyy] at hc2 hy1;have HYY:=Hd hyy;have HLL:=Hd hll;clear hyy hll;have hor:=or_join' (i:=32) (x:=y) (y:=x) (by omega) (by omega) (by omega);rw [show (2:Nat)^32=4294967296 from rfl,show ((y*4294967296:Nat):Int)=(y:Int)*4294967296 from by omega] at hor
    obtain⟨v,hv⟩:∃ v,x+y*4294967296=v:=⟨_,rfl⟩
    rw [hv] at hor
    have hsh:(v:Int) / (2:Int)^s=((v / 2^s:Nat):Int):=by rw [Int.natCast_ediv,Int.natCast_pow];rfl
    obtain⟨z,hz⟩:∃ z,v / 2^s=z:=⟨_,rfl⟩
    rw [hz] at hsh;have HV:=Hd hv;have HZ:=Hd hz
    have hv1:v<18446744073709551616:=by omega
    clear hv hz
    have i1:((i:Int)+1).toNat=i+1:=by omega
    go_wp2
    go_roundw
    case rel=>
     refine⟨i+1,cur.set i (z % 4294967296),by go_num,by omega,?_,?_,grown_setw HG.out _ _⟩
     ·rw [<- HZ.out]
      exact HI.out.step (by rw [HRL.out];exact hlt) HRW.out hs (by rw [HXX.out,HYY.out,<- HV.out];omega)
     ·exact HA.out.set (by rw [HLL.out];exact hlt) (z % 4294967296)
    case measure=>simp [intOf];omega
   ·have HYY:=Hd (show rs[i+1]?.getD 0=0 by rw [List.getElem?_eq_none (by rw [HRL.out];omega)];rfl)
    have hsh:(x:Int) / (2:Int)^s=((x / 2^s:Nat):Int):=by rw [Int.natCast_ediv,Int.natCast_pow];rfl
    obtain⟨z,hz⟩:∃ z,x / 2^s=z:=⟨_,rfl⟩
    rw [hz] at hsh;have HZ:=Hd hz;have HLL:=Hd hll;clear hz hll;go_wp2
    go_roundw
    case rel=>
     refine⟨i+1,cur.set i (z % 4294967296),by go_num,by omega,?_,?_,grown_setw HG.out _ _⟩
     ·rw [<- HZ.out]
      exact HI.out.step (by rw [HRL.out];exact hlt) HRW.out hs (by rw [HXX.out,HYY.out];omega)
     ·exact HA.out.set (by rw [HLL.out];exact hlt) (z % 4294967296)
    case measure=>simp [intOf];omega
  ·obtain rfl:i=n:=by omega
   have hi1:=HI.out;have hw1:=hi1.w32 HRW.out
   have hl1:cur.length=i:=by rw [hi1.len (by rw [HRL.out];exact Nat.le_refl _),HRL.out]
   have hu:=HA.out.u32s hw1 hl1 (by omega) hc
   have hd:num cur=num rs / 2^s:=by
    have hl:=HRL.out;subst hl
    exact hi1.done HRW.out
   have HC:=Hd (cut_any _ _ _ _ _ hu);have HD:=Hd hu.cutd;rw [hd] at HD
   obtain⟨kk,hkk⟩:∃ kk,wlen cur=kk:=⟨_,rfl⟩
   rw [hkk] at HC HD;clear hkk hu hd hi1 hw1 hl1;go_wp2_with fail;refine HC.out.mono ?_;rintro e w' ⟨rfl,rfl⟩;go_wp2
   go_ret
   exact⟨kk,rfl,HD.out,HG.out⟩
theorem back_any(g n s:Nat)(rs:List Nat)(w:World)(hr:Arr w g rs)(hrw:W32 rs)(hrl:rs.length=n)(hs:s<32)(hn:n<=1073741824):
  Calls Tryz.prog 266 #[.slice (some ⟨g,0,none⟩) n n,.int .i64 (s:Int)] w fun e w'=>
   ∃ k,e=.returned (.slice (some ⟨g,0,none⟩) k k)/\U32s w' (some ⟨g,0,none⟩) k k (digs (num rs / 2^s))/\w.grownBy w' (some g):=
 back_win ⟨g,0,none⟩ n n s [] rs [] w hr.win (Nat.le_refl _) hrw hrl hs hn
end
section
open Go.RowKit
theorem low_mask{x s:Nat}(hx:x<4294967296)(hs:s<32):bits .and .u32 (x:Int) ((2^s - 1:Nat):Int)=((x % 2^s:Nat):Int):=by
 have h:=Nat.two_pow_pos s;have h2:2^s<=2^31:=Nat.pow_le_pow_right (by omega) (by omega);rw [u32_and_nat _ _ hx (by omega),Nat.and_two_pow_sub_one_eq_mod]
theorem U32s.dropped{w:World}{ad:Addr}{n c q:Nat}{xs:List Nat}(h:U32s w (some ad) n c xs)(hq:q<n):U32s w (some (ad.add q)) (n - q) (c - q) (xs.drop q):=
 ⟨by rw [List.length_drop,h.len],by have:=h.cap;omega,by have:=h.small;omega,h.w32.drop q,fun hn=>by
   obtain⟨ad',e,hb,hc⟩:=h.at_ (by omega)
   cases e
   refine⟨_,rfl,by rw [block_of_add];exact hb,fun j hj=>?_⟩
   rw [add_of_add,hc _ (by omega),List.getElem?_drop]⟩
def LostInv(us:List Nat)(q s i:Nat)(L:Bool):Prop:=L=decide (num (us.take i)+us[q]?.getD 0 % 2^s≠0)
theorem LostInv.step{us:List Nat}{q s i:Nat}(h:LostInv us q s i false){x:Nat}(hx:us[i]?.getD 0=x):LostInv us q s (i+1) (decide (x≠0)):=by
 unfold LostInv at *;have h1:=of_decide_eq_false h.symm
 have h2:num (us.take i)=0/\us[q]?.getD 0 % 2^s=0:=by omega
 rw [num_take_next,hx,h2.1,h2.2,Nat.zero_add,Nat.add_zero];have hp:=Nat.two_pow_pos (32*i)
 congr 1
 apply propext
 constructor
 ·intro h h3
  rcases Nat.mul_eq_zero.1 h3 with h4 | h4<;>omega
 ·intro h h3;exact h (by rw [h3,Nat.mul_zero])
theorem LostInv.more{us:List Nat}{q s i j:Nat}(h:LostInv us q s i true)(hj:i<=j):LostInv us q s j true:=by
 unfold LostInv at *;have h1:=of_decide_eq_true h.symm;refine (decide_eq_true ?_).symm;intro h2
 apply h1
 have e:=num_take_drop (us.take j) i;rw [List.take_take,Nat.min_eq_left hj] at e
 have h3:num (us.take j)=0:=by omega
 have h4:us[q]?.getD 0 % 2^s=0:=by omega
 rw [h3] at e
 omega
theorem LostInv.done{us:List Nat}{q s k:Nat}{L:Bool}(h:LostInv us q s q L)(hw:W32 us)(hs:s<32)(hk:k=32*q+s):L=decide (num us % 2^k≠0):=by
 unfold LostInv at h;rw [h,hk,right_lost hw q s hs];have hp:=Nat.two_pow_pos (32*q)
 congr 1
 apply propext
 constructor
 ·intro h h3
  apply h
  have h4:2^(32*q)*(us[q]?.getD 0 % 2^s)=0:=by omega
  rcases Nat.mul_eq_zero.1 h4 with h5 | h5<;>omega
 ·intro h h3
  apply h
  have h4:us[q]?.getD 0 % 2^s=0:=by omega
  rw [h4,Nat.mul_zero];omega
theorem down_any(A:Option Addr)(n c k:Nat)(xs:List Nat)(w:World)(hx:U32s w A n c xs)(hl:wlen xs<=16384)(hk:k<=1073741824):
  Calls Tryz.prog 270 #[.slice A n c,.int .i64 (k:Int)] w (NewU32B w (digs (num xs / 2^k)) (decide (num xs % 2^k≠0))):=by
 have HW:=Hd (nwords_any A n c xs w hx);have n1:=hx.small;have c1:=hx.cap;have l1:=wlen_le xs;rw [hx.len] at l1;have e1:=num_trim xs;rw [trim_eq_take] at e1;have h0:=wlen_eq_zero (l:=xs);have hlt:=num_lt_wlen hx.w32;have HX0:=hx.take l1
 obtain⟨p,hp⟩:∃ p,wlen xs=p:=⟨_,rfl⟩
 rw [hp] at HW l1 hl e1 HX0 h0 hlt
 obtain⟨us,hus⟩:∃ l,xs.take p=l:=⟨_,rfl⟩
 rw [hus] at e1 HX0;rw [<- e1] at h0 hlt ⊢
 obtain⟨q,hq⟩:∃ q,k / 32=q:=⟨_,rfl⟩
 obtain⟨s,hs⟩:∃ s,k % 32=s:=⟨_,rfl⟩
 have d1:(k:Int) / 32=(q:Int):=by omega
 have d2:(k:Int) % 32=(s:Int):=by omega
 have ek:k=32*q+s:=by omega
 have hs1:s<32:=by omega
 have hq1:q<=1073741824:=by omega
 have HX:=Hd HX0;have EK:=Hd ek;have HLT:=Hd hlt;have H0:=Hd h0;clear hx hp hus e1 HX0 hq hs ek hlt h0
 by_cases hqp:p<=q
 ·have hz:num us / 2^k=0/\num us % 2^k=num us:=by
   have h1:num us<2^k:=Nat.lt_of_lt_of_le HLT.out (Nat.pow_le_pow_right (by omega) (by have:=EK.out;omega))
   exact⟨Nat.div_eq_of_lt h1,Nat.mod_eq_of_lt h1⟩
  rw [hz.1,hz.2,digs_zero]
  have hb:decide (num us≠0)=decide (0<p):=by
   congr 1
   apply propext
   have:=H0.out
   omega
  rw [hb];clear hz hb
  go_enter Tryz.func270,Tryz.ntmps270
  go_wp2_with fail
  go_step3
  go_wp2_with fail;refine HW.out.mono ?_;rintro e w' ⟨rfl,rfl⟩;go_wp2
  go_ret2
  exact⟨none,0,0,rfl,U32s.nil _ _ _,Below.refl _ _⟩
 ·obtain⟨LF,hLF⟩:∃ L,decide (num us % 2^k≠0)=L:=⟨_,rfl⟩
  rw [hLF];have HLF:=Hd hLF;clear hLF
  have hqp2:¬ (p:Int)<=(q:Int):=by omega
  obtain⟨ad,rfl,hc⟩:=HX.out.cell (j:=q) (by omega);have hx1:=HX.out.lt q
  obtain⟨x,hxx⟩:∃ r,us[q]?.getD 0=r:=⟨_,rfl⟩
  rw [hxx] at hc hx1;have hm:=low_mask hx1 hs1;have hp:=Nat.two_pow_pos s;have hp2:2^s<=2147483648:=Nat.pow_le_pow_right (n:=2) (by omega) (show s<=31 by omega)
  have hL0:LostInv us q s 0 (decide (x % 2^s≠0)):=by
   unfold LostInv;rw [hxx];simp [num]
  have e5:((2:Int)^s)=((2^s:Nat):Int):=by rw [Int.natCast_pow];rfl
  obtain⟨P,hP⟩:∃ P,2^s=P:=⟨_,rfl⟩
  rw [hP] at hm hp hp2 hL0 e5;rw [show ((P - 1:Nat):Int)=(P:Int) - 1 from by omega] at hm
  obtain⟨y,hy⟩:∃ y,x % P=y:=⟨_,rfl⟩
  rw [hy] at hm hL0
  have hw1:IntKind.u32.wrap ((P:Int) - 1)=(P:Int) - 1:=by rw [IntKind.wrap_u32];omega
  have HL0:=Hd hL0;clear hP hL0 hy
  have hi1:(q:Int)<(n:Int):=by omega
  have hi2:(q:Int)<(p:Int):=by omega
  clear hxx
  go_enter Tryz.func270,Tryz.ntmps270
  go_wp2_with fail
  go_step3
  go_wp2_with fail;refine HW.out.mono ?_;rintro e w' ⟨rfl,rfl⟩;go_wp2_with fail
  go_quiet (fail)
  obtain⟨L0,hL0⟩:∃ L,((y:Int) != 0)=L:=⟨_,rfl⟩
  have HLL:=Hd (show LostInv us q s 0 L0 from by
   have h1:=HL0.out;rw [<- hL0]
   have e:decide (y≠0)=((y:Int) != 0):=by
    by_cases h0:y=0
    ·subst h0;rfl
    ·have h2:((y:Int) == 0)=false:=by simp;omega
     simp [h0,bne,h2]
   rwa [e] at h1)
  rw [hL0]
  obtain⟨w1,hw1⟩:∃ w1,w.drewN nq=w1:=⟨_,rfl⟩
  have HB1:=Hd (show Below w.heap.size w w1 from by rw [<- hw1];exact below_drewN (Below.refl _ _) nq);rw [hw1];clear hL0 HL0 hm hw1 e5 hp2 hp hc hx1;go_wp2
  go_step3
  go_wp2
  go_loop [6,7,33,36,38] (fun lv _ iv _ _=>∃ (i:Nat) (L:Bool),iv=.int .i64 i/\lv=.bool L/\i<=q/\LostInv us q s i L) (fun _ _ iv _ _=>q - (intOf iv).toNat)
  case atStart=>exact⟨0,L0,rfl,rfl,Nat.zero_le _,HLL.out⟩
  case round=>
   obtain⟨i,L,rfl,rfl,hi,hinv⟩:=hrel;have HI:=Hd hinv;clear hinv HLL
   by_cases hlt:i<q
   ·cases L
    ·obtain⟨ad',e,hc⟩:=(HX.out.below HB1.out).cell (j:=i) (by omega)
     cases e
     obtain⟨x,hxx⟩:∃ r,us[i]?.getD 0=r:=⟨_,rfl⟩
     rw [hxx] at hc;have HST:=Hd (HI.out.step hxx)
     have hip:(i:Int)<(p:Int):=by omega
     clear hxx HI
     by_cases hx0:x=0
     ·subst hx0;go_wp2
      go_round
      case rel=>exact⟨i+1,false,by go_num,rfl,by omega,HST.out⟩
      case measure=>simp [intOf];omega
     ·have hq:((x:Int) != 0)=true:=by simp;omega
      go_wp2
      go_round
      case rel=>
       refine⟨i+1,true,by go_num,rfl,by omega,?_⟩;have:=HST.out
       rwa [decide_eq_true hx0] at this
      case measure=>simp [intOf];omega
    ·have HDN:=Hd ((HI.out.more (show i<=q by omega)).done HX.out.w32 hs1 EK.out);have HD:=Hd ((HX.out.below HB1.out).dropped (q:=q) (by omega));have HN:=Hd (nnorm_any _ _ _ _ _ HD.out)
     have hlen:(digs (num (us.drop q))).length<=16384:=by
      rw [<- trim_eq_digs HD.out.w32];have h1:=wlen_le (us.drop q);rw [HD.out.len] at h1;have h2:wlen (us.drop q)=(trim (us.drop q)).length:=rfl
      omega
     have hval:num (us.drop q) / 2^s=num us / 2^k:=by
      rw [num_drop HX.out.w32,Nat.div_div_eq_div_mul,<- Nat.pow_add,EK.out]
     have HLEN:=Hd hlen;have HVAL:=Hd hval;clear hlen hval;go_wp2_with fail;refine HN.out.mono ?_;rintro e w2 ⟨g,m,rfl,hm,hA,hg,hb⟩;have hbk:=back_any g m s _ w2 hA (W32.digs _) hm hs1 (by rw [<- hm];have:=HLEN.out;omega);rw [num_digs,HVAL.out] at hbk;have HBK:=Hd hbk;have HB2:=Hd (HB1.out.trans (hb.mono HB1.out.size));have hg2:w.heap.size<=g:=Nat.le_trans HB1.out.size hg;clear hbk hb hm hA hg;go_wp2_with fail;refine HBK.out.mono ?_;rintro e w3 ⟨kk,rfl,hu,hgr⟩;have HU:=Hd hu;have HB3:=Hd (below_grown HB2.out hgr hg2 HB2.out.size);clear hu hgr;go_wp2
     try rw [Exit.noGoto_ret]
     go_ret2
     exact⟨_,kk,kk,by rw [<- HLF.out,<- HDN.out];rfl,HU.out,HB3.out⟩
   ·obtain rfl:i=q:=by omega
    have HDN:=Hd (HI.out.done HX.out.w32 hs1 EK.out);have HD:=Hd ((HX.out.below HB1.out).dropped (q:=i) (by omega));have HN:=Hd (nnorm_any _ _ _ _ _ HD.out)
    have hlen:(digs (num (us.drop i))).length<=16384:=by
     rw [<- trim_eq_digs HD.out.w32];have h1:=wlen_le (us.drop i);rw [HD.out.len] at h1;have h2:wlen (us.drop i)=(trim (us.drop i)).length:=rfl
     omega
    have hval:num (us.drop i) / 2^s=num us / 2^k:=by
     rw [num_drop HX.out.w32,Nat.div_div_eq_div_mul,<- Nat.pow_add,EK.out]
    have HLEN:=Hd hlen;have HVAL:=Hd hval;clear hlen hval;go_wp2_with fail;refine HN.out.mono ?_;rintro e w2 ⟨g,m,rfl,hm,hA,hg,hb⟩;have hbk:=back_any g m s _ w2 hA (W32.digs _) hm hs1 (by rw [<- hm];have:=HLEN.out;omega);rw [num_digs,HVAL.out] at hbk;have HBK:=Hd hbk;have HB2:=Hd (HB1.out.trans (hb.mono HB1.out.size));have hg2:w.heap.size<=g:=Nat.le_trans HB1.out.size hg;clear hbk hb hm hA hg;go_wp2_with fail;refine HBK.out.mono ?_;rintro e w3 ⟨kk,rfl,hu,hgr⟩;have HU:=Hd hu;have HB3:=Hd (below_grown HB2.out hgr hg2 HB2.out.size);clear hu hgr;go_wp2
    try rw [Exit.noGoto_ret]
    go_ret2
    exact⟨_,kk,kk,by rw [<- HLF.out,<- HDN.out];rfl,HU.out,HB3.out⟩
theorem nshr_any(A:Option Addr)(n c k:Nat)(xs:List Nat)(w:World)(hx:U32s w A n c xs)(hl:wlen xs<=16384)(hk:k<=1073741824):
  Calls Tryz.prog 254 #[.slice A n c,.int .i64 (k:Int)] w fun e w'=>
   ∃ A2 n2 c2,e=.returned (.tuple #[.slice A2 n2 c2,.bool (decide (num xs % 2^k≠0)),.int .i64 0])/\U32s w' A2 n2 c2 (digs (num xs / 2^k))/\Below w.heap.size w w':=by
 have HLG:=Hd (long_one w.heap.size A n c xs (w.alloc (.cells #[.slice A n c] 40)) (hx.alloc _) (by simp [World.cell?_alloc_new]) hl);have HD:=Hd (down_any A n c k xs (w.alloc (.cells #[.slice A n c] 40)) (hx.alloc _) hl hk)
 obtain⟨L,hL⟩:∃ L,decide (num xs % 2^k≠0)=L:=⟨_,rfl⟩
 rw [hL] at HD ⊢;clear hx hL
 go_enter Tryz.func254,Tryz.ntmps254
 go_wp2_with fail;refine HLG.out.mono ?_;rintro e w' ⟨rfl,rfl⟩;go_wp2_with fail;refine HD.out.mono ?_;rintro e w2 ⟨A2,n2,c2,rfl,hu,hb⟩;have HU:=Hd hu;have HB:=Hd ((below_alloc w _).trans (hb.mono (below_alloc w _).size));clear hu hb;go_wp2
 go_ret3
 exact⟨A2,n2,c2,rfl,HU.out,HB.out⟩
end
section
open Go.RowKit Ieee
attribute [local go_sem] run_store_float run_frombits run_bitsof run_negf
theorem neg_pat{i:Int}(h0:-(M:Int)<=i)(h1:i<=M)(hi:i≠0):Op.negFloat .f64 (pat i)=pat (-i):=by
 have h:=negFloat_val (pat_lt h0 h1);rw [idx_pat h0 h1,rung_pat h0 h1] at h;have hM:M=9218868437227405312:=rfl;have h2:=pl_real h.1 (by omega);rw [h.2.2] at h2;have hc:=pat_cases h.1;unfold pl at h2;rw [if_neg (by omega),if_neg (by omega)] at h2
 exact h2
theorem beyond_any(d:Int)(neg:Bool)(w:World)(hd:d=-1\/d=1):
  Calls Tryz.prog 253 #[.int .i64 d,.bool neg] w fun e w'=>e=.returned (.float .f64 (pat (sg neg (if (decide (d=1) != neg) then M else M - 1))))/\w=w':=by
 have HP:=Hd (inf_pos w)
 have n1:Op.negFloat .f64 9218868437227405312=18442240474082181120:=by decide
 have n2:Op.negFloat .f64 9218868437227405311=18442240474082181119:=by decide
 rcases hd with rfl | rfl<;>cases neg
 ·rw [show pat (sg false (if (decide ((-1:Int)=1) != false) then M else M - 1))=9218868437227405311 from by decide]
  go_enter Tryz.func253,Tryz.ntmps253
  go_wp2_with fail;refine HP.out.mono ?_;rintro e w' ⟨rfl,rfl⟩;go_wp2
  go_ret
  exact⟨rfl,rfl⟩
 ·rw [show pat (sg true (if (decide ((-1:Int)=1) != true) then M else M - 1))=18442240474082181120 from by decide]
  go_enter Tryz.func253,Tryz.ntmps253
  go_wp2_with fail;refine HP.out.mono ?_;rintro e w' ⟨rfl,rfl⟩;go_wp2
  go_ret
  exact⟨rfl,rfl⟩
 ·rw [show pat (sg false (if (decide ((1:Int)=1) != false) then M else M - 1))=9218868437227405312 from by decide]
  go_enter Tryz.func253,Tryz.ntmps253
  go_wp2_with fail;refine HP.out.mono ?_;rintro e w' ⟨rfl,rfl⟩;go_wp2
  go_ret
  exact⟨rfl,rfl⟩
 ·rw [show pat (sg true (if (decide ((1:Int)=1) != true) then M else M - 1))=18442240474082181119 from by decide]
  go_enter Tryz.func253,Tryz.ntmps253
  go_wp2_with fail;refine HP.out.mono ?_;rintro e w' ⟨rfl,rfl⟩;go_wp2
  go_ret
  exact⟨rfl,rfl⟩
theorem of_nought(d:Int)(neg more:Bool)(A:Option Addr)(n c:Nat)(xs:List Nat)(exp:Int)(w:World)(hx:U32s w A n c xs)(h0:num xs=0):
  Calls Tryz.prog 230 #[.int .i64 d,.bool neg,.slice A n c,.int .i64 exp,.bool more] w fun e w'=>e=.returned (.float .f64 0)/\w=w':=by
 have HL:=Hd (nlen_any A n c xs w hx);rw [h0,blen_zero] at HL
 go_enter Tryz.func230,Tryz.ntmps230
 go_wp2_with fail;refine HL.out.mono ?_;rintro e w' ⟨rfl,rfl⟩;go_wp2
 go_ret
 exact⟨rfl,rfl⟩
def Cutd(S:Nat)(exp E:Int)(v:Nat)(lost more:Bool):Prop:=
 (0<=E - 2 - exp->v=S / 2^(E - 2 - exp).toNat/\(lost=true↔S % 2^(E - 2 - exp).toNat≠0))/\(E - 2 - exp<0->v=S*2^(-(E - 2 - exp)).toNat/\lost=false/\more=false)
theorem of_pos(d:Int)(neg more:Bool)(A:Option Addr)(n c S p q:Nat)(xs:List Nat)(exp:Int)(w:World)(hx:U32s w A n c xs)(hS:num xs=S)(hS0:0<S)(hl:wlen xs<=16384)(hd:d=-1\/d=1)
  (hD:Dg S p q exp more)(hq:0<q)(hmore:more=true->55<=blen S)(he1:-1000000<=exp)(he2:exp<=1099511627776):
  Rt 230 #[.int .i64 d,.bool neg,.slice A n c,.int .i64 exp,.bool more] (.float .f64 (pat (rndI d (rv neg p q)))) w:=by
 have hL:=nlen_any A n c xs w hx;rw [hS] at hL;have hsc:=hD.sc hS0
 have hp:0<p:=by
  obtain⟨U,h1,h2,h3,h4,-⟩:=hD
  rcases Nat.eq_zero_or_pos p with h | h
  ·subst h;have:0<S*2^(exp+U).toNat*q:=Nat.mul_pos (Nat.mul_pos hS0 (Nat.two_pow_pos _)) hq
   omega
  ·exact h
 have hrnd:=(rnd_ans (neg:=neg) hp hq hsc hd).eq;rw [<- hrnd]
 have hbl:blen S<=524288:=by
  obtain⟨K,hK⟩:∃ K,K=524288:=⟨_,rfl⟩
  have h1:=num_lt_wlen hx.w32;rw [hS] at h1;rw [<- hK]
  exact blen_le_iff.2 (Nat.lt_of_lt_of_le h1 (Nat.pow_le_pow_right (by omega) (by omega)))
 have hb0:0<blen S:=by
  rcases Nat.eq_zero_or_pos (blen S) with h | h
  ·rw [blen_eq_zero] at h;omega
  ·exact h
 obtain⟨b,hb⟩:∃ b,blen S=b:=⟨_,rfl⟩
 obtain⟨f,hf⟩:∃ f:Int,(b:Int) - 1+exp=f:=⟨_,rfl⟩
 rw [hb] at hL hsc hmore hbl hb0 hrnd ⊢;rw [hf] at hsc hrnd ⊢
 obtain⟨away,haw⟩:∃ a,(decide (d=1) != neg)=a:=⟨_,rfl⟩
 have HBY:=Hd (beyond_any d neg w hd);rw [haw] at HBY ⊢;have HL:=Hd hL;have HSC:=Hd hsc;have HX:=Hd hx;have HD:=Hd hD;have HAW:=Hd haw;have HS:=Hd hS;have HHD:=Hd hd
 have hqe:((b:Int) == 0)=false:=by simp;omega
 clear hL hsc hx hD haw hS hd hrnd hp
 by_cases hov:1023<f
 ·have hP:ansT p q f away=if away then M else M - 1:=by unfold ansT;rw [if_pos hov]
  rw [<- hP] at HBY
  obtain⟨T,hT⟩:∃ T,pat (sg neg (ansT p q f away))=T:=⟨_,rfl⟩
  rw [hT] at HBY ⊢;clear hP hT
  go_enter Tryz.func230,Tryz.ntmps230
  go_wp2_with fail;refine HL.out.mono ?_;rintro e w' ⟨rfl,rfl⟩;go_wp2_with fail;refine HBY.out.mono ?_;rintro e w' ⟨rfl,rfl⟩;go_wp2
  go_ret
  exact⟨rfl,Below.refl _ _⟩
 ·have hfe:=lastBit_bounds (f:=f) (by omega);have hwlt:=w_lt hq HSC.out;have hwge:=w_ge hq HSC.out
  have hP:ansT p q f away=if away then capT p q (lastBit f) else cutT p q (lastBit f):=by unfold ansT;rw [if_neg hov]
  obtain⟨E,hE⟩:∃ E,lastBit f=E:=⟨_,rfl⟩
  rw [hE] at hfe hwlt hwge hP
  have hE2:max ((b:Int) - 53+exp) (-1074)=E:=by unfold lastBit at hE;split at hE<;>omega
  have HP:=Hd hP
  obtain⟨C,hC⟩:∃ C,E - 2 - exp=C:=⟨_,rfl⟩
  have HC:=Hd hC
  obtain⟨AA,hAA⟩:∃ AA,pat (sg neg (ansT p q f away))=AA:=⟨_,rfl⟩
  rw [hAA];have HAA:=Hd hAA;clear hP hE hAA
  go_enter Tryz.func230,Tryz.ntmps230
  go_wp2_with fail;refine HL.out.mono ?_;rintro e w' ⟨rfl,rfl⟩
  go_upto_if 44 with fail
  clear hC
  obtain⟨cb,hcb⟩:∃ x,decide (0<C)=x:=⟨_,rfl⟩
  rw [hcb];have HCB:=Hd hcb;clear hcb
  go_cut [14,15] from 45 to 58 (fun s14 s15 wx=>∃ A1 n1 c1 lost v,s14=.slice A1 n1 c1/\s15=.bool lost/\U32s wx A1 n1 c1 (digs v)/\Cutd S exp E v lost more/\Below w.heap.size w wx)
  case first=>
   have hC:=HC.out
   by_cases hc:0<C
   ·obtain⟨k,hk⟩:∃ k:Nat,E - 2 - exp=k:=⟨(E - 2 - exp).toNat,by omega⟩
    obtain rfl:C=k:=by omega
    obtain rfl:cb=true:=by rw [<- HCB.out];exact decide_eq_true hc
    have HSH:=Hd (nshr_any A n c k xs w HX.out hl (by omega));rw [HS.out] at HSH;have HCU:=Hd (show Cutd S exp E (S / 2^k) (decide (S % 2^k≠0)) more from⟨fun _=>by rw [hk,Int.toNat_natCast];exact⟨rfl,by simp⟩,fun h=>by omega⟩)
    obtain⟨lost,hlo⟩:∃ l,decide (S % 2^k≠0)=l:=⟨_,rfl⟩
    obtain⟨v,hv⟩:∃ l,S / 2^k=l:=⟨_,rfl⟩
    rw [hlo,hv] at HSH HCU;clear hc HCB hk hC HC hlo hv hE2 hfe hwlt hwge hf hov hmore he1 he2;go_wp2_with fail;refine HSH.out.mono ?_;rintro e w1 ⟨A2,n2,c2,rfl,hu,hb⟩;have HU:=Hd hu;have HB:=Hd hb;clear hu hb;go_wp2_with fail
    go_meet
    exact⟨A2,n2,c2,lost,v,rfl,rfl,HU.out,HCU.out,HB.out⟩
   ·obtain⟨k,hk⟩:∃ k:Nat,-(E - 2 - exp)=k:=⟨(-(E - 2 - exp)).toNat,by omega⟩
    have hmf:E - 2 - exp<0->more=false:=by
     intro h
     cases more with
     | false=>rfl
     | true=>have:=hmore rfl;omega
    have HSH:=Hd (nshl_any A n c k xs w HX.out hl (by rw [HS.out,hb];omega));rw [HS.out] at HSH
    have HCU:=Hd (show Cutd S exp E (S*2^k) false more from⟨fun h=>by
     have hk0:k=0:=by omega
     rw [show (E - 2 - exp).toNat=0 from by omega,hk0]
     simp [Nat.mod_one],fun h=>⟨by rw [hk,Int.toNat_natCast],rfl,hmf h⟩⟩)
    obtain⟨v,hv⟩:∃ l,S*2^k=l:=⟨_,rfl⟩
    rw [hv] at HSH HCU
    have hkb:k<=2000:=by omega
    obtain rfl:C=-(k:Int):=by omega
    obtain rfl:cb=false:=by rw [<- HCB.out];exact decide_eq_false hc
    clear hc;clear HCB hk hC HC hv hmf hE2 hfe hwlt hwge hf hov hmore he1 he2;go_wp2_with fail;refine HSH.out.mono ?_;rintro e w1 ⟨A2,n2,c2,rfl,hu,hb⟩;have HU:=Hd hu;have HB:=Hd hb;clear hu hb;go_wp2_with fail
    go_meet
    exact⟨A2,n2,c2,false,v,rfl,rfl,HU.out,HCU.out,HB.out⟩
  case rest=>
  obtain⟨A1,n1,c1,lost,v,rfl,rfl,hu,hcu,hb1⟩:=hcut;have hda:=digits_at HD.out hq hfe.1 hcu.1 hcu.2
  obtain⟨V,hV⟩:∃ V,marked v (lost || more)=V:=⟨_,rfl⟩
  have hvv:v / 4=V / 4:=by rw [<- hV,marked_div]
  rw [hV] at hda
  have hv64:v<18446744073709551616:=by have:=hda.1;omega
  have hV64:V<18446744073709551616:=by have:=hda.1;omega
  have HWD:=Hd (nword_any A1 n1 c1 (digs v) wc hu (by
   rw [wlen_digs];exact digs_length_le (k:=2) (by omega)))
  rw [num_digs] at HWD;have HB1:=Hd hb1;have HV:=Hd hV;have HDA:=Hd hda;clear hu hcu hb1 hV hda;go_wp2_with fail;refine HWD.out.mono ?_;rintro e w2 ⟨rfl,z,hz⟩;have HB2:=Hd (show Below w.heap.size w w2 from by rw [hz];exact below_drewN HB1.out z);clear hz HB1 HWD
  go_upto_region 13 with fail
  go_cut [67] from 64 to 66 (fun s67 wx=>s67=.bool (lost || more)/\wx=w2)
  case first=>
   cases lost<;>cases more<;>(go_wp2_with fail;go_meet;exact⟨rfl,rfl⟩)
  case rest=>
  obtain⟨rfl,rfl⟩:=hcut
  obtain⟨L,hL⟩:∃ L,(lost || more)=L:=⟨_,rfl⟩
  rw [hL] at HV ⊢;clear hL
  go_upto_if 67 with fail
  go_cut [16] from 68 to 69 (fun s16 wx=>s16=.int .u64 (V:Int)/\wc=wx)
  case first=>
   have hor:bits .or .u64 (v:Int) 1=((2*(v / 2)+1:Nat):Int):=by
    have h:=u64_or_nat v 1 hv64 (by omega);rw [or_one] at h;exact h
   have hv:=HV.out
   cases L
   ·have e:v=V:=by rw [<- hv];rfl
    subst e;go_wp2_with fail
    go_meet
    exact⟨rfl,rfl⟩
   ·have e:2*(v / 2)+1=V:=by rw [<- hv];rfl
    rw [e] at hor;go_wp2_with fail
    go_meet
    exact⟨rfl,rfl⟩
  case rest=>
  obtain⟨rfl,rfl⟩:=hcut
  have h3:bits .and .u64 (V:Int) 3=((V % 4:Nat):Int):=by
   have h:=u64_and_nat V 3 hV64 (by omega);rw [show (3:Nat)=2^2 - 1 from rfl,Nat.and_two_pow_sub_one_eq_mod] at h
   exact h
  obtain⟨R,hR⟩:∃ R,V % 4=R:=⟨_,rfl⟩
  obtain⟨W,hW⟩:∃ W,V / 4=W:=⟨_,rfl⟩
  rw [hR] at h3;have hda:=HDA.out;rw [hR,hW] at hda;rw [<- hda.1] at hwlt hwge
  have h4:(V:Int) / 4=(W:Int):=by omega
  obtain⟨Z,hZ⟩:∃ Z,W+(if away=true/\R≠0 then 1 else 0)=Z:=⟨_,rfl⟩
  have hT:ansT p q f away=(E+1074).toNat*4503599627370496+Z:=by
   rw [HP.out,<- hZ,hda.1];unfold capT cutT
   by_cases hr:R=0
   ·have h5:=hda.2.1 hr;rw [if_pos h5]
    cases away<;>simp [hr]
   ·have h5:¬ upN p E % upM q E=0:=fun h=>hr (hda.2.2 h);rw [if_neg h5]
    cases away<;>simp [hr]
  have hZ1:Z<=9007199254740992:=by rw [<- hZ];split<;>omega
  have hZ2:E=-1074\/4503599627370496<=Z:=by
   by_cases h:-1074<E
   ·right
    have h6:=hwge h
    rw [<- hZ];split<;>omega
   ·left;omega
  have HLD:=Hd fun W'=>ldexp_any Z E W' hZ1 hfe hZ2
  obtain⟨T,hTT⟩:∃ T,(E+1074).toNat*4503599627370496+Z=T:=⟨_,rfl⟩
  have hTM:T<=M:=by
   have hM:M=2045*4503599627370496+9007199254740992:=rfl;rw [<- hTT,hM]
   exact Nat.add_le_add (Nat.mul_le_mul_right _ (by omega)) hZ1
  rw [hTT] at HLD hT;have HT:=Hd hT;have HZ:=Hd hZ;have hWb:W<9007199254740992:=hwlt;clear hT hZ hTT hda hR hW hwlt hwge hZ2 hvv HV hfe HDA HP
  go_upto_block 0 with fail
  go_cut [18] from 74 to 104 (fun s18 wx=>s18=.int .u64 (Z:Int)/\wc=wx)
  case first=>
   have haw:=HAW.out;have hz:=HZ.out
   rcases Nat.eq_zero_or_pos R with hr | hr
   ·subst hr
    have hz2:Z=W:=by rw [<- hz];simp
    subst hz2;clear haw hz
    rcases HHD.out with rfl | rfl<;>cases neg<;>(go_wp2_with fail;go_meet;exact⟨rfl,rfl⟩)
   ·have hr2:¬ R=0:=by omega
    rcases HHD.out with rfl | rfl<;>cases neg<;>simp at haw<;>subst haw<;>simp [hr2] at hz<;>subst hz<;>clear hr2<;>(go_wp2_with fail;go_meet;exact⟨rfl,rfl⟩)
  case rest=>
  obtain⟨rfl,rfl⟩:=hcut;clear HZ HAW;go_wp2_with fail;refine (HLD.out _).mono ?_;rintro e w3 ⟨rfl,rfl⟩;have hTr:=rung_idx (b:=T) (by have hM:M=9218868437227405312:=rfl;omega)
  have hpt:pat (T:Int)=T:=by rw [pat_nn (by omega)];rfl
  have haa:=HAA.out;rw [HT.out] at haa
  cases neg
  ·have e:=Hd (show T=AA by rw [<- haa];exact hpt.symm);clear haa hpt hTr hTM;go_wp2
   go_ret
   exact⟨by rw [<- e.out];rfl,HB2.out⟩
  ·rcases Nat.eq_zero_or_pos T with h0 | h0
   ·subst h0;have ho:=ord_eq (a:=0) (b:=0) real_zero real_zero rfl;have e:=Hd (show 0=AA by rw [<- haa];rfl)
    have hqz:(FloatKind.f64.format.order 0 0 != some Ordering.eq)=false:=by rw [ho];rfl
    clear haa hpt hTr hTM ho;go_wp2
    go_ret
    exact⟨by rw [<- e.out];rfl,HB2.out⟩
   ·have ho:=ord_gt (a:=T) (b:=0) (by omega) real_zero (by rw [idx_zero];omega);have hn:=neg_pat (i:=(T:Int)) (by omega) (by omega) (by omega);rw [hpt] at hn;have e:=Hd (show Op.negFloat .f64 T=AA by rw [<- haa];exact hn);clear hn hpt hTr h0 hTM haa;go_wp2
    go_ret
    exact⟨by rw [<- e.out];rfl,HB2.out⟩
end
section
open Go.RowKit
theorem digs_len_pos{S:Nat}(h:0<S){n:Nat}(hl:(digs S).length=n):0<n:=by
 rcases Nat.eq_zero_or_pos n with h0 | h0
 ·rw [h0,digs_length_eq_zero] at hl;omega
 ·exact h0
theorem U32s.carry{W:World}{g:Nat}{t:TypeId}{cs:Array Value}{A:Option Addr}{n c:Nat}{xs:List Nat}(h:U32s W A n c xs)(hb:Blk W g t cs)(hc:cs.toList.all notWd=true)(i:Nat)(v:Value):U32s (W.setCell ⟨g,i,none⟩ v) A n c xs:=
 h.sets hb (NoWd.of (by rw [<- Array.all_toList];exact hc)) i [v]
theorem wlen_digs_le{S K:Nat}(h:blen S<=32*K):wlen (digs S)<=K:=by
 rw [wlen_digs];exact digs_length_le (blen_le_iff.1 h)
theorem blen_shl(S k:Nat)(h:0<S):blen (S*2^k)=blen S+k:=by
 have h1:=blen_high (hi:=S) (lo:=0) (k:=k) h (Nat.two_pow_pos k);rw [Nat.zero_add,Nat.mul_comm] at h1;rw [h1,Nat.add_comm]
def dsum(n1:Bool)(S1:Nat)(n2:Bool)(T2:Nat):Bool × Nat:=if n1=n2 then (n1,S1+T2) else if S1<T2 then (n2,T2 - S1) else (n1,S1 - T2)
theorem rv_int(n:Bool)(S:Nat):rv n S 1=((if n then -(S:Int) else (S:Int):Int):Rat):=by
 unfold rv
 cases n
 ·simp [Rat.div_def]
  rw [Rat.intCast_natCast];grind
 ·simp [Rat.div_def]
  rw [Rat.intCast_natCast];grind
theorem dsum_val(n1:Bool)(S1:Nat)(n2:Bool)(T2:Nat):rv (dsum n1 S1 n2 T2).1 (dsum n1 S1 n2 T2).2 1=rv n1 S1 1+rv n2 T2 1:=by
 rw [rv_int,rv_int,rv_int,<- Rat.intCast_add]
 congr 1
 unfold dsum
 by_cases h:n1=n2
 ·subst h;rw [if_pos rfl]
  cases n1<;>simp<;>omega
 ·rw [if_neg h]
  by_cases hlt:S1<T2
  ·rw [if_pos hlt]
   cases n1<;>cases n2<;>simp at h ⊢<;>omega
  ·rw [if_neg hlt]
   cases n1<;>cases n2<;>simp at h ⊢<;>omega
theorem rv_shift(n:Bool)(S k:Nat)(a b:Int)(h:b=a+k):rv n (S*2^k) 1*2^a=rv n S 1*2^b:=by
 rw [h,zpow_add,zpow_nat,rv_int,rv_int]
 cases n
 ·simp only [Bool.false_eq_true,if_false]
  rw [Rat.intCast_natCast,Rat.intCast_natCast,Rat.natCast_mul];grind
 ·simp only [if_true]
  rw [Rat.intCast_neg,Rat.intCast_neg,Rat.intCast_natCast,Rat.intCast_natCast,Rat.natCast_mul];grind
theorem blen_mono{a b:Nat}(h:a<=b):blen a<=blen b:=blen_le_iff.2 (Nat.lt_of_le_of_lt h (lt_pow_blen b))
theorem dsum_blen(n1:Bool)(S1:Nat)(n2:Bool)(T2 P:Nat)(h1:blen S1<=P)(h2:blen T2<=P):blen (dsum n1 S1 n2 T2).2<=P+1:=by
 have a1:=blen_le_iff.1 h1;have a2:=blen_le_iff.1 h2;refine blen_le_iff.2 ?_;rw [Nat.pow_succ];unfold dsum
 split
 ·dsimp only;omega
 ·split<;>(dsimp only;omega)
theorem wlen_blen{S:Nat}(h:blen S<=524288):wlen (digs S)<=16384:=wlen_digs_le (K:=16384) (by omega)
theorem HasBlk.u32s{W:World}{r:Nat}{t:TypeId}{n0:Nat}{A:Option Addr}{n c:Nat}{xs:List Nat}(h:HasBlk W r t n0)(hu:U32s W A n c xs)(vs:List Value):U32s (Proofs.YthlmlmfebpjgdaaGreatDoor.sets W r 0 vs) A n c xs:=by
 obtain⟨cs,h1,h2,h3⟩:=h
 exact hu.sets h1 h3 0 vs
theorem rv_over(n:Bool)(a D:Nat):rv n a D=rv n a 1*(D:Rat)⁻¹:=by
 unfold rv
 cases n<;>simp [Rat.div_def]<;>grind
end
end Go.Proofs.YthlmlmfebpjgdaaGreatDoor
