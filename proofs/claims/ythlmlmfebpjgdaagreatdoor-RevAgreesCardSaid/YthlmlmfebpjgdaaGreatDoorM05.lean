/-
Lemmas for the statement: NshlT ExactT Inf1T Kn Kn2 NoneT Win NdigT NbackT.
-/
import Derived.Test.YthlmlmfebpjgdaaGreatDoorM04
import Derived.Deep.DeepAppendRoom
import Derived.Test.YthlmlmfebpjgdaaGreatDoorM01
import Derived.Test.YthlmlmfebpjgdaaGreatDoorM03
import Derived.Test.YthlmlmfebpjgdaaGreatDoorM02
import Derived.Deep.DeepCutAuto
import Derived.Deep.CutRange
import Derived.Deep.RegionHeld3
set_option linter.unusedSimpArgs false
set_option linter.unusedVariables false
set_option maxHeartbeats 12800000
namespace Go.Proofs.YthlmlmfebpjgdaaGreatDoor
section
open Go.RowKit
theorem shift_any(A:Option Addr)(n c s:Nat)(xs:List Nat)(w:World)(hx:U32s w A n c xs)(hs:s<32)(hn:n<=1073741824):
  Calls Tryz.prog 258 #[.slice A n c,.int .i64 (s:Int)] w fun e w'=>∃ zs,NewArr w zs e w'/\W32 zs/\zs.length=n+1/\num zs=num xs*2^s:=by
 have HX:=Hd hx;clear hx;have hmk:=fun W=>make_u32 (N:=(n:Int)+1) (n:=n+1) (by omega) (by omega) W;have hp:2^s<=2147483648:=Nat.pow_le_pow_right (n:=2) (by omega) (show s<=31 by omega);have hp0:=Nat.two_pow_pos s
 go_enter Tryz.func258,Tryz.ntmps258
 go_wp2
 go_loopw [6,7,8,15] (fun cv _ _ iv wr=>∃ (i k:Nat) (cur:List Nat),iv=.int .i64 i/\cv=.int .u64 k/\i<=n/\ShiftArr xs cur (n+1) s i k/\Arr wr w.heap.size cur/\Below w.heap.size w wr) (fun _ _ _ iv _=>n - (intOf iv).toNat)
 case atStart=>exact⟨0,0,_,rfl,rfl,Nat.zero_le _,ShiftArr.start _ _ _,Arr.zeros _ _,below_alloc _ _⟩
 case round=>
  obtain⟨i,k,cur,rfl,rfl,hi,hinv,harr,hb⟩:=hrel;have HI:=Hd hinv;have HA:=Hd harr;have hk1:=hinv.carry;clear hinv harr hmk
  by_cases hlt:i<n
  ·obtain⟨ad,e,hc⟩:=(HX.out.below hb).cell (j:=i) hlt
   cases e
   have hx1:=HX.out.lt i;have hf:=HA.out.frozen i;have hcc:=HA.out.cell (j:=i) (by rw [HI.out.len (by omega)];omega)
   obtain⟨x,hx⟩:∃ x,xs[i]?.getD 0=x:=⟨_,rfl⟩
   rw [hx] at hc hx1;have HXX:=Hd hx;clear hx
   have i1:(i:Int)<((n+1:Nat):Int):=by omega
   have hz1:x*2^s<=4294967295*2147483648:=Nat.mul_le_mul (by omega) hp
   have hsh:(x:Int)*(2:Int)^s=((x*2^s:Nat):Int):=by rw [Int.natCast_mul,Int.natCast_pow];rfl
   have hor:=or_join' (i:=s) (x:=x) (y:=k) (by omega) hk1 (by omega)
   obtain⟨z,hz⟩:∃ z,x*2^s=z:=⟨_,rfl⟩
   rw [hz] at hor hsh hz1;have HZ:=Hd hz;clear hz;go_wp2
   go_roundw
   case rel=>
    refine⟨i+1,(z+k) / 4294967296,cur.set i ((z+k) % 4294967296),by go_num,by go_num,by omega,HI.out.step (by omega) HX.out.w32 (by rw [HXX.out,HZ.out]),?_,hb.setCell (Nat.le_refl _) _⟩;rw [show ((k:Int)+(z:Int)) % 4294967296=(((z+k) % 4294967296:Nat):Int) from by omega]
    exact HA.out.set i ((z+k) % 4294967296)
   case measure=>simp [intOf];omega
  ·obtain rfl:i=n:=by omega
   have hd:=HI.out.done (by rw [HX.out.len];omega) (by omega);have hl:=HI.out.len (by omega);have hcc:=HA.out.cell (j:=i) (by rw [hl];omega);have hf:=HA.out.frozen i;have HAA:=Hd (HA.out.set i k);have HBB:=Hd (hb.setCell (p:=⟨w.heap.size,i,none⟩) (Nat.le_refl _) (wd k));have HL:=Hd (show (cur.set i k).length=i+1 by simp [hl]);have HD:=Hd hd
   have i1:(i:Int)<((i+1:Nat):Int):=by omega
   have hk4:(k:Int) % 4294967296=(k:Int):=by omega
   clear hd hl hb HI HA;go_wp2
   go_ret
   exact⟨cur.set i k,⟨_,i+1,rfl,HL.out,HAA.out,Nat.le_refl _,HBB.out⟩,HD.out.2,HL.out,HD.out.1⟩
theorem getElem_map_wd{zs:List Nat}{j:Nat}{u:Value}(h:(zs.map wd)[j]?=some u):j<zs.length/\u=wd (zs[j]?.getD 0):=by
 rw [List.getElem?_map] at h
 by_cases hj:j<zs.length
 ·rw [List.getElem?_eq_getElem hj] at h ⊢
  simp at h
  exact⟨hj,by simp [h]⟩
 ·rw [List.getElem?_eq_none (by omega)] at h;simp at h
theorem make_cap{N K:Int}{n k:Nat}(hN:N=n)(hK:K=k)(hnk:n<=k)(h:k<=34359738368)(w:World):
  (Instr.makeSlice 40 (.int .i64 N) (.int .i64 K)).run Tryz.prog w=.ok (.slice (some ⟨w.heap.size,0,none⟩) n k) (w.alloc (.cells (Array.replicate k (wd 0)) 117)):=by
 obtain⟨i0,hi,hz0,hz1,hz2⟩:=info_parts info_u32;subst hN hK;have hr:=run_make (P:=Tryz.prog) w 40 117 i0 (.int .u32 0) Tryz.underlying40 hi hz0 .i64 .i64 (n:Int) (k:Int) (by omega) (by omega) (by rw [hz2];omega) (by omega)
 simp only [Int.toNat_natCast] at hr
 have e:madeCells (Value.int .u32 0).cells k=Array.replicate k (wd 0):=by
  have:=toList_madeCells_one (.int .u32 0) k;rw [show (Value.int .u32 0).cells=#[.int .u32 0] from rfl];rw [<- Array.toArray_toList (xs:=madeCells #[Value.int .u32 0] k),this]
  simp
 rw [hr,hz1,Nat.mul_one,e]
theorem ownsRow_make(w:World)(n k:Nat)(hnk:n<=k)(hk:k<=34359738368):
  (w.alloc (.cells (Array.replicate k (wd 0)) 117)).ownsRow w.heap.size 117 1 (.slice (some ⟨w.heap.size,0,none⟩) n k) n ((List.replicate n 0).map wd):=by
 refine⟨by simp,.inr ⟨w.heap.size,k,Array.replicate k (wd 0),rfl,Nat.le_refl _,?_,hnk,by unfold maxLen;omega,by simp,by simp [Nat.min_eq_left hnk]⟩⟩;have:=Arr.zeros w k;unfold Arr at this
 simpa using this
theorem up_any(A:Option Addr)(n c k:Nat)(xs:List Nat)(w:World)(hx:U32s w A n c xs)(hn:n<=1073741824)(hk:k<=1073741824):
  Calls Tryz.prog 233 #[.slice A n c,.int .i64 (k:Int)] w (NewU32 w (digs (num xs*2^k))):=by
 obtain⟨q,hq⟩:∃ q,k / 32=q:=⟨_,rfl⟩
 obtain⟨s,hs⟩:∃ s,k % 32=s:=⟨_,rfl⟩
 have e1:(k:Int) / 32=(q:Int):=by omega
 have e2:(k:Int) % 32=(s:Int):=by omega
 have ek:k=32*q+s:=by omega
 have hq1:q<=1073741824:=by omega
 have hs1:s<32:=by omega
 have hmk:=fun W=>make_cap (N:=(q:Int)) (K:=(q:Int)+(n:Int)+1) (n:=q) (k:=q+n+1) rfl (by omega) (by omega) (by omega) W;have HS:=Hd fun (W:World) (hb:Below w.heap.size w W)=>shift_any A n c s xs W (hx.below hb) hs1 hn;have EK:=Hd ek;clear hx hq hs ek
 obtain⟨w1,hw1⟩:∃ w1,w.alloc (.cells (Array.replicate (q+n+1) (wd 0)) 117)=w1:=⟨_,rfl⟩
 have HB1:=Hd (show Below w.heap.size w w1 from by rw [<- hw1];exact below_alloc w _);have HO1:=Hd (show w1.ownsRow w.heap.size 117 1 (.slice (some ⟨w.heap.size,0,none⟩) q (q+n+1)) q ((List.replicate q 0).map wd) from by rw [<- hw1];exact ownsRow_make w q _ (by omega) (by omega));have HW1:=Hd hw1;clear hw1
 go_enter Tryz.func233,Tryz.ntmps233
 go_wp2_with fail;rw [HW1.out];refine (HS.out _ HB1.out).mono ?_;rintro e w2 ⟨zs,⟨g,nn,rfl,hl,hA,hg,hb⟩,hz,hl2,hv⟩
 obtain rfl:nn=n+1:=by omega
 have HO2:=Hd (HO1.out.kept (row:=some g) (w':=w2) ⟨hb.os,hb.tape,hb.output,hb.size,fun j hj _=>hb.block j hj⟩ (.inr (fun e=>by
  have h1:w.heap.size<w1.heap.size:=(HO1.out.lt w.heap.size rfl).2
  simp [Value.ownBlock] at e;omega)))
 obtain⟨i0,hi0,hz0,hz1,hz2⟩:=info_parts info_u32;have HA:=Hd hA;have HB2:=Hd (HB1.out.trans (hb.mono HB1.out.size));have HZ:=Hd hz;have HV:=Hd hv;have HL:=Hd hl2;have hgw:w.heap.size<=g:=Nat.le_trans HB1.out.size hg
 have HNE:=Hd (show w.heap.size≠g from fun e=>by
  have h1:=(HO1.out.lt _ rfl).2;have h2:w.heap.size<w1.heap.size:=h1
  omega)
 clear hb hA hz hv hl2 hl HB1 HO1 HS hg
 go_wp2_with (at_builtin;(refine wpList_append_own_spare _ rfl (.tmp 15) (.tmp 19) 40 rfl w.heap.size 117 i0 1 Tryz.underlying40 hi0 hz1 w.heap.size q (q+n+1) _ rfl HO2.out ⟨g,0,none⟩ (n+1) (n+1) (zs.map wd) rfl ?c1 ?c2 ?c3 ?c4 ?_))
 case c1=>simp [HL.out]
 case c2=>
  intro j u hu;obtain⟨hj,rfl⟩:=getElem_map_wd hu;rw [show (⟨g,0,none⟩:Addr).add j=⟨g,j,none⟩ from by unfold Addr.add;split<;>simp_all]
  exact HA.out.cell hj
 case c3=>intro u hu;simp at hu;obtain⟨_,_,rfl⟩:=hu;rfl
 case c4=>omega
 intro w3 hown3 hgrow3;rw [show List.replicate q (wd 0) ++ zs.map wd=(List.replicate q 0 ++ zs).map wd from by simp] at hown3;have hw3:W32 (List.replicate q 0 ++ zs):=(W32.replicate q).append HZ.out;have hu:=U32s.own hown3 hw3 (by omega)
 have hval:num (List.replicate q 0 ++ zs)=num xs*2^k:=by
  rw [num_append,num_replicate,List.length_replicate,HV.out,EK.out,Nat.pow_add,Nat.zero_add]
  ac_rfl
 have HC:=Hd (cut_any _ _ _ _ _ hu);have HD:=Hd hu.cutd;rw [hval] at HD;have HB3:=Hd (below_grown HB2.out hgrow3 (Nat.le_refl _) HB2.out.size)
 obtain⟨kk,hkk⟩:∃ kk,wlen (List.replicate q 0 ++ zs)=kk:=⟨_,rfl⟩
 rw [hkk] at HC HD;clear hkk hval hu hw3 hown3 hgrow3;go_wp2_with fail;refine HC.out.mono ?_;rintro e w' ⟨rfl,rfl⟩;go_wp2
 go_ret
 exact⟨_,kk,kk,rfl,HD.out,HB3.out⟩
theorem nshl_any(A:Option Addr)(n c k:Nat)(xs:List Nat)(w:World)(hx:U32s w A n c xs)(hl:wlen xs<=16384)(hk:blen (num xs)+k<=524288):
  Calls Tryz.prog 202 #[.slice A n c,.int .i64 (k:Int)] w (NewU32E w (digs (num xs*2^k))):=by
 have HW:=Hd (nwords_any A n c xs w hx);have n1:=hx.small;have c1:=hx.cap;have l1:=wlen_le xs;rw [hx.len] at l1;have e1:=num_trim xs;rw [trim_eq_take] at e1;have h0:=wlen_eq_zero (l:=xs);have HX0:=hx.take l1
 obtain⟨p,hp⟩:∃ p,wlen xs=p:=⟨_,rfl⟩
 rw [hp] at HW l1 hl e1 HX0 h0
 obtain⟨us,hus⟩:∃ l,xs.take p=l:=⟨_,rfl⟩
 rw [hus] at e1 HX0;rw [<- e1] at hk h0 ⊢
 have hlp:wlen us<=16384:=by
  have h2:=wlen_le us;rw [HX0.len] at h2;omega
 have HLG:=Hd fun (W:World) (hb:Below w.heap.size w W)=>long_one W.heap.size A p c us (W.alloc (.cells #[.slice A p c] 40)) ((HX0.below hb).alloc _) (by simp [World.cell?_alloc_new]) hlp;have HL:=Hd fun (W:World) (hb:Below w.heap.size w W)=>nlen_any A p c us W (HX0.below hb);have HU:=Hd fun (W:World) (hb:Below w.heap.size w W)=>up_any A p c k us W (HX0.below hb) (by omega) (by omega);have HB0:=Hd (Below.refl w.heap.size w)
 obtain⟨b,hb⟩:∃ b,blen (num us)=b:=⟨_,rfl⟩
 rw [hb] at HL hk;clear hx hp hus e1 HX0 hlp hb
 rcases Nat.eq_zero_or_pos p with hp0 | hp0
 ·subst hp0
  have hz:num us*2^k=0:=by rw [h0.1 rfl,Nat.zero_mul]
  rw [hz,digs_zero];clear hz h0 HU HL
  go_enter Tryz.func202,Tryz.ntmps202
  go_wp2_with fail;refine HW.out.mono ?_;rintro e w' ⟨rfl,rfl⟩;go_wp2_with fail;refine cy (HLG.out _ HB0.out) ?_;go_wp2
  go_ret2
  exact⟨none,0,0,rfl,U32s.nil _ _ _,below_alloc _ _⟩
 ·have hq:((p:Int) == 0)=false:=by simp;omega
  have hk2:¬ (k:Int) > 524288 - (b:Int):=by omega
  clear h0
  go_enter Tryz.func202,Tryz.ntmps202
  go_wp2_with fail;refine HW.out.mono ?_;rintro e w' ⟨rfl,rfl⟩;go_wp2_with fail;refine cy (HLG.out _ HB0.out) ?_;have HB1:=Hd (HB0.out.alloc HB0.out.size (.cells #[.slice A p c] 40));clear HLG HB0;go_wp2_with fail;refine cy (HL.out _ HB1.out) ?_;go_wp2_with fail;refine (HU.out _ HB1.out).mono ?_;rintro e w2 ⟨A2,n2,c2,rfl,hu,hb⟩;have HUU:=Hd hu;have HBB:=Hd (HB1.out.trans (hb.mono HB1.out.size));clear hu hb HU HL HB1;go_wp2
  go_ret2
  exact⟨_,n2,c2,rfl,HUU.out,HBB.out⟩
end
section
open Go.RowKit
attribute [local go_sem] run_store_float run_negf
def NewEx(w:World)(x:Rat)(e:Ending)(w':World):Prop:=
 ∃ (neg:Bool) (A:Option Addr) (n c S:Nat) (E:Int),e=.returned (.agg #[.int .i64 0,.bool neg,.slice A n c,.int .i64 E])/\U32s w' A n c (digs S)/\Below w.heap.size w w'/\blen S<=5000/\-1074<=E/\E<=971/\x=rv neg S 1*2^E
def NewExP(w:World)(neg:Bool)(S:Nat)(E:Int)(e:Ending)(w':World):Prop:=
 ∃ (A:Option Addr) (n c:Nat),e=.returned (.agg #[.int .i64 0,.bool neg,.slice A n c,.int .i64 E])/\U32s w' A n c (digs S)/\Below w.heap.size w w'
def NewAl(w:World)(X Y:Nat)(E:Int)(e:Ending)(w':World):Prop:=
 ∃ (A:Option Addr) (n c:Nat) (B:Option Addr) (m d:Nat),e=.returned (.tuple #[.slice A n c,.slice B m d,.int .i64 E])/\U32s w' A n c (digs X)/\U32s w' B m d (digs Y)/\Below w.heap.size w w'
theorem run_min_int{a b E:Int}(h:min a b=E)(W:World)(ts:Array TypeId)(t:TypeId):(Builtin.min_ ts t #[.int .i64 a,.int .i64 b]).run Tryz.prog W=.ok (.int .i64 E) W:=by
 have e:(Builtin.min_ ts t #[.int .i64 a,.int .i64 b])=Builtin.min2 (.int .i64 a) (.int .i64 b):=by simp [Builtin.min_]
 rw [e];unfold Builtin.min2;subst h
 simp [Int.min_def]
 by_cases h:a<=b
 ·rw [if_neg (by omega),if_pos h]
 ·rw [if_pos (by omega),if_neg h]
theorem point_walk(b S:Nat)(x:Int)(neg:Bool)(w:World)(hb:b<18446744073709551616)(hf:rungOf b<M)(hS:S<9007199254740992)(hs:∀ w,Calls Tryz.prog 168 #[.float .f64 b] w (SplitTo w neg S x)):
  Calls Tryz.prog 100 #[.float .f64 b] w (NewExP w neg S x):=by
 have HI0:=fun W=>isinff b W hb (Nat.le_of_lt hf);rw [decide_eq_false (show ¬ rungOf b=M by omega)] at HI0;have HI:=Hd HI0;have HS:=Hd hs;have HN:=Hd fun W=>nsmall_any S W (by omega);clear HI0 hs hb hf hS;obtain⟨LB0,LR⟩:=bx1 w #[.int .i64 0,.bool false,.slice none 0 0,.int .i64 0] 97;have LR0:=Hd (HasBlk.of (n:=4) LR.out rfl rfl);clear LR
 go_enter Tryz.func100,Tryz.ntmps100
 go_wp2_with fail;refine cy (HI.out _) ?_;go_wp2_with fail;refine cx (HS.out _) fun w1 hb1=>?_;have LB1:=stB LB0 hb1 LB0.out.size;have LR1:=stR LR0 hb1;clear LB0 LR0;clear hb1 HI HS;go_wp2_with fail;refine (HN.out _).mono ?_;rintro e w2 ⟨A,n,c,rfl,hu,hb2⟩;have LB2:=stB LB1 hb2 LB1.out.size;have LR2:=stR LR1 hb2;clear LB1 LR1;have FU:=Hd (LR2.out.u32s hu [.int .i64 0,.bool neg,.slice A n c,.int .i64 x]);clear hu hb2 HN;obtain⟨ha0,hf0,ha1,hf1,ha2,hf2,ha3,hf3⟩:=LR2.out.sf4;obtain⟨hk0,hk1,hk2,hk3⟩:=LR2.out.sc4 (.int .i64 0) (.bool neg) (.slice A n c) (.int .i64 x);have F:=Hd (below_sets (w0:=w) (r:=w.heap.size) (by omega) [.int .i64 0,.bool neg,.slice A n c,.int .i64 x] 0 _ LB2.out)
 simp [sets] at hk0 hk1 hk2 hk3
 go_wp2;refine bodyPost_ret (v:=.agg #[.int .i64 0,.bool neg,.slice A n c,.int .i64 x]) (by simp [results,Tryz.results100,go_sem,hk0,hk1,hk2,hk3]) rfl ?_
 exact⟨A,n,c,rfl,FU.out,F.out⟩
theorem point_any(b:Nat)(hb:b<18446744073709551616)(hf:fin b):∃ (neg:Bool) (S:Nat) (x:Int),S<9007199254740992/\-1074<=x/\x<=971/\fl (idx b)=rv neg S 1*2^x/\∀ w,Calls Tryz.prog 100 #[.float .f64 b] w (NewExP w neg S x):=by
 obtain⟨S,x,h1,h2,h3,h4,h5⟩:=split_any b hb hf
 exact⟨_,S,x,h1,h2,h3,h4,fun w=>point_walk b S x _ w hb hf h1 h5⟩
theorem aligned_any(n1:Bool)(A1:Option Addr)(m1 c1 S1:Nat)(e1:Int)(n2:Bool)(A2:Option Addr)(m2 c2 S2:Nat)(e2 E:Int)(k1 k2:Nat)(w:World)(h1:U32s w A1 m1 c1 (digs S1))(h2:U32s w A2 m2 c2 (digs S2))(hE:min e1 e2=E)(hk1:e1 - E=(k1:Int))(hk2:e2 - E=(k2:Int))
  (he1:-1000000<=e1/\e1<=1000000)(he2:-1000000<=e2/\e2<=1000000)(hb1:blen S1+k1<=500000)(hb2:blen S2+k2<=500000):
  Calls Tryz.prog 141 #[.agg #[.int .i64 0,.bool n1,.slice A1 m1 c1,.int .i64 e1],.agg #[.int .i64 0,.bool n2,.slice A2 m2 c2,.int .i64 e2]] w (NewAl w (S1*2^k1) (S2*2^k2) E):=by
 have hm:=fun W ts t=>run_min_int hE W ts t
 have T1:=Hd fun W (hW:Below w.heap.size w W)=>(by
  have h:=nshl_any A1 m1 c1 k1 (digs S1) W (h1.below hW) (wlen_digs_le (K:=16384) (by omega)) (by rw [num_digs];omega)
  rw [num_digs] at h;exact h:Calls Tryz.prog 202 #[.slice A1 m1 c1,.int .i64 (k1:Int)] W (NewU32E W (digs (S1*2^k1))))
 have T2:=Hd fun W (hW:Below w.heap.size w W)=>(by
  have h:=nshl_any A2 m2 c2 k2 (digs S2) W (h2.below hW) (wlen_digs_le (K:=16384) (by omega)) (by rw [num_digs];omega)
  rw [num_digs] at h;exact h:Calls Tryz.prog 202 #[.slice A2 m2 c2,.int .i64 (k2:Int)] W (NewU32E W (digs (S2*2^k2))))
 have hw1:IntKind.i64.wrap (e1 - E)=(k1:Int):=by rw [IntKind.wrap_i64];omega
 have hw2:IntKind.i64.wrap (e2 - E)=(k2:Int):=by rw [IntKind.wrap_i64];omega
 obtain⟨X,hX⟩:∃ z,S1*2^k1=z:=⟨_,rfl⟩
 obtain⟨Y,hY⟩:∃ z,S2*2^k2=z:=⟨_,rfl⟩
 rw [hX] at T1 ⊢;rw [hY] at T2 ⊢;clear h1 h2 hE hb1 hb2 hX hY hk1 hk2 he1 he2;obtain⟨LB0,LG0_0,LG1_0⟩:=bx2 w #[.int .i64 0,.bool n1,.slice A1 m1 c1,.int .i64 e1] 97 #[.int .i64 0,.bool n2,.slice A2 m2 c2,.int .i64 e2] 97
 go_enter Tryz.func141,Tryz.ntmps141
 go_wp2_with fail;refine (T1.out _ LB0.out).mono ?_;rintro e w1 ⟨B1,n3,d1,rfl,hu1,hb1⟩;have LB1:=stB LB0 hb1 LB0.out.size;have LG0_1:=stG LG0_0 hb1;have LG1_1:=stG LG1_0 hb1;clear LB0 LG0_0 LG1_0;have U1:=Hd hu1;clear hu1 hb1 T1;obtain⟨q1_0,q1_1,q1_2,q1_3⟩:=LG1_1.out.c4;go_wp2_with fail;refine (T2.out _ LB1.out).mono ?_;rintro e w2 ⟨B2,n4,d2,rfl,hu2,hb2⟩;have LB2:=stB LB1 hb2 LB1.out.size;have LG0_2:=stG LG0_1 hb2;have LG1_2:=stG LG1_1 hb2;clear LB1 LG0_1 LG1_1;have U2:=Hd (U1.out.below hb2);have V2:=Hd hu2;clear hu2 hb2 T2 U1 q1_0 q1_1 q1_2 q1_3;go_wp2
 go_ret3
 exact⟨_,_,_,_,_,_,rfl,U2.out,V2.out,LB2.out⟩
end
section
open Go.RowKit
attribute [local go_sem] run_store_float run_negf
theorem isinf1(b:Nat)(w:World)(hr:rungOf b<=M):Calls Tryz.prog 161 #[.float .f64 b,.int .i64 1] w fun e w'=>e=.returned (.bool (decide (idx b=M)))/\w=w':=by
 have hM:M=9218868437227405312:=rfl;have hb:=idx_bounds hr
 by_cases h:idx b=M
 ·have ho:=ord_gt (a:=b) (b:=9218868437227405311) hr real_top (by rw [idx_top];omega);rw [decide_eq_true h];clear h hr hM hb
  go_enter Tryz.func161,Tryz.ntmps161
  go_wp2
  go_ret
  exact⟨rfl,rfl⟩
 ·have ho:FloatKind.f64.format.order b 9218868437227405311=some .lt\/FloatKind.f64.format.order b 9218868437227405311=some .eq:=by
   by_cases h2:idx b=M - 1
   ·exact .inr (ord_eq hr real_top (by rw [idx_top];omega))
   ·exact .inl (ord_lt hr real_top (by rw [idx_top];omega))
  rw [decide_eq_false h];clear h hr hM hb
  rcases ho with ho | ho
  all_goals
   go_enter Tryz.func161,Tryz.ntmps161
   go_wp2
   go_ret
   exact⟨rfl,rfl⟩
end
theorem kn_start{P lu lv u0 v0 v1 top U V:Nat}(hU:U=lu+P*(u0+4294967296*top))(hV:V=lv+P*(v0+4294967296*v1))(hlu:lu<P)(hu0:u0<4294967296)(hv1:0<v1):U<(top / v1+1)*V:=by
 obtain⟨t,ht⟩:∃ t,top / v1=t:=⟨_,rfl⟩
 have h1:top+1<=(t+1)*v1:=by
  have:=Nat.lt_div_mul_add (a:=top) hv1;rw [ht] at this;rw [Nat.add_mul];omega
 rw [ht];have h2:(t+1)*(P*(4294967296*v1))<=(t+1)*V:=Nat.mul_le_mul_left _ (by rw [hV,Nat.mul_add];omega);have h3:P*(4294967296*(top+1))<=P*(4294967296*((t+1)*v1)):=Nat.mul_le_mul_left _ (Nat.mul_le_mul_left _ h1)
 have h4:P*(4294967296*((t+1)*v1))=(t+1)*(P*(4294967296*v1)):=by ac_rfl
 have h5:P*(u0+4294967296*top+1)<=P*(4294967296*(top+1)):=Nat.mul_le_mul_left _ (by omega);rw [Nat.mul_add P,Nat.mul_one] at h5
 omega
theorem kn_big{x U V:Nat}(h:U<V*4294967296)(hx:4294967296<=x):U<(x - 1+1)*V:=by
 have:4294967296*V<=x*V:=Nat.mul_le_mul_right _ hx;rw [Nat.mul_comm] at h;rw [Nat.sub_add_cancel (by omega)];omega
theorem kn_step{P lu lv u0 v0 v1 top U V x r:Nat}(hU:U=lu+P*(u0+4294967296*top))(hV:V=lv+P*(v0+4294967296*v1))(hlu:lu<P)
  (ht:x*v1+r=top)(h:r*4294967296+u0<x*v0):0<x/\U<(x - 1+1)*V:=by
 have h0:0<x:=by
  rcases Nat.eq_zero_or_pos x with h0 | h0
  ·subst h0;omega
  ·exact h0
 refine⟨h0,?_⟩;rw [Nat.sub_add_cancel h0];have h1:x*(P*(v0+4294967296*v1))<=x*V:=Nat.mul_le_mul_left _ (by omega)
 have h2:x*(P*(v0+4294967296*v1))=P*(x*v0+4294967296*(x*v1)):=by
  rw [Nat.mul_left_comm,Nat.mul_add x,Nat.mul_left_comm x]
 have h3:P*(u0+4294967296*top+1)<=P*(x*v0+4294967296*(x*v1)):=Nat.mul_le_mul_left _ (by omega);rw [Nat.mul_add P,Nat.mul_one] at h3
 omega
theorem kn_end{P lu lv u0 v0 v1 top U V x r:Nat}(hU:U=lu+P*(u0+4294967296*top))(hV:V=lv+P*(v0+4294967296*v1))(hlv:lv<P)(hv0:v0<4294967296)(hv1:0<v1)
  (hlt:U<V*4294967296)(ht:x*v1+r=top)(h:4294967296<=r\/(x<4294967296/\x*v0<=r*4294967296+u0)):x<4294967296/\x*V<=U+V:=by
 have hx:x<4294967296:=by
  rcases h with h | h
  ·have h1:P*(4294967296*top)<P*(4294967296*(4294967296*(v1+1))):=by
    have h2:V<P*(4294967296*(v1+1)):=by
     have:P*(v0+4294967296*v1+1)<=P*(4294967296*(v1+1)):=Nat.mul_le_mul_left _ (by omega);rw [Nat.mul_add P,Nat.mul_one] at this;omega
    have h3:P*(4294967296*top)<=U:=by rw [hU,Nat.mul_add];omega
    have h4:V*4294967296<P*(4294967296*(v1+1))*4294967296:=(Nat.mul_lt_mul_right (by omega)).2 h2
    have h5:P*(4294967296*(v1+1))*4294967296=P*(4294967296*(4294967296*(v1+1))):=by ac_rfl
    omega
   have h6:=Nat.lt_of_mul_lt_mul_left h1
   have h7:x*v1<4294967296*v1:=by omega
   exact Nat.lt_of_mul_lt_mul_right h7
  ·exact h.1
 refine⟨hx,?_⟩
 have hw:x*v0<=r*4294967296+u0:=by
  rcases h with h | h
  ·have:x*v0<=4294967296*4294967296:=Nat.mul_le_mul (by omega) (by omega)
   omega
  ·exact h.2
 have h1:x*V=x*lv+P*(x*v0+4294967296*(x*v1)):=by
  rw [hV,Nat.mul_add x,Nat.mul_left_comm x P,Nat.mul_add x,Nat.mul_left_comm x 4294967296]
 have h2:P*(x*v0+4294967296*(x*v1))<=P*(u0+4294967296*top):=Nat.mul_le_mul_left _ (by omega);have h3:x*lv<=x*P:=Nat.mul_le_mul_left _ (by omega)
 have h4:x*P<=P*(4294967296*v1):=by
  rw [Nat.mul_comm];refine Nat.mul_le_mul_left _ ?_
  omega
 have h5:P*(4294967296*v1)<=V:=by rw [hV,Nat.mul_add];omega
 omega
theorem num_top2{l:List Nat}{k:Nat}(h:l.length=k+2):num l=num (l.take k)+2^(32*k)*(l[k]?.getD 0+4294967296*l[k+1]?.getD 0):=by
 have e:num l=num (l.take k)+2^(32*k)*l[k]?.getD 0+2^(32*(k+1))*l[k+1]?.getD 0:=by
  rw [<- num_take_next,<- num_take_next,List.take_of_length_le (by omega)]
 rw [e,pow32,Nat.mul_add,show (2:Nat)^32=4294967296 from rfl];rw [Nat.mul_comm 4294967296 (2^(32*k)),Nat.mul_assoc];omega
theorem num_top3{l:List Nat}{k:Nat}(h:l.length=k+3):num l=num (l.take k)+2^(32*k)*(l[k]?.getD 0+4294967296*(l[k+1]?.getD 0+4294967296*l[k+2]?.getD 0)):=by
 have e:num l=num (l.take k)+2^(32*k)*l[k]?.getD 0+2^(32*(k+1))*(l[k+1]?.getD 0+4294967296*l[k+2]?.getD 0):=by
  rw [num_top2 (k:=k+1) h,num_take_next]
 rw [e,pow32,Nat.mul_add (2^(32*k)),show (2:Nat)^32=4294967296 from rfl];rw [Nat.mul_comm 4294967296 (2^(32*k)),Nat.mul_assoc];omega
theorem num_take_lt{l:List Nat}(h:W32 l){k:Nat}(hk:k<=l.length):num (l.take k)<2^(32*k):=by
 have:=num_lt (h.take k)
 rwa [List.length_take,Nat.min_eq_left hk] at this
theorem SubInv.last{rs ys cur:List Nat}{x c b n:Nat}(h:SubInv rs ys cur x n c b)(hn:rs.length=n)(hr:W32 rs)(hm:ys.length<=n)(h0:c=0):
  num cur+x*num ys=num rs+2^(32*n)*b:=by
 obtain⟨hw,hl,_,hc,hb,hs⟩:=h;rw [List.take_of_length_le (by omega),List.take_of_length_le (by omega),List.take_of_length_le (by omega),h0] at hs
 exact hs
def GiveInv(rs ys cur:List Nat)(i c:Nat):Prop:=∃ ls,PlusInv rs ys ls i c/\cur=ls ++ rs.drop i
theorem GiveInv.start(rs ys:List Nat):GiveInv rs ys rs 0 0:=⟨[],PlusInv.start _ _,by simp⟩
theorem GiveInv.len{rs ys cur:List Nat}{i c:Nat}(h:GiveInv rs ys cur i c)(hi:i<=rs.length):cur.length=rs.length:=by
 obtain⟨ls,h1,rfl⟩:=h;have:=h1.len
 simp;omega
theorem GiveInv.w32{rs ys cur:List Nat}{i c:Nat}(h:GiveInv rs ys cur i c)(hr:W32 rs):W32 cur:=by
 obtain⟨ls,h1,rfl⟩:=h
 exact h1.1.append (hr.drop _)
theorem GiveInv.carry{rs ys cur:List Nat}{i c:Nat}(h:GiveInv rs ys cur i c):c<=1:=by
 obtain⟨ls,h1,rfl⟩:=h
 exact h1.carry
theorem GiveInv.at{rs ys cur:List Nat}{i c:Nat}(h:GiveInv rs ys cur i c):cur[i]?.getD 0=rs[i]?.getD 0:=by
 obtain⟨ls,h1,rfl⟩:=h;rw [List.getElem?_append_right (by rw [h1.len];omega),h1.len,List.getElem?_drop,Nat.sub_self,Nat.add_zero]
theorem GiveInv.step{rs ys cur:List Nat}{i c t:Nat}(h:GiveInv rs ys cur i c)(hi:i<rs.length)(hx:W32 rs)(hy:W32 ys)(ht:t=c+rs[i]?.getD 0+ys[i]?.getD 0):
  GiveInv rs ys (cur.set i (t % 4294967296)) (i+1) (t / 4294967296):=by
 obtain⟨ls,h1,rfl⟩:=h;refine⟨ls ++ [t % 4294967296],h1.step hx hy ht,?_⟩;rw [set_mid h1.len (by simp;omega)];simp
theorem GiveInv.done{rs ys cur:List Nat}{n c d:Nat}(h:GiveInv rs ys cur n c)(hn:rs.length=n+1)(hm:ys.length<=n)(hd:d=(rs[n]?.getD 0+c) % 4294967296)(hr:W32 rs)
  (hle:num rs+num ys<2^(32*(n+1))*2)(hge:2^(32*(n+1))<=num rs+num ys):
  num (cur.set n d)+2^(32*(n+1))=num rs+num ys/\W32 (cur.set n d)/\(cur.set n d).length=n+1:=by
 have hl:=h.len (by omega);refine⟨?_,(h.w32 hr).set _ (by omega),by simp;omega⟩;obtain⟨ls,h1,rfl⟩:=h;obtain⟨g1,g2,g3,g4⟩:=h1;rw [set_mid g2 (by simp;omega)]
 have hdr:(rs.drop n).tail=[]:=by simp;omega
 rw [hdr,List.append_nil,num_snoc,g2];rw [List.take_of_length_le hm] at g4;have e:=num_take_next rs n;rw [List.take_of_length_le (by omega)] at e
 have hlt:num ls<2^(32*n):=by have:=num_lt g1;rwa [g2] at this
 have hrn:=hr.get n;rw [pow32] at *;rw [show (2:Nat)^32=4294967296 from rfl] at *;generalize 2^(32*n)=p at *;generalize rs[n]?.getD 0=z at *;have e1:p*(z+c)=p*z+p*c:=Nat.mul_add ..
 have h2:num rs+num ys=num ls+p*(z+c):=by omega
 have h3:4294967296<=z+c:=by
  rcases Nat.lt_or_ge (z+c) 4294967296 with h4 | h4
  ·exfalso
   have:p*(z+c+1)<=p*4294967296:=Nat.mul_le_mul_left _ h4;rw [Nat.mul_add,Nat.mul_one,Nat.mul_comm p 4294967296] at this
   omega
  ·exact h4
 have h5:z+c=d+4294967296:=by omega
 rw [h2,h5,Nat.mul_add,Nat.mul_comm p 4294967296];omega
theorem kn_ok'{q U V R:Nat}(h:R+q*V=U)(hR:R<V):U / V=q/\U % V=R:=by
 subst h
 constructor
 ·rw [Nat.add_mul_div_right _ _ (by omega),Nat.div_eq_of_lt hR,Nat.zero_add]
 ·rw [Nat.add_mul_mod_self_right,Nat.mod_eq_of_lt hR]
def QuoInv(us qs cur:List Nat)(V t:Nat):Prop:=
 W32 qs/\W32 cur/\cur.length=us.length/\num us=num (qs.drop t)*V*2^(32*t)+num cur/\num cur<V*2^(32*t)
theorem QuoInv.start{us:List Nat}{V L n:Nat}(hw:W32 us)(hl:us.length=L+n)(hV:2^(32*n)<=V*2)(hu:num us*2<V*2^(32*L)*2):QuoInv us (List.replicate L 0) us V L:=
 ⟨W32.replicate _,hw,rfl,by rw [List.drop_eq_nil_of_le (by simp)];simp [num],by omega⟩
theorem split3{cur:List Nat}{j n:Nat}(h:j+n+1<=cur.length):
  cur=cur.take j ++ ((cur.drop j).take (n+1) ++ cur.drop (j+(n+1)))/\(cur.take j).length=j/\((cur.drop j).take (n+1)).length=n+1:=by
 refine⟨?_,by simp;omega,by simp;omega⟩;rw [<- List.drop_drop,List.take_append_drop,List.take_append_drop]
theorem num_three{pre ws post:List Nat}{j n:Nat}(h1:pre.length=j)(h2:ws.length=n+1):num (pre ++ (ws ++ post))=num pre+2^(32*j)*num ws+2^(32*(j+(n+1)))*num post:=by
 rw [num_append,num_append,h1,h2,Nat.mul_add,Nat.mul_add 32 j (n+1),Nat.pow_add,Nat.mul_assoc,Nat.add_assoc]
theorem QuoInv.zero{us qs cur:List Nat}{V j n:Nat}(h:QuoInv us qs cur V (j+1))(hl:j+n+1<=cur.length)(hV:V<2^(32*n)):
  num (cur.drop (j+(n+1)))=0/\num ((cur.drop j).take (n+1))<V*4294967296/\num cur=num (cur.take j)+2^(32*j)*num ((cur.drop j).take (n+1)):=by
 obtain⟨h1,h2,h3,h4,h5⟩:=h;obtain⟨e,l1,l2⟩:=split3 hl;have e2:=num_three (post:=cur.drop (j+(n+1))) l1 l2;rw [<- e] at e2
 have hp0:num (cur.drop (j+(n+1)))=0:=by
  rcases Nat.eq_zero_or_pos (num (cur.drop (j+(n+1)))) with h0 | h0
  ·exact h0
  ·exfalso
   have h6:2^(32*(j+(n+1)))<=2^(32*(j+(n+1)))*num (cur.drop (j+(n+1))):=Nat.le_mul_of_pos_right _ h0;have h7:V*2^(32*(j+1))<=2^(32*n)*2^(32*(j+1)):=Nat.mul_le_mul_right _ (by omega);rw [<- Nat.pow_add,show 32*n+32*(j+1)=32*(j+(n+1)) from by omega] at h7
   omega
 rw [hp0,Nat.mul_zero,Nat.add_zero] at e2;refine⟨hp0,?_,e2⟩;rw [pow32,show (2:Nat)^32=4294967296 from rfl] at h5
 have h6:2^(32*j)*num ((cur.drop j).take (n+1))<2^(32*j)*(V*4294967296):=by
  have:V*(4294967296*2^(32*j))=2^(32*j)*(V*4294967296):=by ac_rfl
  omega
 exact Nat.lt_of_mul_lt_mul_left h6
theorem QuoInv.step{us qs cur rs:List Nat}{V j n:Nat}(h:QuoInv us qs cur V (j+1))(hl:j+n+1<=cur.length)(hV:V<2^(32*n))(hV0:0<V)(hj:j<qs.length)
  (hrw:W32 rs)(hrl:rs.length=n+1)(hr:num rs=num ((cur.drop j).take (n+1)) % V):
  QuoInv us (qs.set j (num ((cur.drop j).take (n+1)) / V)) (cur.take j ++ (rs ++ cur.drop (j+(n+1)))) V j/\num ((cur.drop j).take (n+1)) / V<4294967296:=by
 obtain⟨z1,z2,z3⟩:=h.zero hl hV;obtain⟨h1,h2,h3,h4,h5⟩:=h;obtain⟨e,l1,l2⟩:=split3 hl
 have hd:num ((cur.drop j).take (n+1)) / V<4294967296:=by
  rw [Nat.div_lt_iff_lt_mul hV0,Nat.mul_comm];exact z2
 refine⟨⟨h1.set _ hd,(h2.take _).append (hrw.append (h2.drop _)),?_,?_,?_⟩,hd⟩
 ·rw [<- h3];simp only [List.length_append,l1,hrl,List.length_drop];omega
 ·rw [num_three l1 hrl,z1,Nat.mul_zero,Nat.add_zero,h4,num_drop_cons (qs.set j _),List.getElem?_set_self hj,List.drop_set_of_lt (by omega)];rw [z3,hr];have hdm:=Nat.div_add_mod (num ((cur.drop j).take (n+1))) V
  show _=(num ((cur.drop j).take (n+1)) / V+4294967296*num (qs.drop (j+1)))*V*2^(32*j)+(num (cur.take j)+2^(32*j)*(num ((cur.drop j).take (n+1)) % V))
  generalize num ((cur.drop j).take (n+1))=w at *
  have e1:2^(32*j)*w=2^(32*j)*(V*(w / V))+2^(32*j)*(w % V):=by rw [<- Nat.mul_add,hdm]
  rw [e1,pow32,show (2:Nat)^32=4294967296 from rfl,Nat.add_mul,Nat.add_mul]
  have e2:w / V*V*2^(32*j)=2^(32*j)*(V*(w / V)):=by ac_rfl
  have e3:num (qs.drop (j+1))*V*(4294967296*2^(32*j))=4294967296*num (qs.drop (j+1))*V*2^(32*j):=by ac_rfl
  rw [e2,e3];omega
 ·rw [num_three l1 hrl,z1,Nat.mul_zero,Nat.add_zero,hr];have h6:num (cur.take j)<2^(32*j):=num_take_lt h2 (by omega);have h7:2^(32*j)*(num ((cur.drop j).take (n+1)) % V+1)<=2^(32*j)*V:=Nat.mul_le_mul_left _ (Nat.mod_lt _ hV0);rw [Nat.mul_add,Nat.mul_one,Nat.mul_comm _ V] at h7
  omega
theorem QuoInv.done{us qs cur:List Nat}{a b s n:Nat}(h:QuoInv us qs cur (b*2^s) 0)(hu:num us=a*2^s)(hV:b*2^s<2^(32*n)):
  num qs=a / b/\num (cur.take n) / 2^s=a % b:=by
 obtain⟨h1,h2,h3,h4,h5⟩:=h;rw [Nat.mul_zero,Nat.pow_zero,Nat.mul_one] at h4 h5;rw [List.drop_zero] at h4
 have hb:0<b*2^s:=by omega
 have k:=kn_ok' (q:=num qs) (R:=num cur) (U:=num us) (V:=b*2^s) (by omega) h5;rw [hu,Nat.mul_div_mul_right _ _ (Nat.two_pow_pos s),Nat.mul_mod_mul_right] at k;refine⟨k.1.symm,?_⟩;rw [num_take_mod h2,Nat.mod_eq_of_lt (by omega),<- k.2,Nat.mul_div_cancel _ (Nat.two_pow_pos s)]
theorem top_set{ys:List Nat}{n s y:Nat}(hw:W32 ys)(hl:ys.length=n+1)(hy:ys[n]?.getD 0=y)(hs:s=32 - blen y)(h0:0<y):
  num ys*2^s<2^(32*(n+1))/\2147483648*2^(32*n)<=num ys*2^s:=by
 have hy32:y<2^32:=by rw [<- hy];exact hw.get n
 have hb:blen y<=32:=blen_le_iff.2 hy32;have e:=num_take_next ys n;rw [List.take_of_length_le (by omega),hy] at e;have hlt:=num_take_lt hw (k:=n) (by omega);have h1:=lt_pow_blen y;have h2:=pow_blen_le h0
 have hb0:0<blen y:=by
  rcases Nat.eq_zero_or_pos (blen y) with h | h
  ·rw [blen_eq_zero] at h;omega
  ·exact h
 have e1:2^blen y*2^s=2^32:=by rw [<- Nat.pow_add];congr 1;omega
 have e2:2^(blen y - 1)*2^s=2147483648:=by rw [<- Nat.pow_add,show blen y - 1+s=31 from by omega]
 constructor
 ·have h3:num ys<2^(32*n)*(y+1):=by rw [Nat.mul_add,Nat.mul_one];omega
  have h4:num ys*2^s<2^(32*n)*(y+1)*2^s:=(Nat.mul_lt_mul_right (Nat.two_pow_pos s)).2 h3;have h5:2^(32*n)*(y+1)*2^s<=2^(32*n)*2^blen y*2^s:=Nat.mul_le_mul_right _ (Nat.mul_le_mul_left _ h1);rw [Nat.mul_assoc,Nat.mul_assoc,e1] at h5;rw [Nat.mul_assoc] at h4;rw [pow32,Nat.mul_comm (2^32)];omega
 ·have h3:2^(32*n)*y<=num ys:=by omega
  have h4:2^(32*n)*2^(blen y - 1)*2^s<=num ys*2^s:=Nat.mul_le_mul_right _ (Nat.le_trans (Nat.mul_le_mul_left _ h2) h3);rw [Nat.mul_assoc,e2,Nat.mul_comm] at h4
  exact h4
theorem top_word{zs:List Nat}{n:Nat}(hw:W32 zs)(h1:num zs<2^(32*(n+1)))(h2:2147483648*2^(32*n)<=num zs):2147483648<=(zs.take (n+1))[n]?.getD 0/\num (zs.take (n+1))=num zs:=by
 refine⟨?_,by rw [num_take_mod hw,Nat.mod_eq_of_lt h1]⟩;rw [List.getElem?_take_of_lt (by omega),<- num_word hw n]
 have h3:num zs / 2^(32*n)<2^32:=by
  rw [Nat.div_lt_iff_lt_mul (Nat.two_pow_pos _)];rw [pow32] at h1;exact h1
 rw [Nat.mod_eq_of_lt h3]
 exact (Nat.le_div_iff_mul_le (Nat.two_pow_pos _)).2 h2
section
open Go.RowKit
def NewQR(w:World)(Q R:Nat)(e:Ending)(w':World):Prop:=
 ∃ A n c B m d,e=.returned (.tuple #[.slice A n c,.slice B m d,.int .i64 0])/\U32s w' A n c (digs Q)/\U32s w' B m d (digs R)/\Below w.heap.size w w'
theorem lead32_any(x:Nat)(w:World)(hx:x<4294967296):
  Calls Tryz.prog 264 #[.int .u32 (x:Int)] w fun e w'=>e=.returned (.int .i64 ((32 - blen x:Nat):Int))/\w=w':=by
 have HL:=Hd (len32_any x w hx);have hb:blen x<=32:=blen_le_iff.2 hx
 obtain⟨b,hbb⟩:∃ b,blen x=b:=⟨_,rfl⟩
 rw [hbb] at HL hb ⊢;clear hbb
 have e1:(32:Int) - (b:Int)=((32 - b:Nat):Int):=by omega
 go_enter Tryz.func264,Tryz.ntmps264
 go_wp2_with fail;refine HL.out.mono ?_;rintro e w' ⟨rfl,rfl⟩;go_wp2
 go_ret
 exact⟨ret_int rfl,rfl⟩
theorem one_any(A:Option Addr)(n c y:Nat)(xs:List Nat)(w:World)(hx:U32s w A n c xs)(hy:y<4294967296)(hy0:0<y)(hn:n<=1073741824):
  Calls Tryz.prog 263 #[.slice A n c,.int .u64 (y:Int)] w (NewQR w (num xs / y) (num xs % y)):=by
 have HX:=Hd hx;have hl:=hx.len;have HL:=Hd hl;clear hx hl;have hmk:=fun W=>make_u32 (N:=(n:Int)) (n:=n) rfl (by omega) W
 have hv0:((y:Int) == 0)=false:=by simp;omega
 go_enter Tryz.func263,Tryz.ntmps263
 go_wp2
 go_loopw [7,8,9,15] (fun rv _ _ iv wr=>∃ (i r:Nat) (qs:List Nat),iv=.int .i64 i/\rv=.int .u64 r/\i<=n/\ByInv xs qs y r (n - i)/\Arr wr w.heap.size qs/\Below w.heap.size w wr) (fun _ _ _ iv _=>n - (intOf iv).toNat)
 case atStart=>exact⟨0,0,List.replicate n 0,rfl,rfl,Nat.zero_le _,by have h:=ByInv.start xs hy0;rw [HL.out] at h;exact h,Arr.zeros _ _,below_alloc _ _⟩
 case round=>
  obtain⟨i,r,qs,rfl,rfl,hi,hinv,harr,hb⟩:=hrel;have HI:=Hd hinv;have HA:=Hd harr;have HB:=Hd hb;have hr:r<y:=hinv.2.2.2
  have hql:qs.length=n:=by rw [hinv.2.1,HL.out]
  clear hinv harr hb hmk
  by_cases hlt:i<n
  ·obtain⟨k,hk⟩:∃ k,n - 1 - i=k:=⟨_,rfl⟩
   have ek:(n:Int) - 1 - (i:Int)=(k:Int):=by omega
   have ekl:(k:Int)<(n:Int):=by omega
   obtain⟨ad,rfl,hc⟩:=(HX.out.below HB.out).cell (j:=k) (by omega);have hx1:=HX.out.lt k;have hf:=HA.out.frozen k;have hcq:=HA.out.cell (j:=k) (by rw [hql];omega)
   obtain⟨q0,hq0⟩:∃ z,qs[k]?.getD 0=z:=⟨_,rfl⟩
   rw [hq0] at hcq;clear hq0
   obtain⟨x,hxx⟩:∃ z,xs[k]?.getD 0=z:=⟨_,rfl⟩
   rw [hxx] at hc hx1;have HXX:=Hd hxx;have HK:=Hd hk;have HQL:=Hd hql;clear hxx hk hql;have hor:=or_join (i:=32) (x:=r) (y:=x) (by omega) (by omega) (by omega)
   obtain⟨t,ht⟩:∃ t,x+4294967296*r=t:=⟨_,rfl⟩
   rw [show ((r*2^32:Nat):Int)=(r:Int)*4294967296 from by omega,show ((r*2^32+x:Nat):Int)=(t:Int) from by omega] at hor
   have htl:t<18446744073709551616:=by omega
   have hdiv:(t:Int) / (y:Int)=((t / y:Nat):Int):=by simp
   have hmod:(t:Int) % (y:Int)=((t % y:Nat):Int):=by simp
   have hmod2:(t:Int).tmod (y:Int)=((t % y:Nat):Int):=by rw [Int.tmod_eq_emod_of_nonneg (by omega)];simp
   have hd:t / y<4294967296:=by
    rw [Nat.div_lt_iff_lt_mul hy0];have:4294967296*(r+1)<=4294967296*y:=Nat.mul_le_mul_left _ hr
    omega
   rw [show n - i=k+1 from by have:=HK.out;omega] at HI;have HST:=Hd (HI.out.step (d:=t / y) (R':=t % y) (by have:=HL.out;omega) hd (by rw [HXX.out,ht,Nat.mul_comm];exact (Nat.div_add_mod _ _).symm) (Nat.mod_lt _ hy0))
   obtain⟨q,hq⟩:∃ z,t / y=z:=⟨_,rfl⟩
   obtain⟨r2,hr2⟩:∃ z,t % y=z:=⟨_,rfl⟩
   rw [hq] at hdiv hd HST;rw [hr2] at hmod hmod2 HST;clear HI ht hq hr2;go_wp2
   go_roundw
   case rel=>exact⟨i+1,r2,qs.set k q,by go_num,rfl,by omega,by rw [show n - (i+1)=k from by have:=HK.out;omega];exact HST.out,HA.out.set _ _,HB.out.setCell (Nat.le_refl _) _⟩
   case measure=>simp [intOf];omega
  ·obtain rfl:i=n:=by omega
   have hdn:=HI.out;rw [Nat.sub_self] at hdn;have hw1:W32 qs:=hdn.1;have hd:=hdn.done;have hu:=HA.out.u32s' hw1 hql (by omega);have HC:=Hd (cut_any _ _ _ _ _ hu);have HD:=Hd hu.cutd;rw [<- hd.1] at HD;have HM:=Hd hd.2
   obtain⟨kk,hkk⟩:∃ kk,wlen qs=kk:=⟨_,rfl⟩
   rw [hkk] at HC HD;have HS:=Hd fun W=>nsmall_any r W (by omega);clear hkk hu hd hdn hw1 hql HI HA hlt hi HX HL;go_wp2_with fail;refine HC.out.mono ?_;rintro e w' ⟨rfl,rfl⟩;go_wp2_with fail;refine (HS.out _).mono ?_;rintro e w2 ⟨A2,n2,c2,rfl,hu2,hb2⟩;have HU2:=Hd hu2;have HD2:=Hd (HD.out.below hb2);have HB2:=Hd (HB.out.trans (hb2.mono HB.out.size));clear hu2 hb2 HD HB HS HC;go_wp2
   go_ret3
   exact⟨_,kk,kk,_,n2,c2,rfl,HD2.out,by rw [HM.out];exact HU2.out,HB2.out⟩
end
section
open Go.RowKit
def Win(w:World)(ad:Addr)(pre ws post:List Nat):Prop:=∃ g,ad=⟨g,pre.length,none⟩/\Arr w g (pre ++ (ws ++ post))
theorem add_none(g j i:Nat):(⟨g,j,none⟩:Addr).add i=⟨g,j+i,none⟩:=by unfold Addr.add;split<;>simp_all
theorem mid_get{pre ws post:List Nat}{i:Nat}(hi:i<ws.length):(pre ++ (ws ++ post))[pre.length+i]?.getD 0=ws[i]?.getD 0:=by
 rw [List.getElem?_append_right (by omega),Nat.add_sub_cancel_left,List.getElem?_append_left hi]
theorem mid_set{pre ws post:List Nat}{i:Nat}(hi:i<ws.length)(x:Nat):(pre ++ (ws ++ post)).set (pre.length+i) x=pre ++ (ws.set i x ++ post):=by
 rw [List.set_append_right _ _ (by omega),Nat.add_sub_cancel_left,List.set_append_left _ _ hi]
theorem Win.cell{w:World}{ad:Addr}{pre ws post:List Nat}(h:Win w ad pre ws post){i:Nat}(hi:i<ws.length):w.cell? (ad.add i)=some (wd (ws[i]?.getD 0)):=by
 obtain⟨g,rfl,ha⟩:=h;rw [add_none,ha.cell (by simp;omega),mid_get hi]
theorem Win.frozen{w:World}{ad:Addr}{pre ws post:List Nat}(h:Win w ad pre ws post)(i:Nat):w.frozen? (ad.add i)=false:=by
 obtain⟨g,rfl,ha⟩:=h;rw [add_none];exact ha.frozen _
theorem Win.set{w:World}{ad:Addr}{pre ws post:List Nat}(h:Win w ad pre ws post){i:Nat}(hi:i<ws.length)(x:Nat):Win (w.setCell (ad.add i) (wd x)) ad pre (ws.set i x) post:=by
 obtain⟨g,rfl,ha⟩:=h;refine⟨g,rfl,?_⟩;rw [add_none,<- mid_set hi]
 exact ha.set _ _
theorem Win.drewN{w:World}{ad:Addr}{pre ws post:List Nat}(h:Win w ad pre ws post)(n:Nat):Win (w.drewN n) ad pre ws post:=h
theorem grown_setw{w0 w:World}{ad:Addr}(h:w0.grownBy w (some ad.block))(i:Nat)(v:Value):w0.grownBy (w.setCell (ad.add i) v) (some ad.block):=
 h.trans ⟨rfl,rfl,rfl,by simp,fun k _ hk=>Below.heap_setCell _ _ _ _ (fun e=>hk (by rw [e,block_of_add]))⟩
theorem _root_.Go.World.grownBy.drawn{w w':World}{r:Option Nat}(h:w.grownBy w' r)(n:Nat):w.grownBy (w'.drewN n) r:=
 h.trans ⟨rfl,rfl,rfl,Nat.le_refl _,fun _ _ _=>rfl⟩
theorem U32s.grown{w w':World}{A:Option Addr}{n c g:Nat}{xs:List Nat}(h:U32s w A n c xs)(hg:w.grownBy w' (some g))(hne:∀ ad,A=some ad->0<n->ad.block≠g):U32s w' A n c xs:=
 h.keep hg.size (fun ad e h0=>by
  obtain⟨ad',e',hlt',_⟩:=h.at_ h0;rw [e] at e';cases e'
  exact hg.block _ hlt' (fun h=>hne ad e h0 (by injection h)))
theorem Win.lt{w:World}{ad:Addr}{pre ws post:List Nat}(h:Win w ad pre ws post):ad.block<w.heap.size:=by
 obtain⟨g,rfl,ha⟩:=h
 exact ha.lt
theorem Win.u32s{w:World}{ad:Addr}{pre ws post:List Nat}(h:Win w ad pre ws post)(hw:W32 ws){n c:Nat}(hl:ws.length=n)(hs:n<=34359738368)(hc:n<=c):U32s w (some ad) n c ws:=
 ⟨hl,hc,hs,hw,fun _=>⟨ad,rfl,h.lt,fun _ hj=>h.cell (by omega)⟩⟩
theorem Arr.win{w:World}{g:Nat}{xs:List Nat}(h:Arr w g xs):Win w ⟨g,0,none⟩ [] xs []:=⟨g,rfl,by simpa using h⟩
end
section
open Go.RowKit
set_option maxRecDepth 100000 in
theorem digit_any(ad:Addr)(B:Option Addr)(n c d:Nat)(pre ws post ys:List Nat)(w:World)(hr:Win w ad pre ws post)(hrw:W32 ws)(hy:U32s w B n d ys)(hne:∀ b,B=some b->0<n->b.block≠ad.block)(hrl:ws.length=n+1)(hc:n+1<=c)(hn:2<=n)(hs:n<=1073741824)
  (hlt:num ws<num ys*4294967296)(hv1:2147483648<=ys[n - 1]?.getD 0):
  Calls Tryz.prog 265 #[.slice (some ad) (n+1) c,.slice B n d] w fun e w'=>
   ∃ rs,e=.returned (.int .u32 ((num ws / num ys:Nat):Int))/\Win w' ad pre rs post/\W32 rs/\rs.length=n+1/\num rs=num ws % num ys/\w.grownBy w' (some ad.block):=by
 have hV0:0<num ys:=by
  rcases Nat.eq_zero_or_pos (num ys) with h | h
  ·rw [h] at hlt;omega
  ·exact h
 obtain⟨k,hk⟩:∃ k,n=k+2:=⟨n - 2,by omega⟩
 have tU:=num_top3 (l:=ws) (k:=k) (by omega);have tV:=num_top2 (l:=ys) (k:=k) (by rw [hy.len];omega);have lU:=num_take_lt hrw (k:=k) (by omega);have lV:=num_take_lt hy.w32 (k:=k) (by rw [hy.len];omega);rw [show k=n - 2 from by omega,show n - 2+1=n - 1 from by omega] at tU tV;rw [show n - 2+2=n from by omega] at tU;rw [show k=n - 2 from by omega] at lU lV;have cu2:=hr.cell (i:=n) (by omega);have cu1:=hr.cell (i:=n - 1) (by omega);have cu0:=hr.cell (i:=n - 2) (by omega);obtain⟨bd,rfl,cv1⟩:=hy.cell (j:=n - 1) (by omega);have cv0:=hy.cellAt (j:=n - 2) (by omega);have xu2:ws[n]?.getD 0<4294967296:=hrw.get n;have xu1:ws[n - 1]?.getD 0<4294967296:=hrw.get (n - 1);have xu0:ws[n - 2]?.getD 0<4294967296:=hrw.get (n - 2);have xv1:=hy.lt (n - 1);have xv0:=hy.lt (n - 2)
 obtain⟨u2,eu2⟩:∃ z,ws[n]?.getD 0=z:=⟨_,rfl⟩
 obtain⟨u1,eu1⟩:∃ z,ws[n - 1]?.getD 0=z:=⟨_,rfl⟩
 obtain⟨u0,eu0⟩:∃ z,ws[n - 2]?.getD 0=z:=⟨_,rfl⟩
 obtain⟨v1,ev1⟩:∃ z,ys[n - 1]?.getD 0=z:=⟨_,rfl⟩
 obtain⟨v0,ev0⟩:∃ z,ys[n - 2]?.getD 0=z:=⟨_,rfl⟩
 rw [eu2] at tU cu2 xu2;rw [eu1] at tU cu1 xu1;rw [eu0] at tU cu0 xu0;rw [ev1] at tV cv1 xv1 hv1;rw [ev0] at tV cv0 xv0;have EU0:=Hd eu0;have EV1:=Hd ev1;have EV0:=Hd ev0;clear eu2 eu1 eu0 ev1 ev0 hk
 obtain⟨top,htop⟩:∃ t,u2*4294967296+u1=t:=⟨_,rfl⟩
 rw [show u1+4294967296*u2=top from by omega] at tU
 obtain⟨P,hP⟩:∃ P,2^(32*(n - 2))=P:=⟨_,rfl⟩
 obtain⟨lu,hlu⟩:∃ P,num (ws.take (n - 2))=P:=⟨_,rfl⟩
 obtain⟨lv,hlv⟩:∃ P,num (ys.take (n - 2))=P:=⟨_,rfl⟩
 rw [hP,hlu] at tU;rw [hP,hlv] at tV;rw [hP,hlu] at lU;rw [hP,hlv] at lV;clear hP hlu hlv
 obtain⟨U,hU⟩:∃ P,num ws=P:=⟨_,rfl⟩
 obtain⟨V,hV⟩:∃ P,num ys=P:=⟨_,rfl⟩
 rw [hU] at tU hlt ⊢;rw [hV] at tV hlt hV0 ⊢;have KS:=Hd (kn_start tU tV lU xu0 (by omega));have KB:=Hd (fun x hx=>kn_big (x:=x) hlt hx);have KT:=Hd (fun x r ht h=>kn_step (x:=x) (r:=r) tU tV lU ht h);have KE:=Hd (fun x r ht h=>kn_end (x:=x) (r:=r) tU tV lV xv0 (by omega) hlt ht h);have HR:=Hd hr;have HY:=Hd hy;have HRW:=Hd hrw;have HRL:=Hd hrl;have HU:=Hd hU;have HV:=Hd hV;have HLT:=Hd hlt;have HV0:=Hd hV0;have HNE:=Hd hne;have hor:=or_join (i:=32) (x:=u2) (y:=u1) (by omega) (by omega) (by omega);rw [show ((u2*2^32:Nat):Int)=(u2:Int)*4294967296 from by omega,show ((u2*2^32+u1:Nat):Int)=(top:Int) from by omega] at hor
 have htl:top<18446744073709551616:=by omega
 have hdiv:(top:Int) / (v1:Int)=((top / v1:Nat):Int):=by simp
 have hmod:(top:Int) % (v1:Int)=((top % v1:Nat):Int):=by simp
 have hmod2:(top:Int).tmod (v1:Int)=((top % v1:Nat):Int):=by rw [Int.tmod_eq_emod_of_nonneg (by omega)];simp
 obtain⟨x0,hx0⟩:∃ z,top / v1=z:=⟨_,rfl⟩
 obtain⟨r0,hr0⟩:∃ z,top % v1=z:=⟨_,rfl⟩
 have HT0:=Hd (show x0*v1+r0=top from by rw [<- hx0,<- hr0,Nat.mul_comm];exact Nat.div_add_mod _ _)
 have hr0l:r0<v1:=by rw [<- hr0];exact Nat.mod_lt _ (by omega)
 have hx0l:x0<=8589934592:=by
  have h1:x0*2147483648<=x0*v1:=Nat.mul_le_mul_left _ hv1;have h2:=HT0.out
  omega
 rw [hx0] at hdiv KS;rw [hr0] at hmod hmod2;clear tU tV lU lV hlt hr hy hrw hrl hU hV hV0 hne htop hx0 hr0
 have hv0:((v1:Int) == 0)=false:=by simp;omega
 go_enter Tryz.func265,Tryz.ntmps265
 go_wp2_with fail
 go_quiet (fail)
 revert nq;intro nqa
 go_wp2_with fail
 go_quiet (fail)
 go_wp2
 obtain⟨W1,hW1⟩:∃ W,(w.drewN nqa).drewN nq=W:=⟨_,rfl⟩
 have G1:=Hd (show w.grownBy W1 (some ad.block) from by rw [<- hW1];exact⟨rfl,rfl,rfl,Nat.le_refl _,fun _ _ _=>rfl⟩);have R1:=Hd (show Win W1 ad pre ws post from by rw [<- hW1];exact HR.out);rw [hW1];clear hW1 HR cu2 cu1 cu0 cv1 cv0 hor hdiv hmod hmod2 xu2 xu1
 go_loopw [7,8] (fun xv rv wr=>∃ x r:Nat,xv=.int .u64 x/\rv=.int .u64 r/\U<(x+1)*V/\x*v1+r=top/\x<=8589934592/\r<8589934592/\Win wr ad pre ws post/\w.grownBy wr (some ad.block)) (fun xv _ _=>(intOf xv).toNat)
 case atStart=>exact⟨x0,r0,rfl,rfl,KS.out,HT0.out,hx0l,by omega,R1.out,G1.out⟩
 case round=>
  obtain⟨x,r,rfl,rfl,hx,ht,hxl,hrl,hr,hg⟩:=hrel;clear R1 G1 KS HT0 hx0l hr0l;have R:=Hd hr;have G:=Hd hg;have HX:=Hd hx;have HT:=Hd ht
  obtain⟨cc,hcc⟩:∃ cc,decide (r<4294967296/\(4294967296<=x\/r*4294967296+u0<x*v0))=cc:=⟨_,rfl⟩
  have CC:=Hd hcc;clear hr hg hx ht hcc
  go_upto_region 4 with fail
  go_cut [74] from 47 to 84 (fun s74 wx=>s74=.bool cc/\Win wx ad pre ws post/\w.grownBy wx (some ad.block))
  case first=>
   have HB2:=Hd (HY.out.grown G.out HNE.out)
   by_cases h1:r<4294967296
   ·have g1:((r:Int) / 4294967296 == 0)=true:=by simp;omega
    by_cases h2:4294967296<=x
    ·have g2:((x:Int) / 4294967296 == 0)=false:=by simp;omega
     have g3:((x:Int) / 4294967296 != 0)=true:=by simp;omega
     obtain rfl:cc=true:=by rw [<- CC.out];simp [h1,h2]
     go_wp2_with fail;refine wp_region_held_drew (S:=fun W'=>Win W' ad pre ws post/\U32s W' (some bd) n d ys/\w.grownBy W' (some ad.block)) (by kernel_rfl) (by exact⟨R.out.drewN 1,HB2.out.drew,G.out.drawn 1⟩) (fun hHeld=>?_);refine tks 0 ?_;refine tks 1 ?_;refine tks 2 ?_;refine tks 3 ?_;refine tks 4 ?_;refine tks 5 ?_;refine tks 6 ?_;refine tks 7 ?_;refine tkns 8 ?_;refine tkns 9 ?_;refine tkns 10 ?_;refine tkns 11 ?_;refine tkns 12 ?_;refine tkns 13 ?_;refine tkns 14 ?_;refine tkns 15 ?_;refine tkns 16 ?_;refine tkns 17 ?_;refine tkns 18 ?_;refine tkns 19 ?_;refine tkns 20 ?_;refine tkns 21 ?_;refine tkns 22 ?_;refine tkns 23 ?_;refine tkns 24 ?_;refine tkns 25 ?_;refine tks 26 ?_;refine tks 27 ?_;refine wpAnyH_done (by kernel_rfl) ?_ _;go_wp2_with fail
     go_meet
     case rel=>exact⟨rfl,hHeld.1,hHeld.2.2⟩
    ·have g2:((x:Int) / 4294967296 == 0)=true:=by simp;omega
     have g3:((x:Int) / 4294967296 != 0)=false:=by simp;omega
     have hm1:x*v0<=4294967295*4294967295:=Nat.mul_le_mul (by omega) (by omega)
     obtain⟨z,hz⟩:∃ z,x*v0=z:=⟨_,rfl⟩
     have e1:(x:Int)*(v0:Int)=(z:Int):=by rw [<- hz];simp
     have hor:=or_join (i:=32) (x:=r) (y:=u0) (by omega) (by omega) (by omega);rw [show ((r*2^32:Nat):Int)=(r:Int)*4294967296 from by omega,show ((r*2^32+u0:Nat):Int)=(r:Int)*4294967296+(u0:Int) from by omega] at hor
     have hc3:decide ((r:Int)*4294967296+(u0:Int)<(z:Int))=cc:=by
      rw [<- CC.out,hz];have:¬ 4294967296<=x:=h2
      simp only [h1,this,true_and,false_or]
      congr 1
      apply propext
      omega
     rw [hz] at hm1;clear hz
     have hor1:IntKind.u64.wrap ((r:Int)*4294967296)=(r:Int)*4294967296:=by rw [IntKind.wrap_u64];omega
     have hz1:IntKind.u64.wrap (z:Int)=(z:Int):=by rw [IntKind.wrap_u64];omega
     have hu1:IntKind.u64.wrap (u0:Int)=(u0:Int):=by rw [IntKind.wrap_u64];omega
     have hv2:IntKind.u64.wrap (v0:Int)=(v0:Int):=by rw [IntKind.wrap_u64];omega
     obtain⟨m2,hm2⟩:∃ m,n - 2=m:=⟨_,rfl⟩
     have hw:IntKind.i64.wrap ((n:Int) - 2)=(m2:Int):=by rw [IntKind.wrap_i64];omega
     have hb2:(m2:Int)<(n:Int):=by omega
     have hb3:(m2:Int)<(n:Int)+1:=by omega
     have HM2:=Hd hm2;clear hm2;go_wp2_with fail;refine wp_region_held_drew (S:=fun W'=>Win W' ad pre ws post/\U32s W' (some bd) n d ys/\w.grownBy W' (some ad.block)) (by kernel_rfl) (by exact⟨R.out.drewN 1,HB2.out.drew,G.out.drawn 1⟩) (fun hHeld=>?_);refine tks 0 ?_;refine tks 1 ?_;refine tks 2 ?_;refine tks 3 ?_;refine tks 4 ?_;refine tks 5 ?_;refine tks 6 ?_;refine tks 7 ?_;refine tks 8 ?_;refine tks 9 ?_;refine tks 10 ?_;refine tks 11 ?_;refine tks 12 ?_;refine tks 13 ?_ (hv:=by intro W2 hSw;have cu0:=hSw.1.cell (i:=n - 2) (by have:=HRL.out;omega);rw [EU0.out,HM2.out] at cu0;have cv0:=hSw.2.1.cellAt (j:=n - 2) (by omega);rw [EV0.out,HM2.out] at cv0;go_simp;(try with_reducible rfl));refine tks 14 ?_;refine tks 15 ?_;refine tks 16 ?_;refine tks 17 ?_;refine tks 18 ?_;refine tks 19 ?_;refine tks 20 ?_;refine tks 21 ?_;refine tks 22 ?_ (hv:=by intro W2 hSw;have cu0:=hSw.1.cell (i:=n - 2) (by have:=HRL.out;omega);rw [EU0.out,HM2.out] at cu0;have cv0:=hSw.2.1.cellAt (j:=n - 2) (by omega);rw [EV0.out,HM2.out] at cv0;go_simp;(try with_reducible rfl));refine tks 23 ?_;refine tks 24 ?_;refine tks 25 ?_;refine tks 26 ?_;refine tks 27 ?_;refine wpAnyH_done (by kernel_rfl) ?_ _;go_wp2_with fail
     go_meet
     case rel=>exact⟨rfl,hHeld.1,hHeld.2.2⟩
   ·have g1:((r:Int) / 4294967296 == 0)=false:=by simp;omega
    obtain rfl:cc=false:=by rw [<- CC.out];simp [h1]
    go_wp2_with fail;refine wp_region_held_drew (S:=fun W'=>Win W' ad pre ws post/\U32s W' (some bd) n d ys/\w.grownBy W' (some ad.block)) (by kernel_rfl) (by exact⟨R.out.drewN 1,HB2.out.drew,G.out.drawn 1⟩) (fun hHeld=>?_);refine tks 0 ?_;refine tks 1 ?_;refine tks 2 ?_;refine tks 3 ?_;refine tkns 4 ?_;refine tkns 5 ?_;refine tkns 6 ?_;refine tkns 7 ?_;refine tkns 8 ?_;refine tkns 9 ?_;refine tkns 10 ?_;refine tkns 11 ?_;refine tkns 12 ?_;refine tkns 13 ?_;refine tkns 14 ?_;refine tkns 15 ?_;refine tkns 16 ?_;refine tkns 17 ?_;refine tkns 18 ?_;refine tkns 19 ?_;refine tkns 20 ?_;refine tkns 21 ?_;refine tkns 22 ?_;refine tkns 23 ?_;refine tkns 24 ?_;refine tkns 25 ?_;refine tkns 26 ?_;refine tks 27 ?_;refine wpAnyH_done (by kernel_rfl) ?_ _;go_wp2_with fail
    go_meet
    case rel=>exact⟨rfl,hHeld.1,hHeld.2.2⟩
  case rest=>
   obtain⟨rfl,hr,hg⟩:=hcut;clear R G;have R:=Hd hr;have G:=Hd hg;clear hr hg
   cases cc
   ·have hE:=KE.out x r HT.out (by
     have hc:=CC.out
     simp only [decide_eq_false_iff_not,not_and,Nat.not_le,not_or,Nat.not_lt] at hc
     by_cases h1:r<4294967296
     ·exact .inr (hc h1)
     ·exact .inl (by omega))
    have hx32:x<4294967296:=hE.1;have HXV:=Hd hE.2;clear hE CC HT KT KB KE hxl hrl EU0 EV1 EV0;go_wp2
    go_loopw [9,10,11,12,87] (fun bv cv _ _ iv wr=>∃ (i c b:Nat) (cur:List Nat),iv=.int .i64 i/\cv=.int .u64 c/\bv=.int .u32 b/\i<=n/\SubInv ws ys cur x i c b/\Win wr ad pre cur post/\w.grownBy wr (some ad.block)) (fun _ _ _ _ iv _=>n - (intOf iv).toNat)
    case atStart=>exact⟨0,0,0,ws,rfl,rfl,rfl,Nat.zero_le _,SubInv.start _ HRW.out,R.out,G.out⟩
    case round=>
     obtain⟨i,c,b,cur,rfl,rfl,rfl,hi,hinv,harr,hgr⟩:=hrel;clear R G;have HI:=Hd hinv;have R:=Hd harr;have G:=Hd hgr;have hc32:c<4294967296:=hinv.2.2.2.1;have hb1:b<=1:=hinv.2.2.2.2.1
     have hcl:cur.length=n+1:=by rw [hinv.2.1,HRL.out]
     have hu1:cur[i]?.getD 0<4294967296:=hinv.1.get i;have hcu:=harr.cell (i:=i) (by omega);rw [hinv.2.2.1 i (Nat.le_refl _)] at hcu hu1;have hf:=harr.frozen i
     obtain⟨u,huu⟩:∃ z,ws[i]?.getD 0=z:=⟨_,rfl⟩
     rw [huu] at hcu hu1;have HUU:=Hd huu;have HCL:=Hd hcl;clear hinv harr hgr huu hcl
     by_cases hlt:i<n
     ·have hy:=(HY.out.grown G.out HNE.out).cellAt (j:=i) hlt;have hy1:ys[i]?.getD 0<4294967296:=HY.out.lt i
      obtain⟨y,hyy⟩:∃ y,ys[i]?.getD 0=y:=⟨_,rfl⟩
      rw [hyy] at hy hy1;have HYY:=Hd hyy;clear hyy;have hz1:y*x<=4294967295*4294967295:=Nat.mul_le_mul (by omega) (by omega)
      obtain⟨z,hz⟩:∃ z,y*x=z:=⟨_,rfl⟩
      rw [hz] at hz1
      have e1:(x:Int)*(y:Int)=(z:Int):=by rw [<- hz,Nat.mul_comm];simp
      have HZ:=Hd hz;clear hz
      obtain⟨t,ht⟩:∃ t,c+z=t:=⟨_,rfl⟩
      obtain⟨D,hD⟩:∃ D,(u+8589934592 - t % 4294967296 - b) % 4294967296=D:=⟨_,rfl⟩
      obtain⟨bo,hbo⟩:∃ D,(if u<t % 4294967296+b then 1 else 0)=D:=⟨_,rfl⟩
      have hS:=fun W=>sub32_any u (t % 4294967296) b W hu1 (by omega) hb1;rw [hD,hbo] at hS
      have hbo1:bo<=1:=by rw [<- hbo];split<;>omega
      have hD1:D<4294967296:=by omega
      have HEQ:=Hd (show D+(t % 4294967296+b)=u+4294967296*bo from by rw [<- hbo];split<;>omega)
      obtain⟨tl,htl2⟩:∃ z,t % 4294967296=z:=⟨_,rfl⟩
      obtain⟨th,hth⟩:∃ z,t / 4294967296=z:=⟨_,rfl⟩
      rw [htl2] at hS HEQ;have HS:=Hd hS;have HT':=Hd ht;have HTL:=Hd htl2;have HTH:=Hd hth
      have ct:(c:Int)+(z:Int)=(t:Int):=by omega
      have cl:(t:Int) % 4294967296=(tl:Int):=by omega
      have ch:(t:Int) / 4294967296=(th:Int):=by omega
      have tb:t<18446744073709551616:=by omega
      have tlb:tl<4294967296:=by omega
      have thb:th<4294967296:=by omega
      clear hD hbo hS ht htl2 hth;go_wp2_with fail;refine cy (HS.out _) ?_;go_wp2
      go_roundw
      case rel=>
       refine⟨i+1,th,bo,cur.set i D,by go_num,rfl,rfl,by omega,?_,R.out.set (by have:=HCL.out;omega) _,grown_setw G.out _ _⟩;rw [<- HTH.out]
       exact HI.out.step (by rw [HRL.out];omega) hx32 HY.out.w32 (by rw [HYY.out,HZ.out,HT'.out]) hD1 hbo1 (by rw [HTL.out,HUU.out];exact HEQ.out)
      case measure=>simp [intOf];omega
     ·obtain rfl:i=n:=by omega
      obtain⟨D,hD⟩:∃ D,(u+8589934592 - c - b) % 4294967296=D:=⟨_,rfl⟩
      obtain⟨bo,hbo⟩:∃ D,(if u<c+b then 1 else 0)=D:=⟨_,rfl⟩
      have hS:=fun W=>sub32_any u c b W hu1 (by omega) hb1;rw [hD,hbo] at hS
      have hbo1:bo<=1:=by rw [<- hbo];split<;>omega
      have hD1:D<4294967296:=by omega
      have HEQ:=Hd (show D+(c % 4294967296+b)=u+4294967296*bo from by rw [<- hbo];split<;>omega);have HS:=Hd hS;have HC32:=Hd hc32;clear hD hbo hS hlt hi;go_wp2_with fail;refine cy (HS.out _) ?_;have hst:=HI.out.step (d:=D) (b':=bo) (by rw [HRL.out];omega) hx32 HY.out.w32 (t:=c) (by rw [List.getElem?_eq_none (by rw [HY.out.len];omega)];simp) hD1 hbo1 (by rw [HUU.out];exact HEQ.out)
      have hth0:c / 4294967296=0:=by have:=HC32.out;omega
      have hlast:=hst.last (by rw [HRL.out]) HRW.out (by rw [HY.out.len];omega) hth0;rw [HU.out,HV.out] at hlast;have hmw:W32 (cur.set i D):=hst.1
      have hml:(cur.set i D).length=i+1:=by simp [HCL.out]
      have R2:=Hd (R.out.set (i:=i) (by have:=HCL.out;omega) D);have G2:=Hd (grown_setw G.out i (wd D))
      obtain⟨ms,hms⟩:∃ m,cur.set i D=m:=⟨_,rfl⟩
      rw [hms] at hlast hmw hml R2;have HLAST:=Hd hlast;have HMW:=Hd hmw;have HML:=Hd hml;clear hst hth0 hlast hmw hml hms R G HI HEQ HS HUU HCL hc32 HC32
      rcases Nat.eq_zero_or_pos bo with h0 | h0
      ·subst h0;go_wp2;have hl:=HLAST.out;have hx:=HX.out;rw [Nat.mul_zero,Nat.add_zero] at hl;rw [Nat.add_mul,Nat.one_mul] at hx;have hk:=kn_ok' hl (by omega)
       go_ret
       exact⟨ms,ret_int (show ((x:Nat):Int)=((U / V:Nat):Int) from by rw [hk.1]),R2.out,HMW.out,HML.out,by rw [hk.2],G2.out⟩
      ·obtain rfl:bo=1:=by omega
       have HVL:=Hd (show V<2^(32*(i+1)) from by
        have h:=num_lt HY.out.w32;rw [HY.out.len,HV.out] at h
        exact Nat.lt_of_lt_of_le h (Nat.pow_le_pow_right (by omega) (by omega)))
       have HML2:=Hd (show num ms<2^(32*(i+1)) from by
        have h:=num_lt HMW.out
        rwa [HML.out] at h)
       go_wp2
       go_loopw [13,14,15,135] (fun ov _ _ iv wr=>∃ (t o:Nat) (cur:List Nat),iv=.int .i64 t/\ov=.int .u32 o/\t<=i/\GiveInv ms ys cur t o/\Win wr ad pre cur post/\w.grownBy wr (some ad.block)) (fun _ _ _ iv _=>i - (intOf iv).toNat)
       case atStart=>exact⟨0,0,ms,rfl,rfl,Nat.zero_le _,GiveInv.start _ _,R2.out,G2.out⟩
       case round=>
        obtain⟨t,o,cur2,rfl,rfl,hi2,hinv2,harr2,hgr2⟩:=hrel;clear R2 G2 hf hcu;have HI2:=Hd hinv2;have R3:=Hd harr2;have G3:=Hd hgr2;have ho1:=hinv2.carry
        have hcl2:cur2.length=i+1:=by rw [hinv2.len (by rw [HML.out];omega),HML.out]
        have hm1:ms[t]?.getD 0<4294967296:=HMW.out.get t;have hcm:=harr2.cell (i:=t) (by omega);rw [hinv2.at] at hcm;have hf2:=harr2.frozen t
        obtain⟨m,hmm⟩:∃ z,ms[t]?.getD 0=z:=⟨_,rfl⟩
        rw [hmm] at hcm hm1;have HMM:=Hd hmm;have HCL2:=Hd hcl2;clear hinv2 harr2 hgr2 hmm hcl2
        by_cases hlt2:t<i
        ·have hy:=(HY.out.grown G3.out HNE.out).cellAt (j:=t) hlt2;have hy1:ys[t]?.getD 0<4294967296:=HY.out.lt t
         obtain⟨y,hyy⟩:∃ y,ys[t]?.getD 0=y:=⟨_,rfl⟩
         rw [hyy] at hy hy1;have HYY:=Hd hyy;clear hyy;go_wp2
         go_roundw
         case rel=>
          refine⟨t+1,(o+m+y) / 4294967296,cur2.set t ((o+m+y) % 4294967296),by go_num,by go_num,by omega,HI2.out.step (by rw [HML.out];omega) HMW.out HY.out.w32 (by rw [HMM.out,HYY.out]),?_,grown_setw G3.out _ _⟩;rw [show ((m:Int)+(y:Int)+(o:Int)) % 4294967296=(((o+m+y) % 4294967296:Nat):Int) from by omega]
          exact R3.out.set (by have:=HCL2.out;omega) _
         case measure=>simp [intOf];omega
        ·obtain rfl:t=i:=by omega
         obtain⟨e,he⟩:∃ e,(m+o) % 4294967296=e:=⟨_,rfl⟩
         have he2:((m:Int)+(o:Int)) % 4294967296=(e:Int):=by omega
         have he1:e<4294967296:=by omega
         have hx0:0<x:=by
          rcases Nat.eq_zero_or_pos x with h | h
          ·have h1:=HLAST.out;have h2:=HML2.out;subst h
           omega
          ·exact h
         have hle:num ms+num ys<2^(32*(t+1))*2:=by rw [HV.out];have:=HVL.out;have:=HML2.out;omega
         have hge:2^(32*(t+1))<=num ms+num ys:=by rw [HV.out];have:=HLAST.out;have:=HXV.out;omega
         have hdn:=HI2.out.done (d:=e) HML.out (by rw [HY.out.len];omega) (by rw [HMM.out];exact he.symm) HMW.out hle hge;have R4:=Hd (R3.out.set (i:=t) (by have:=HCL2.out;omega) e);have G4:=Hd (grown_setw G3.out t (wd e))
         obtain⟨fs,hfs⟩:∃ l,cur2.set t e=l:=⟨_,rfl⟩
         rw [hfs] at hdn R4;rw [HV.out] at hdn;have HDN:=Hd hdn
         have hxe:((x:Int) - 1)=((x - 1:Nat):Int):=by omega
         have hxe2:((x - 1:Nat):Int)<4294967296:=by omega
         clear hdn hfs hle hge HI2 R3 G3 HMM HCL2 he hlt2 hi2 HVL;go_wp2;have hd:=HDN.out;have hl:=HLAST.out;have hm2:=HML2.out
         have hx1:(x - 1)*V+V=x*V:=by rw [<- Nat.succ_mul];congr 1;omega
         have hk:=kn_ok' (q:=x - 1) (R:=num fs) (U:=U) (V:=V) (by omega) (by omega)
         go_ret
         exact⟨fs,ret_int (show ((x - 1:Nat):Int)=((U / V:Nat):Int) from by rw [hk.1]),R4.out,hd.2.1,hd.2.2,by rw [hk.2],G4.out⟩
   ·have hc:=CC.out
    simp only [decide_eq_true_eq] at hc
    have h1:r<4294967296:=hc.1
    have h2:0<x/\U<(x - 1+1)*V:=by
     rcases hc.2 with h | h
     ·exact⟨by omega,KB.out x h⟩
     ·exact KT.out x r HT.out h
    have h3:0<x:=h2.1;have HX2:=Hd h2.2;have hT:=HT.out;have HT2:=Hd (show (x - 1)*v1+(r+v1)=top from by rw [Nat.sub_mul];have:v1<=x*v1:=Nat.le_mul_of_pos_left _ h3;omega);have cv1:=(HY.out.grown G.out HNE.out).cellAt (j:=n - 1) (by omega);rw [EV1.out] at cv1;clear hc h2 hT;go_wp2
    go_roundw
    case rel=>exact⟨x - 1,r+v1,by go_num,by go_num,HX2.out,HT2.out,by omega,by omega,R.out,G.out⟩
    case measure=>simp [intOf];omega
end
section
open Go.RowKit
theorem back_win(ad:Addr)(n c s:Nat)(pre rs post:List Nat)(w:World)(hr:Win w ad pre rs post)(hc:n<=c)(hrw:W32 rs)(hrl:rs.length=n)(hs:s<32)(hn:n<=1073741824):
  Calls Tryz.prog 266 #[.slice (some ad) n c,.int .i64 (s:Int)] w fun e w'=>
   ∃ k,e=.returned (.slice (some ad) k k)/\U32s w' (some ad) k k (digs (num rs / 2^s))/\w.grownBy w' (some ad.block):=by
 have HR:=Hd hr;have HRW:=Hd hrw;have HRL:=Hd hrl;clear hr hrw hrl
 go_enter Tryz.func266,Tryz.ntmps266
 go_wp2
 go_loopw [5,6,9] (fun _ _ iv wr=>∃ (i:Nat) (cur:List Nat),iv=.int .i64 i/\i<=n/\BackArr rs cur s i/\Win wr ad pre cur post/\w.grownBy wr (some ad.block)) (fun _ _ iv _=>n - (intOf iv).toNat)
 case atStart=>exact⟨0,rs,rfl,Nat.zero_le _,BackArr.start _ _,HR.out,World.grownBy.refl w _⟩
 case round=>
  obtain⟨i,cur,rfl,hi,hinv,harr,hgr⟩:=hrel;have HI:=Hd hinv;have HA:=Hd harr;have HG:=Hd hgr;clear hinv harr hgr
  by_cases hlt:i<n
  ·have hf:=HA.out.frozen i
   have hll:cur.length=n:=by rw [HI.out.len (by rw [HRL.out];exact hi),HRL.out]
   have hcc:=HA.out.cell (i:=i) (by rw [hll];exact hlt);rw [HI.out.at (Nat.le_refl _)] at hcc;have hx1:=HRW.out.get i
   obtain⟨x,hxx⟩:∃ r,rs[i]?.getD 0=r:=⟨_,rfl⟩
   rw [hxx] at hcc hx1;have HXX:=Hd hxx;clear hxx
   by_cases hl2:i+1<n
   ·have hc2:=HA.out.cell (i:=i+1) (by rw [hll];exact hl2);rw [HI.out.at (by omega)] at hc2;rw [show ad.add (i+1)=⟨ad.block,ad.off+(i+1),none⟩ from by unfold Addr.add;simp] at hc2;have hy1:=HRW.out.get (i+1)
    obtain⟨y,hyy⟩:∃ r,rs[i+1]?.getD 0=r:=⟨_,rfl⟩
    rw [hyy] at hc2 hy1;have HYY:=Hd hyy;have HLL:=Hd hll;clear hyy hll;have hor:=or_join' (i:=32) (x:=y) (y:=x) (by omega) (by omega) (by omega);rw [show (2:Nat)^32=4294967296 from rfl,show ((y*4294967296:Nat):Int)=(y:Int)*4294967296 from by omega] at hor
    obtain⟨v,hv⟩:∃ v,x+y*4294967296=v:=⟨_,rfl⟩
    rw [hv] at hor
    have hsh:(v:Int) / (2:Int)^s=((v / 2^s:Nat):Int):=by rw [Int.natCast_ediv,Int.natCast_pow];rfl
    obtain⟨z,hz⟩:∃ z,v / 2^s=z:=⟨_,rfl⟩
    rw [hz] at hsh;have HV:=Hd hv;have HZ:=Hd hz
    have hv1:v<18446744073709551616:=by omega
    clear hv hz
    have i1:((i:Int)+1).toNat=i+1:=by omega
    go_wp2
    go_roundw
    case rel=>
     refine⟨i+1,cur.set i (z % 4294967296),by go_num,by omega,?_,?_,grown_setw HG.out _ _⟩
     ·rw [<- HZ.out]
      exact HI.out.step (by rw [HRL.out];exact hlt) HRW.out hs (by rw [HXX.out,HYY.out,<- HV.out];omega)
     ·exact HA.out.set (by rw [HLL.out];exact hlt) (z % 4294967296)
    case measure=>simp [intOf];omega
   ·have HYY:=Hd (show rs[i+1]?.getD 0=0 by rw [List.getElem?_eq_none (by rw [HRL.out];omega)];rfl)
    have hsh:(x:Int) / (2:Int)^s=((x / 2^s:Nat):Int):=by rw [Int.natCast_ediv,Int.natCast_pow];rfl
    obtain⟨z,hz⟩:∃ z,x / 2^s=z:=⟨_,rfl⟩
    rw [hz] at hsh;have HZ:=Hd hz;have HLL:=Hd hll;clear hz hll;go_wp2
    go_roundw
    case rel=>
     refine⟨i+1,cur.set i (z % 4294967296),by go_num,by omega,?_,?_,grown_setw HG.out _ _⟩
     ·rw [<- HZ.out]
      exact HI.out.step (by rw [HRL.out];exact hlt) HRW.out hs (by rw [HXX.out,HYY.out];omega)
     ·exact HA.out.set (by rw [HLL.out];exact hlt) (z % 4294967296)
    case measure=>simp [intOf];omega
  ·obtain rfl:i=n:=by omega
   have hi1:=HI.out;have hw1:=hi1.w32 HRW.out
   have hl1:cur.length=i:=by rw [hi1.len (by rw [HRL.out];exact Nat.le_refl _),HRL.out]
   have hu:=HA.out.u32s hw1 hl1 (by omega) hc
   have hd:num cur=num rs / 2^s:=by
    have hl:=HRL.out;subst hl
    exact hi1.done HRW.out
   have HC:=Hd (cut_any _ _ _ _ _ hu);have HD:=Hd hu.cutd;rw [hd] at HD
   obtain⟨kk,hkk⟩:∃ kk,wlen cur=kk:=⟨_,rfl⟩
   rw [hkk] at HC HD;clear hkk hu hd hi1 hw1 hl1;go_wp2_with fail;refine HC.out.mono ?_;rintro e w' ⟨rfl,rfl⟩;go_wp2
   go_ret
   exact⟨kk,rfl,HD.out,HG.out⟩
theorem back_any(g n s:Nat)(rs:List Nat)(w:World)(hr:Arr w g rs)(hrw:W32 rs)(hrl:rs.length=n)(hs:s<32)(hn:n<=1073741824):
  Calls Tryz.prog 266 #[.slice (some ⟨g,0,none⟩) n n,.int .i64 (s:Int)] w fun e w'=>
   ∃ k,e=.returned (.slice (some ⟨g,0,none⟩) k k)/\U32s w' (some ⟨g,0,none⟩) k k (digs (num rs / 2^s))/\w.grownBy w' (some g):=
 back_win ⟨g,0,none⟩ n n s [] rs [] w hr.win (Nat.le_refl _) hrw hrl hs hn
end
end Go.Proofs.YthlmlmfebpjgdaaGreatDoor
