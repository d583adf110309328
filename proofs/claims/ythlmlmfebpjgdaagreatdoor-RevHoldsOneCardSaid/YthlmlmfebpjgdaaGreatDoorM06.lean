/-
Lemmas for the statement: NatD NaddT NsubT Nsub2T NshlT ExactT Inf1T Kn Kn2 NoneT Win.
-/
import Derived.Test.YthlmlmfebpjgdaaGreatDoorM01
import Derived.Test.YthlmlmfebpjgdaaGreatDoorM05
import Derived.Deep.QuietTactic
import Derived.Deep.DeepAppendRoom
import Derived.Test.YthlmlmfebpjgdaaGreatDoorM03
import Derived.Test.YthlmlmfebpjgdaaGreatDoorM04
import Derived.Deep.DeepCutAuto
set_option linter.unusedSimpArgs false
set_option linter.unusedVariables false
set_option maxHeartbeats 12800000
namespace Go.Proofs.YthlmlmfebpjgdaaGreatDoor
open Go.Proofs.Tryz
open Go.RowKit
theorem set_mid{ls r:List Nat}{i x:Nat}(hi:ls.length=i)(h:0<r.length):(ls ++ r).set i x=(ls ++ [x]) ++ r.tail:=by
 subst hi
 cases r with
 | nil=>simp at h
 | cons a l=>simp [List.set_append]
theorem tail_replicate(n:Nat):(List.replicate n 0).tail=List.replicate (n - 1) 0:=by cases n<;>simp [List.replicate_succ]
theorem tail_drop(xs:List Nat)(i:Nat):(xs.drop i).tail=xs.drop (i+1):=by simp
def AddArr(xs ys cur:List Nat)(N i c:Nat):Prop:=∃ ls,PlusInv xs ys ls i c/\cur=ls ++ List.replicate (N - i) 0
theorem AddArr.start(xs ys:List Nat)(N:Nat):AddArr xs ys (List.replicate N 0) N 0 0:=⟨[],PlusInv.start _ _,by simp⟩
theorem AddArr.len{xs ys cur:List Nat}{N i c:Nat}(h:AddArr xs ys cur N i c)(hi:i<=N):cur.length=N:=by
 obtain⟨ls,h1,rfl⟩:=h;have:=h1.len
 simp;omega
theorem AddArr.w32{xs ys cur:List Nat}{N i c:Nat}(h:AddArr xs ys cur N i c):W32 cur:=by
 obtain⟨ls,h1,rfl⟩:=h
 exact h1.1.append (W32.replicate _)
theorem AddArr.carry{xs ys cur:List Nat}{N i c:Nat}(h:AddArr xs ys cur N i c):c<=1:=by
 obtain⟨ls,h1,rfl⟩:=h
 exact h1.carry
theorem AddArr.zero{xs ys cur:List Nat}{N i c:Nat}(h:AddArr xs ys cur N i c):cur[i]?.getD 0=0:=by
 obtain⟨ls,h1,rfl⟩:=h;rw [List.getElem?_append_right (by rw [h1.len];omega),h1.len,List.getElem?_replicate]
 split<;>rfl
theorem AddArr.step{xs ys cur:List Nat}{N i c t:Nat}(h:AddArr xs ys cur N i c)(hi:i<N)(hx:W32 xs)(hy:W32 ys)(ht:t=c+xs[i]?.getD 0+ys[i]?.getD 0):
  AddArr xs ys (cur.set i (t % 4294967296)) N (i+1) (t / 4294967296):=by
 obtain⟨ls,h1,rfl⟩:=h;refine⟨ls ++ [t % 4294967296],h1.step hx hy ht,?_⟩;rw [set_mid h1.len (by simp;omega),tail_replicate]
 congr 2
theorem AddArr.done{xs ys cur:List Nat}{n c:Nat}(h:AddArr xs ys cur (n+1) n c)(hx:xs.length<=n)(hy:ys.length<=n):
  num (cur.set n c)=num xs+num ys/\W32 (cur.set n c):=by
 obtain⟨ls,h1,rfl⟩:=h;have h2:=h1.done hx hy;have h3:=h1.carry;rw [set_mid h1.len (by simp),tail_replicate]
 simp only [Nat.add_sub_cancel_left,Nat.sub_self,List.replicate_zero,List.append_nil]
 refine⟨?_,h2.2⟩;have:=h2.1;rw [trim_eq_digs h2.2] at this;have h4:=congrArg num this
 rwa [num_digs,num_digs] at h4
def LessArr(xs ys cur:List Nat)(i c:Nat):Prop:=∃ ls,MinusInv xs ys ls i c/\cur=ls ++ xs.drop i
theorem LessArr.start(xs ys:List Nat):LessArr xs ys xs 0 0:=⟨[],MinusInv.start _ _,by simp⟩
theorem LessArr.len{xs ys cur:List Nat}{i c:Nat}(h:LessArr xs ys cur i c)(hi:i<=xs.length):cur.length=xs.length:=by
 obtain⟨ls,h1,rfl⟩:=h;have:=h1.len
 simp;omega
theorem LessArr.w32{xs ys cur:List Nat}{i c:Nat}(h:LessArr xs ys cur i c)(hx:W32 xs):W32 cur:=by
 obtain⟨ls,h1,rfl⟩:=h
 exact h1.1.append (hx.drop _)
theorem LessArr.carry{xs ys cur:List Nat}{i c:Nat}(h:LessArr xs ys cur i c):c<=1:=by
 obtain⟨ls,h1,rfl⟩:=h
 exact h1.carry
theorem LessArr.at{xs ys cur:List Nat}{i c:Nat}(h:LessArr xs ys cur i c):cur[i]?.getD 0=xs[i]?.getD 0:=by
 obtain⟨ls,h1,rfl⟩:=h;rw [List.getElem?_append_right (by rw [h1.len];omega),h1.len,List.getElem?_drop,Nat.sub_self,Nat.add_zero]
theorem LessArr.step{xs ys cur:List Nat}{i c d c':Nat}(h:LessArr xs ys cur i c)(hi:i<xs.length)(hd:d<4294967296)(hc':c'<=1)
  (ht:d+ys[i]?.getD 0+c=xs[i]?.getD 0+4294967296*c'):LessArr xs ys (cur.set i d) (i+1) c':=by
 obtain⟨ls,h1,rfl⟩:=h;refine⟨ls ++ [d],h1.step hd hc' ht,?_⟩;rw [set_mid h1.len (by simp;omega),tail_drop]
theorem LessArr.done{xs ys cur:List Nat}{c:Nat}(h:LessArr xs ys cur xs.length c)(hx:W32 xs)(hy:W32 ys)(hle:num ys<=num xs):num cur=num xs - num ys:=by
 obtain⟨ls,h1,rfl⟩:=h;rw [List.drop_length,List.append_nil]
 exact h1.done rfl hx hy hle
theorem LessArr.early{xs ys cur:List Nat}{i:Nat}(h:LessArr xs ys cur i 0)(hi:i<=xs.length)(hy:ys.length<=i):num cur=num xs - num ys:=by
 obtain⟨ls,h1,rfl⟩:=h;obtain⟨hw,hl,-,hs⟩:=h1;rw [List.take_of_length_le hy,Nat.mul_zero,Nat.add_zero] at hs;have e:=num_take_drop xs i;rw [Nat.min_eq_left hi] at e;rw [num_append,hl]
 omega
def ShiftArr(xs cur:List Nat)(N s i c:Nat):Prop:=
 ∃ ls,W32 ls/\ls.length=i/\c<2^s/\num ls+2^(32*i)*c=num (xs.take i)*2^s/\cur=ls ++ List.replicate (N - i) 0
theorem ShiftArr.start(xs:List Nat)(N s:Nat):ShiftArr xs (List.replicate N 0) N s 0 0:=⟨[],W32.nil,rfl,Nat.two_pow_pos s,by simp [num],by simp⟩
theorem ShiftArr.len{xs cur:List Nat}{N s i c:Nat}(h:ShiftArr xs cur N s i c)(hi:i<=N):cur.length=N:=by
 obtain⟨ls,_,h1,_,_,rfl⟩:=h
 simp;omega
theorem ShiftArr.w32{xs cur:List Nat}{N s i c:Nat}(h:ShiftArr xs cur N s i c):W32 cur:=by
 obtain⟨ls,h0,h1,_,_,rfl⟩:=h
 exact h0.append (W32.replicate _)
theorem ShiftArr.carry{xs cur:List Nat}{N s i c:Nat}(h:ShiftArr xs cur N s i c):c<2^s:=by
 obtain⟨ls,h0,h1,h2,_,rfl⟩:=h
 exact h2
theorem ShiftArr.step{xs cur:List Nat}{N s i c t:Nat}(h:ShiftArr xs cur N s i c)(hi:i<N)(hx:W32 xs)(ht:t=xs[i]?.getD 0*2^s+c):
  ShiftArr xs (cur.set i (t % 4294967296)) N s (i+1) (t / 4294967296):=by
 obtain⟨ls,h0,h1,h2,h3,rfl⟩:=h;have h4:=hx.get i;refine⟨ls ++ [t % 4294967296],h0.append (W32.cons (by omega) W32.nil),by simp [h1],?_,?_,?_⟩
 ·refine Nat.div_lt_of_lt_mul ?_;rw [ht];have h5:(xs[i]?.getD 0+1)*2^s<=4294967296*2^s:=Nat.mul_le_mul_right _ h4;rw [Nat.add_mul,Nat.one_mul] at h5
  omega
 ·rw [num_snoc,h1,num_take_next,Nat.add_mul,<- h3,pow32]
  have e1:2^(32*i)*xs[i]?.getD 0*2^s+2^(32*i)*c=2^(32*i)*t:=by rw [ht,Nat.mul_add,Nat.mul_assoc]
  have e2:2^(32*i)*(t % 4294967296)+2^32*2^(32*i)*(t / 4294967296)=2^(32*i)*t:=by
   rw [Nat.mul_comm (2^32),Nat.mul_assoc,<- Nat.mul_add];congr 1;omega
  omega
 ·rw [set_mid h1 (by simp;omega),tail_replicate];congr 2
theorem ShiftArr.done{xs cur:List Nat}{n s c:Nat}(h:ShiftArr xs cur (n+1) s n c)(hx:xs.length<=n)(hs:s<=32):num (cur.set n c)=num xs*2^s/\W32 (cur.set n c):=by
 obtain⟨ls,h0,h1,h2,h3,rfl⟩:=h;have h4:2^s<=2^32:=Nat.pow_le_pow_right (by omega) hs;rw [set_mid h1 (by simp),tail_replicate]
 simp only [Nat.add_sub_cancel_left,Nat.sub_self,List.replicate_zero,List.append_nil]
 refine⟨?_,h0.append (W32.cons (by omega) W32.nil)⟩;rw [num_snoc,h1,h3,List.take_of_length_le hx]
def BackArr(xs cur:List Nat)(s i:Nat):Prop:=∃ ls,RightInv xs ls 0 s i/\cur=ls ++ xs.drop i
theorem BackArr.start(xs:List Nat)(s:Nat):BackArr xs xs s 0:=⟨[],RightInv.start _ _ _,by simp⟩
theorem BackArr.len{xs cur:List Nat}{s i:Nat}(h:BackArr xs cur s i)(hi:i<=xs.length):cur.length=xs.length:=by
 obtain⟨ls,⟨_,h1,_⟩,rfl⟩:=h
 simp;omega
theorem BackArr.w32{xs cur:List Nat}{s i:Nat}(h:BackArr xs cur s i)(hx:W32 xs):W32 cur:=by
 obtain⟨ls,⟨h1,_⟩,rfl⟩:=h
 exact h1.append (hx.drop _)
theorem BackArr.at{xs cur:List Nat}{s i k:Nat}(h:BackArr xs cur s i)(hk:i<=k):cur[k]?.getD 0=xs[k]?.getD 0:=by
 obtain⟨ls,⟨_,h1,_⟩,rfl⟩:=h;rw [List.getElem?_append_right (by omega),h1,List.getElem?_drop]
 congr 2;omega
theorem BackArr.step{xs cur:List Nat}{s i v:Nat}(h:BackArr xs cur s i)(hi:i<xs.length)(hx:W32 xs)(hs:s<32)(hv:v=xs[i]?.getD 0+4294967296*xs[i+1]?.getD 0):
  BackArr xs (cur.set i (v / 2^s % 4294967296)) s (i+1):=by
 obtain⟨ls,h1,rfl⟩:=h;refine⟨ls ++ [v / 2^s % 4294967296],h1.step hx hs (by simpa using hv),?_⟩;rw [set_mid h1.2.1 (by simp;omega),tail_drop]
theorem BackArr.done{xs cur:List Nat}{s:Nat}(h:BackArr xs cur s xs.length)(hx:W32 xs):num cur=num xs / 2^s:=by
 obtain⟨ls,h1,rfl⟩:=h;rw [List.drop_length,List.append_nil];have:=h1.done hx (by have:=wlen_le xs;omega)
 simpa using this
def NewU32E(w:World)(xs:List Nat)(e:Ending)(w':World):Prop:=
 ∃ A n c,e=.returned (.tuple #[.slice A n c,.int .i64 0])/\U32s w' A n c xs/\Below w.heap.size w w'
theorem words_q(A:Option Addr)(n c:Nat)(xs:List Nat)(w:World)(h:U32s w A n c xs)(k:Nat):
  Calls prog 203 #[.slice A n c] (w.drewN k) fun e w'=>e=.returned (.int .i64 (wlen xs))/\w'=w.drewN k:=
 (nwords_any A n c xs (w.drewN k) (h.keep (Nat.le_refl _) fun _ _ _=>rfl)).mono fun _ _ h=>⟨h.1,h.2.symm⟩
theorem nadd_any(A B:Option Addr)(n c m d:Nat)(xs ys:List Nat)(w:World)(hx:U32s w A n c xs)(hy:U32s w B m d ys)(hl1:wlen xs<=16383)(hl2:wlen ys<=16383):
  Calls prog 159 #[.slice A n c,.slice B m d] w (NewU32E w (digs (num xs+num ys))):=by
 obtain⟨w1,hw1⟩:∃ w1,w.alloc (.cells #[.slice A n c,.slice B m d] 40)=w1:=⟨_,rfl⟩
 have hb1:Below w.heap.size w w1:=by rw [<- hw1];exact below_alloc w _
 have hx1:=hx.below hb1;have hy1:=hy.below hb1;have hlong:=long_two w.heap.size A n c xs B m d ys w1 hx1 (by rw [<- hw1];simp [World.cell?_alloc_new]) (by omega) hy1 (by rw [<- hw1];simp [World.cell?_alloc_new]) (by omega);have HLG:=Hd hlong;have HQ1:=Hd (words_q A n c xs w1 hx1);have HQ2:=Hd (words_q B m d ys w1 hy1);have n1:=hx.small;have n2:=hy.small;have cc1:=hx.cap;have cc2:=hy.cap;have l1:=wlen_le xs;have l2:=wlen_le ys;rw [hx.len] at l1;rw [hy.len] at l2;have e1:=num_trim xs;have e2:=num_trim ys;rw [trim_eq_take] at e1 e2;have HX0:=hx1.take l1;have HY0:=hy1.take l2
 obtain⟨p,hp⟩:∃ p,wlen xs=p:=⟨_,rfl⟩
 obtain⟨q,hq⟩:∃ p,wlen ys=p:=⟨_,rfl⟩
 rw [hp] at HQ1 l1 hl1 e1 HX0;rw [hq] at HQ2 l2 hl2 e2 HY0
 obtain⟨us,hus⟩:∃ l,xs.take p=l:=⟨_,rfl⟩
 obtain⟨vs,hvs⟩:∃ l,ys.take q=l:=⟨_,rfl⟩
 rw [hus] at e1 HX0;rw [hvs] at e2 HY0;rw [<- e1,<- e2];have HX:=Hd HX0;have HY:=Hd HY0;have HB1:=Hd hb1;have HW1:=Hd hw1;clear hx hy hx1 hy1 hlong hb1 hp hq e1 e2 HX0 HY0 hus hvs hw1
 go_enter func159,ntmps159
 go_wp2_with fail;rw [HW1.out];refine HLG.out.mono ?_;rintro e w' ⟨rfl,rfl⟩;go_wp2_with fail
 go_quiet ((first | (go_at_call_of 203 (Value.slice A n c);exact Calls.quiet_of_same (HQ1.out _)) | (go_at_call_of 203 (Value.slice B m d);exact Calls.quiet_of_same (HQ2.out _))))
 obtain⟨w2,hw2⟩:∃ w2,w1.drewN nq=w2:=⟨_,rfl⟩
 have HB2:=Hd (show Below w.heap.size w w2 from by rw [<- hw2];exact below_drewN HB1.out nq);have HX2:=Hd (show U32s w2 A p c us from by rw [<- hw2];exact HX.out.keep (Nat.le_refl _) fun _ _ _=>rfl);have HY2:=Hd (show U32s w2 B q d vs from by rw [<- hw2];exact HY.out.keep (Nat.le_refl _) fun _ _ _=>rfl);rw [hw2];clear hw2 HQ1 HQ2 HLG HX HY HB1 HW1
 by_cases hsw:p<q
 ·have hmk:=fun W=>make_u32 (N:=(q:Int)+1) (n:=q+1) (by omega) (by omega) W;go_wp2
  go_loopw [7,8,9,35] (fun cv _ _ iv wr=>∃ (i k:Nat) (cur:List Nat),iv=.int .i64 i/\cv=.int .u32 k/\i<=q/\AddArr vs us cur (q+1) i k/\Arr wr w2.heap.size cur/\Below w2.heap.size w2 wr) (fun _ _ _ iv _=>q - (intOf iv).toNat)
  case atStart=>exact⟨0,0,_,rfl,rfl,Nat.zero_le _,AddArr.start _ _ _,Arr.zeros _ _,below_alloc _ _⟩
  case round=>
   obtain⟨i,k,cur,rfl,rfl,hi,hinv,harr,hb⟩:=hrel;have HI:=Hd hinv;have HA:=Hd harr;have hk1:=hinv.carry;clear hinv harr hmk
   by_cases hlt:i<q
   ·obtain⟨ad,e,hc⟩:=(HY2.out.below hb).cell (j:=i) hlt
    cases e
    have hx1:=HY2.out.lt i;have hf:=HA.out.frozen i;have hcc:=HA.out.cell (j:=i) (by rw [HI.out.len (by omega)];omega);rw [HI.out.zero] at hcc
    obtain⟨x,hx⟩:∃ x,vs[i]?.getD 0=x:=⟨_,rfl⟩
    rw [hx] at hc hx1;have HXX:=Hd hx;clear hx
    have i1:(i:Int)<(((q+1:Nat)):Int):=by omega
    by_cases hlq:i<p
    ·obtain⟨ad',e,hc'⟩:=(HX2.out.below hb).cell (j:=i) hlq
     cases e
     have hy1:=HX2.out.lt i
     obtain⟨y,hy⟩:∃ x,us[i]?.getD 0=x:=⟨_,rfl⟩
     rw [hy] at hc' hy1;have HYY:=Hd hy;clear hy;go_wp2
     go_roundw
     case rel=>
      refine⟨i+1,(k+x+y) / 4294967296,cur.set i ((k+x+y) % 4294967296),by go_num,by go_num,by omega,HI.out.step (by omega) HY2.out.w32 HX2.out.w32 (by rw [HXX.out,HYY.out]),?_,hb.setCell (Nat.le_refl _) _⟩;rw [show ((x:Int)+(y:Int)+(k:Int)) % 4294967296=(((k+x+y) % 4294967296:Nat):Int) from by omega]
      exact HA.out.set i ((k+x+y) % 4294967296)
     case measure=>simp [intOf];omega
    ·have HYY:=Hd (show us[i]?.getD 0=0 by rw [List.getElem?_eq_none (by rw [HX2.out.len];omega)];rfl);go_wp2
     go_roundw
     case rel=>
      refine⟨i+1,(k+x+0) / 4294967296,cur.set i ((k+x+0) % 4294967296),by go_num,by go_num,by omega,HI.out.step (by omega) HY2.out.w32 HX2.out.w32 (by rw [HXX.out,HYY.out]),?_,hb.setCell (Nat.le_refl _) _⟩;rw [show ((x:Int)+(k:Int)) % 4294967296=(((k+x+0) % 4294967296:Nat):Int) from by omega]
      exact HA.out.set i ((k+x+0) % 4294967296)
     case measure=>simp [intOf];omega
   ·obtain rfl:i=q:=by omega
    have hd:=HI.out.done (by rw [HY2.out.len];omega) (by rw [HX2.out.len];omega);have hl:=HI.out.len (by omega);have hcc:=HA.out.cell (j:=i) (by rw [hl];omega);rw [HI.out.zero] at hcc;have hf:=HA.out.frozen i;have hA:=HA.out.set i k;have hb3:=hb.setCell (p:=⟨w2.heap.size,i,none⟩) (Nat.le_refl _) (wd k);have hu:=hA.u32s' (n:=i+1) hd.2 (by simp [hl]) (by omega)
    have hb4:num vs<2^(32*i):=by have:=num_lt HY2.out.w32;rwa [HY2.out.len] at this
    have hb5:num us<2^(32*i):=by
     have:=num_lt HX2.out.w32;rw [HX2.out.len] at this
     exact Nat.lt_of_lt_of_le this (Nat.pow_le_pow_right (by omega) (by omega))
    have hwl:wlen (cur.set i k)<=16384:=Nat.le_trans (wlen_lt hd.2 (K:=i+1) (by rw [hd.1,pow32];omega)) (by omega);have HF:=Hd (fit_any _ _ _ _ _ hu hwl);have HD:=Hd hu.cutd;rw [hd.1] at HD
    obtain⟨kk,hkk⟩:∃ kk,wlen (cur.set i k)=kk:=⟨_,rfl⟩
    rw [hkk] at HF HD;have HBB:=Hd (HB2.out.trans (hb3.mono HB2.out.size))
    have i1:(i:Int)<((i+1:Nat):Int):=by omega
    clear hkk hwl hd hl hA hb3 hu hb HI HA hb4 hb5;go_wp2_with fail;refine HF.out.mono ?_;rintro e w' ⟨rfl,rfl⟩;go_wp2
    go_ret2
    exact⟨_,kk,kk,rfl,by rw [Nat.add_comm];exact HD.out,HBB.out⟩
 ·have hmk:=fun W=>make_u32 (N:=(p:Int)+1) (n:=p+1) (by omega) (by omega) W;go_wp2
  go_loopw [7,8,9,35] (fun cv _ _ iv wr=>∃ (i k:Nat) (cur:List Nat),iv=.int .i64 i/\cv=.int .u32 k/\i<=p/\AddArr us vs cur (p+1) i k/\Arr wr w2.heap.size cur/\Below w2.heap.size w2 wr) (fun _ _ _ iv _=>p - (intOf iv).toNat)
  case atStart=>exact⟨0,0,_,rfl,rfl,Nat.zero_le _,AddArr.start _ _ _,Arr.zeros _ _,below_alloc _ _⟩
  case round=>
   obtain⟨i,k,cur,rfl,rfl,hi,hinv,harr,hb⟩:=hrel;have HI:=Hd hinv;have HA:=Hd harr;have hk1:=hinv.carry;clear hinv harr hmk
   by_cases hlt:i<p
   ·obtain⟨ad,e,hc⟩:=(HX2.out.below hb).cell (j:=i) hlt
    cases e
    have hx1:=HX2.out.lt i;have hf:=HA.out.frozen i;have hcc:=HA.out.cell (j:=i) (by rw [HI.out.len (by omega)];omega);rw [HI.out.zero] at hcc
    obtain⟨x,hx⟩:∃ x,us[i]?.getD 0=x:=⟨_,rfl⟩
    rw [hx] at hc hx1;have HXX:=Hd hx;clear hx
    have i1:(i:Int)<(((p+1:Nat)):Int):=by omega
    by_cases hlq:i<q
    ·obtain⟨ad',e,hc'⟩:=(HY2.out.below hb).cell (j:=i) hlq
     cases e
     have hy1:=HY2.out.lt i
     obtain⟨y,hy⟩:∃ x,vs[i]?.getD 0=x:=⟨_,rfl⟩
     rw [hy] at hc' hy1;have HYY:=Hd hy;clear hy;go_wp2
     go_roundw
     case rel=>
      refine⟨i+1,(k+x+y) / 4294967296,cur.set i ((k+x+y) % 4294967296),by go_num,by go_num,by omega,HI.out.step (by omega) HX2.out.w32 HY2.out.w32 (by rw [HXX.out,HYY.out]),?_,hb.setCell (Nat.le_refl _) _⟩;rw [show ((x:Int)+(y:Int)+(k:Int)) % 4294967296=(((k+x+y) % 4294967296:Nat):Int) from by omega]
      exact HA.out.set i ((k+x+y) % 4294967296)
     case measure=>simp [intOf];omega
    ·have HYY:=Hd (show vs[i]?.getD 0=0 by rw [List.getElem?_eq_none (by rw [HY2.out.len];omega)];rfl);go_wp2
     go_roundw
     case rel=>
      refine⟨i+1,(k+x+0) / 4294967296,cur.set i ((k+x+0) % 4294967296),by go_num,by go_num,by omega,HI.out.step (by omega) HX2.out.w32 HY2.out.w32 (by rw [HXX.out,HYY.out]),?_,hb.setCell (Nat.le_refl _) _⟩;rw [show ((x:Int)+(k:Int)) % 4294967296=(((k+x+0) % 4294967296:Nat):Int) from by omega]
      exact HA.out.set i ((k+x+0) % 4294967296)
     case measure=>simp [intOf];omega
   ·obtain rfl:i=p:=by omega
    have hd:=HI.out.done (by rw [HX2.out.len];omega) (by rw [HY2.out.len];omega);have hl:=HI.out.len (by omega);have hcc:=HA.out.cell (j:=i) (by rw [hl];omega);rw [HI.out.zero] at hcc;have hf:=HA.out.frozen i;have hA:=HA.out.set i k;have hb3:=hb.setCell (p:=⟨w2.heap.size,i,none⟩) (Nat.le_refl _) (wd k);have hu:=hA.u32s' (n:=i+1) hd.2 (by simp [hl]) (by omega)
    have hb4:num us<2^(32*i):=by have:=num_lt HX2.out.w32;rwa [HX2.out.len] at this
    have hb5:num vs<2^(32*i):=by
     have:=num_lt HY2.out.w32;rw [HY2.out.len] at this
     exact Nat.lt_of_lt_of_le this (Nat.pow_le_pow_right (by omega) (by omega))
    have hwl:wlen (cur.set i k)<=16384:=Nat.le_trans (wlen_lt hd.2 (K:=i+1) (by rw [hd.1,pow32];omega)) (by omega);have HF:=Hd (fit_any _ _ _ _ _ hu hwl);have HD:=Hd hu.cutd;rw [hd.1] at HD
    obtain⟨kk,hkk⟩:∃ kk,wlen (cur.set i k)=kk:=⟨_,rfl⟩
    rw [hkk] at HF HD;have HBB:=Hd (HB2.out.trans (hb3.mono HB2.out.size))
    have i1:(i:Int)<((i+1:Nat):Int):=by omega
    clear hkk hwl hd hl hA hb3 hu hb HI HA hb4 hb5;go_wp2_with fail;refine HF.out.mono ?_;rintro e w' ⟨rfl,rfl⟩;go_wp2
    go_ret2
    exact⟨_,kk,kk,rfl,HD.out,HBB.out⟩
theorem top_bit{v:Nat}(h:v<4294967296):v / 2147483648=(v.testBit 31).toNat:=by
 rw [Nat.testBit_eq_decide_div_mod_eq,show (2:Nat)^31=2147483648 from rfl]
 by_cases hc:v / 2147483648 % 2=1<;>simp [hc]<;>omega
theorem test31{v:Nat}(h:v<4294967296):v.testBit 31=decide (2147483648<=v):=by
 rw [Nat.testBit_eq_decide_div_mod_eq,show (2:Nat)^31=2147483648 from rfl]
 congr 1
 apply propext
 constructor<;>intro h<;>omega
theorem borrow_nat{x y d b:Nat}(hx:x<4294967296)(hy:y<4294967296)(hb:b<=1)(hd:d=(x+8589934592 - y - b) % 4294967296):
  (((4294967295 ^^^ x) &&& y) ||| ((4294967295 ^^^ (x ^^^ y)) &&& d)) / 2147483648=if x<y+b then 1 else 0:=by
 have hd':d<4294967296:=by omega
 have h1:((4294967295 ^^^ x) &&& y)<2^32:=Nat.and_lt_two_pow _ hy;have h2:((4294967295 ^^^ (x ^^^ y)) &&& d)<2^32:=Nat.and_lt_two_pow _ hd';rw [top_bit (Nat.or_lt_two_pow h1 h2)]
 simp only [Nat.testBit_or,Nat.testBit_and,Nat.testBit_xor,test31 hx,test31 hy,test31 hd',show (4294967295:Nat).testBit 31=true from by decide]
 by_cases a1:2147483648<=x<;>by_cases a2:2147483648<=y<;>by_cases a3:2147483648<=d<;>simp [a1,a2,a3]<;>omega
theorem borrow_int{x y b:Nat}(hx:x<4294967296)(hy:y<4294967296)(hb:b<=1):
  bits .or .u32 (bits .and .u32 (bits .xor .u32 IntKind.u32.max (x:Int)) (y:Int)) (bits .and .u32 (bits .xor .u32 IntKind.u32.max (bits .xor .u32 (x:Int) (y:Int))) (((x:Int) - (y:Int) - (b:Int)) % 4294967296)) / 2147483648
   = ((if x<y+b then 1 else 0:Nat):Int):=by
 obtain⟨d,hd⟩:∃ d,d=(x+8589934592 - y - b) % 4294967296:=⟨_,rfl⟩
 have e1:((x:Int) - (y:Int) - (b:Int)) % 4294967296=(d:Int):=by omega
 have e2:IntKind.u32.max=((4294967295:Nat):Int):=rfl
 have hd':d<4294967296:=by omega
 have b1:4294967295 ^^^ x<2^32:=Nat.xor_lt_two_pow (by omega) hx;have b2:x ^^^ y<2^32:=Nat.xor_lt_two_pow hx hy;have b3:4294967295 ^^^ (x ^^^ y)<2^32:=Nat.xor_lt_two_pow (by omega) b2;have b4:(4294967295 ^^^ x) &&& y<4294967296:=Nat.and_lt_two_pow (n:=32) _ hy;have b5:(4294967295 ^^^ (x ^^^ y)) &&& d<4294967296:=Nat.and_lt_two_pow (n:=32) _ hd';rw [e1,e2,u32_xor_nat _ _ (by omega) hx,u32_and_nat _ _ b1 hy,u32_xor_nat _ _ hx hy,u32_xor_nat _ _ (by omega) b2,u32_and_nat _ _ b3 hd',u32_or_nat _ _ b4 b5,<- borrow_nat hx hy hb hd]
 rfl
theorem sub32_any(x y b:Nat)(w:World)(hx:x<4294967296)(hy:y<4294967296)(hb:b<=1):
  Calls prog 242 #[.int .u32 (x:Int),.int .u32 (y:Int),.int .u32 (b:Int)] w fun e w'=>e=.returned (.tuple #[.int .u32 (((x+8589934592 - y - b) % 4294967296:Nat):Int),.int .u32 ((if x<y+b then 1 else 0:Nat):Int)])/\w=w':=by
 have hbo:=borrow_int hx hy hb
 obtain⟨bo,hbo'⟩:∃ bo,(if x<y+b then 1 else 0)=bo:=⟨_,rfl⟩
 rw [hbo'] at hbo ⊢
 have e1:((x:Int) - (y:Int) - (b:Int)) % 4294967296=(((x+8589934592 - y - b) % 4294967296:Nat):Int):=by omega
 rw [<- e1];clear e1 hbo'
 go_enter func242,ntmps242
 go_wp2
 go_ret2
 exact⟨rfl,rfl⟩
theorem less_any(B:Option Addr)(g n m d:Nat)(rs ys:List Nat)(w:World)(hr:Arr w g rs)(hrw:W32 rs)(hy:U32s w B m d ys)(hne:∀ ad,B=some ad->0<m->ad.block≠g)(hrl:rs.length=n)(hs:n<=8589934592)(hle:num ys<=num rs):
  Calls prog 216 #[.slice (some ⟨g,0,none⟩) n n,.slice B m d] w fun e w'=>
   ∃ rs',e=.returned (.tuple #[])/\Arr w' g rs'/\W32 rs'/\rs'.length=n/\num rs'=num rs - num ys/\w.grownBy w' (some g):=by
 have HR:=Hd hr;have HY:=Hd hy;have HRW:=Hd hrw;have HLE:=Hd hle;have HRL:=Hd hrl;have hm:=hy.small;clear hr hy hrw hle hrl
 go_enter func216,ntmps216
 go_wp2
 go_loopw [4,5,6,9] (fun bv _ _ iv wr=>∃ (i k:Nat) (cur:List Nat),iv=.int .i64 i/\bv=.int .u32 k/\i<=n/\LessArr rs ys cur i k/\Arr wr g cur/\w.grownBy wr (some g)) (fun _ _ _ iv _=>n - (intOf iv).toNat)
 case atStart=>exact⟨0,0,rs,rfl,rfl,Nat.zero_le _,LessArr.start _ _,HR.out,World.grownBy.refl w _⟩
 case round=>
  obtain⟨i,k,cur,rfl,rfl,hi,hinv,harr,hgr⟩:=hrel;have HI:=Hd hinv;have HA:=Hd harr;have HG:=Hd hgr;have hk1:=hinv.carry;clear hinv harr hgr
  by_cases hlt:i<n
  ·have hf:=HA.out.frozen i;have hcc:=HA.out.cell (j:=i) (by rw [HI.out.len (by rw [HRL.out];exact hi),HRL.out];exact hlt);rw [HI.out.at] at hcc;have hx1:=HRW.out.get i
   obtain⟨x,hxx⟩:∃ r,rs[i]?.getD 0=r:=⟨_,rfl⟩
   rw [hxx] at hcc hx1;have HXX:=Hd hxx;clear hxx
   by_cases hlm:i<m
   ·have hU:U32s wr B m d ys:=HY.out.keep HG.out.size (fun ad e h0=>by
     obtain⟨ad',e',hlt',_⟩:=HY.out.at_ h0;rw [e] at e';cases e'
     exact HG.out.block _ hlt' (fun h=>hne ad e h0 (by injection h)))
    obtain⟨ad,rfl,hc⟩:=hU.cell (j:=i) hlm;have hy1:=HY.out.lt i
    obtain⟨y,hyy⟩:∃ y,ys[i]?.getD 0=y:=⟨_,rfl⟩
    rw [hyy] at hc hy1;have HYY:=Hd hyy
    have hq:decide ((m:Int)<=(i:Int))=false:=by simp;omega
    clear hyy hU
    obtain⟨D,hD⟩:∃ D,(x+8589934592 - y - k) % 4294967296=D:=⟨_,rfl⟩
    obtain⟨bo,hbo⟩:∃ D,(if x<y+k then 1 else 0)=D:=⟨_,rfl⟩
    have hS:=fun W=>sub32_any x y k W hx1 (by omega) hk1;rw [hD,hbo] at hS;have HS:=Hd hS
    have hb1:bo<=1:=by rw [<- hbo];split<;>omega
    have hD1:D<4294967296:=by omega
    have HEQ:=Hd (show D+y+k=x+4294967296*bo from by rw [<- hbo];split<;>omega);clear hD hbo hS;go_wp2_with fail;refine cy (HS.out _) ?_;go_wp2
    go_roundw
    case rel=>exact⟨i+1,bo,cur.set i D,by go_num,rfl,by omega,HI.out.step (by rw [HRL.out];exact hlt) hD1 hb1 (by rw [HXX.out,HYY.out];exact HEQ.out),HA.out.set _ _,HG.out.trans ⟨rfl,rfl,rfl,by simp,fun k _ hk=>Below.heap_setCell _ _ _ _ (fun e=>hk (by rw [e]))⟩⟩
    case measure=>simp [intOf];omega
   ·have HYY:=Hd (show ys[i]?.getD 0=0 by rw [List.getElem?_eq_none (by rw [HY.out.len];omega)];rfl)
    have hq:decide ((m:Int)<=(i:Int))=true:=by simp;omega
    rcases Nat.eq_zero_or_pos k with h0 | h0
    ·subst h0;go_wp2;refine bodyPost_ret (results_none rfl _ _ _) rfl ?_
     exact⟨cur,rfl,HA.out,HI.out.w32 HRW.out,by rw [HI.out.len (by rw [HRL.out];exact hi),HRL.out],HI.out.early (by rw [HRL.out];exact hi) (by rw [HY.out.len];omega),HG.out⟩
    ·have hk0:((k:Int) == 0)=false:=by simp;omega
     obtain⟨D,hD⟩:∃ D,(x+8589934592 - 0 - k) % 4294967296=D:=⟨_,rfl⟩
     obtain⟨bo,hbo⟩:∃ D,(if x<0+k then 1 else 0)=D:=⟨_,rfl⟩
     have hS:=fun W=>sub32_any x 0 k W hx1 (by omega) hk1;rw [hD,hbo] at hS;have HS:=Hd hS
     have hb1:bo<=1:=by rw [<- hbo];split<;>omega
     have hD1:D<4294967296:=by omega
     have HEQ:=Hd (show D+0+k=x+4294967296*bo from by rw [<- hbo];split<;>omega);clear hD hbo hS;go_wp2_with fail;refine cy (HS.out _) ?_;go_wp2
     go_roundw
     case rel=>exact⟨i+1,bo,cur.set i D,by go_num,rfl,by omega,HI.out.step (by rw [HRL.out];exact hlt) hD1 hb1 (by rw [HXX.out,HYY.out];exact HEQ.out),HA.out.set _ _,HG.out.trans ⟨rfl,rfl,rfl,by simp,fun k _ hk=>Below.heap_setCell _ _ _ _ (fun e=>hk (by rw [e]))⟩⟩
     case measure=>simp [intOf];omega
  ·obtain rfl:i=n:=by omega
   go_wp2
   go_end0
   have hi1:=HI.out;have hl:=HRL.out;refine⟨cur,rfl,HA.out,hi1.w32 HRW.out,by rw [hi1.len (by rw [hl];exact Nat.le_refl _),hl],?_,HG.out⟩;subst hl
   exact hi1.done HRW.out HY.out.w32 HLE.out
theorem below_grown{B g:Nat}{w0 w w':World}(hb:Below B w0 w)(hg:w.grownBy w' (some g))(hB:B<=g)(hBw:B<=w.heap.size):Below B w0 w':=
 hb.grown hg hBw (fun k hk=>by cases hk;exact hB)
theorem nsub_any(A B:Option Addr)(n c m d:Nat)(xs ys:List Nat)(w:World)(hx:U32s w A n c xs)(hy:U32s w B m d ys)(hl1:wlen xs<=16384)(hl2:wlen ys<=16384)(hle:num ys<=num xs):
  Calls prog 160 #[.slice A n c,.slice B m d] w (NewU32E w (digs (num xs - num ys))):=by
 have HC:=Hd (ncmp_any A B n c m d xs ys w hx hy)
 have hc3:¬ cmp3 (num xs) (num ys)<0:=fun h=>by have:=cmp3_neg.1 h;omega
 obtain⟨r,hr⟩:∃ r,cmp3 (num xs) (num ys)=r:=⟨_,rfl⟩
 rw [hr] at HC hc3;have hlong:=fun (W:World) (hb:Below w.heap.size w W)=>long_two W.heap.size A n c xs B m d ys (W.alloc (.cells #[.slice A n c,.slice B m d] 40)) ((hx.below hb).alloc _) (by simp [World.cell?_alloc_new]) hl1 ((hy.below hb).alloc _) (by simp [World.cell?_alloc_new]) hl2;have HLG:=Hd hlong;have HN:=Hd fun (W:World) (hb:Below w.heap.size w W)=>nnorm_any A n c xs W (hx.below hb);have HQ:=Hd fun (W:World) (hb:Below w.heap.size w W)=>nwords_any B m d ys W (hy.below hb);have n1:=hx.small;have n2:=hy.small;have cc2:=hy.cap;have l2:=wlen_le ys;rw [hy.len] at l2;have e2:=num_trim ys;rw [trim_eq_take] at e2;have HY0:=hy.take l2
 have hlx:(digs (num xs)).length<=16384:=by rw [<- trim_eq_digs hx.w32];exact hl1
 obtain⟨q,hq⟩:∃ p,wlen ys=p:=⟨_,rfl⟩
 rw [hq] at HQ l2 hl2 e2 HY0
 obtain⟨vs,hvs⟩:∃ l,ys.take q=l:=⟨_,rfl⟩
 rw [hvs] at e2 HY0;rw [<- e2] at hle ⊢
 obtain⟨N,hN⟩:∃ N,num xs=N:=⟨_,rfl⟩
 rw [hN] at hle HN hlx ⊢;have HLE:=Hd hle;have HY:=Hd HY0;have HLX:=Hd hlx;clear hx hy hlong hq e2 HY0 hvs hr hl1 hN hle hlx
 go_enter func160,ntmps160
 go_wp2_with fail;refine HC.out.mono ?_;rintro e w1 ⟨rfl,z,hz⟩;have HB1:=Hd (show Below w.heap.size w w1 from by rw [hz];exact below_drewN (Below.refl _ _) z);clear hz HC;go_wp2_with fail;refine cy (HLG.out _ HB1.out) ?_;have HB2:=Hd (HB1.out.alloc HB1.out.size (.cells #[.slice A n c,.slice B m d] 40));clear HLG HB1
 obtain⟨w2,hw2⟩:∃ W,w1.alloc (.cells #[.slice A n c,.slice B m d] 40)=W:=⟨_,rfl⟩
 rw [hw2] at HB2 ⊢;clear hw2;go_wp2_with fail;refine (HN.out _ HB2.out).mono ?_;rintro e w3 ⟨g,k,rfl,hk,hA,hg,hb⟩;have HA:=Hd hA;have HK:=Hd hk;have hg2:w.heap.size<=g:=Nat.le_trans HB2.out.size hg;have HB3:=Hd (HB2.out.trans (hb.mono HB2.out.size));clear hA hb HB2 HN hg hk;go_wp2_with fail;refine cy (HQ.out _ HB3.out) ?_
 have hlss:=less_any B g k q d (digs N) vs w3 HA.out (W32.digs N) (HY.out.below HB3.out) (fun ad e h0=>by
  obtain⟨ad',e',hlt,_⟩:=HY.out.at_ h0
  rw [e] at e';cases e';omega) HK.out (by rw [<- HK.out];have:=HLX.out;omega) (by rw [num_digs];exact HLE.out)
 rw [num_digs] at hlss;have HL:=Hd hlss;clear hlss;go_wp2_with fail;refine HL.out.mono ?_;rintro e w4 ⟨rs,rfl,hA4,hw4,hl4,hn4,hg4⟩;have hu:=hA4.u32s' hw4 hl4 (by rw [<- HK.out];have:=HLX.out;omega)
 have hwl:wlen rs<=16384:=by
  have h1:=wlen_le rs;rw [hl4,<- HK.out] at h1
  exact Nat.le_trans h1 HLX.out
 have HF:=Hd (fit_any _ _ _ _ _ hu hwl);have HD:=Hd hu.cutd;rw [hn4] at HD;have HB4:=Hd (below_grown HB3.out hg4 hg2 HB3.out.size)
 obtain⟨kk,hkk⟩:∃ kk,wlen rs=kk:=⟨_,rfl⟩
 rw [hkk] at HF HD;clear hkk hwl hu hA4 hw4 hl4 hn4 hg4 HL HA;go_wp2_with fail;refine HF.out.mono ?_;rintro e w' ⟨rfl,rfl⟩;go_wp2
 go_ret2
 exact⟨_,kk,kk,rfl,HD.out,HB4.out⟩
theorem shift_any(A:Option Addr)(n c s:Nat)(xs:List Nat)(w:World)(hx:U32s w A n c xs)(hs:s<32)(hn:n<=1073741824):
  Calls prog 258 #[.slice A n c,.int .i64 (s:Int)] w fun e w'=>∃ zs,NewArr w zs e w'/\W32 zs/\zs.length=n+1/\num zs=num xs*2^s:=by
 have HX:=Hd hx;clear hx;have hmk:=fun W=>make_u32 (N:=(n:Int)+1) (n:=n+1) (by omega) (by omega) W;have hp:2^s<=2147483648:=Nat.pow_le_pow_right (n:=2) (by omega) (show s<=31 by omega);have hp0:=Nat.two_pow_pos s
 go_enter func258,ntmps258
 go_wp2
 go_loopw [6,7,8,15] (fun cv _ _ iv wr=>∃ (i k:Nat) (cur:List Nat),iv=.int .i64 i/\cv=.int .u64 k/\i<=n/\ShiftArr xs cur (n+1) s i k/\Arr wr w.heap.size cur/\Below w.heap.size w wr) (fun _ _ _ iv _=>n - (intOf iv).toNat)
 case atStart=>exact⟨0,0,_,rfl,rfl,Nat.zero_le _,ShiftArr.start _ _ _,Arr.zeros _ _,below_alloc _ _⟩
 case round=>
  obtain⟨i,k,cur,rfl,rfl,hi,hinv,harr,hb⟩:=hrel;have HI:=Hd hinv;have HA:=Hd harr;have hk1:=hinv.carry;clear hinv harr hmk
  by_cases hlt:i<n
  ·obtain⟨ad,e,hc⟩:=(HX.out.below hb).cell (j:=i) hlt
   cases e
   have hx1:=HX.out.lt i;have hf:=HA.out.frozen i;have hcc:=HA.out.cell (j:=i) (by rw [HI.out.len (by omega)];omega)
   obtain⟨x,hx⟩:∃ x,xs[i]?.getD 0=x:=⟨_,rfl⟩
   rw [hx] at hc hx1;have HXX:=Hd hx;clear hx
   have i1:(i:Int)<((n+1:Nat):Int):=by omega
   have hz1:x*2^s<=4294967295*2147483648:=Nat.mul_le_mul (by omega) hp
   have hsh:(x:Int)*(2:Int)^s=((x*2^s:Nat):Int):=by rw [Int.natCast_mul,Int.natCast_pow];rfl
   have hor:=or_join' (i:=s) (x:=x) (y:=k) (by omega) hk1 (by omega)
   obtain⟨z,hz⟩:∃ z,x*2^s=z:=⟨_,rfl⟩
   rw [hz] at hor hsh hz1;have HZ:=Hd hz;clear hz;go_wp2
   go_roundw
   case rel=>
    refine⟨i+1,(z+k) / 4294967296,cur.set i ((z+k) % 4294967296),by go_num,by go_num,by omega,HI.out.step (by omega) HX.out.w32 (by rw [HXX.out,HZ.out]),?_,hb.setCell (Nat.le_refl _) _⟩;rw [show ((k:Int)+(z:Int)) % 4294967296=(((z+k) % 4294967296:Nat):Int) from by omega]
    exact HA.out.set i ((z+k) % 4294967296)
   case measure=>simp [intOf];omega
  ·obtain rfl:i=n:=by omega
   have hd:=HI.out.done (by rw [HX.out.len];omega) (by omega);have hl:=HI.out.len (by omega);have hcc:=HA.out.cell (j:=i) (by rw [hl];omega);have hf:=HA.out.frozen i;have HAA:=Hd (HA.out.set i k);have HBB:=Hd (hb.setCell (p:=⟨w.heap.size,i,none⟩) (Nat.le_refl _) (wd k));have HL:=Hd (show (cur.set i k).length=i+1 by simp [hl]);have HD:=Hd hd
   have i1:(i:Int)<((i+1:Nat):Int):=by omega
   have hk4:(k:Int) % 4294967296=(k:Int):=by omega
   clear hd hl hb HI HA;go_wp2
   go_ret
   exact⟨cur.set i k,⟨_,i+1,rfl,HL.out,HAA.out,Nat.le_refl _,HBB.out⟩,HD.out.2,HL.out,HD.out.1⟩
theorem getElem_map_wd{zs:List Nat}{j:Nat}{u:Value}(h:(zs.map wd)[j]?=some u):j<zs.length/\u=wd (zs[j]?.getD 0):=by
 rw [List.getElem?_map] at h
 by_cases hj:j<zs.length
 ·rw [List.getElem?_eq_getElem hj] at h ⊢
  simp at h
  exact⟨hj,by simp [h]⟩
 ·rw [List.getElem?_eq_none (by omega)] at h;simp at h
theorem make_cap{N K:Int}{n k:Nat}(hN:N=n)(hK:K=k)(hnk:n<=k)(h:k<=34359738368)(w:World):
  (Instr.makeSlice 40 (.int .i64 N) (.int .i64 K)).run prog w=.ok (.slice (some ⟨w.heap.size,0,none⟩) n k) (w.alloc (.cells (Array.replicate k (wd 0)) 117)):=by
 obtain⟨i0,hi,hz0,hz1,hz2⟩:=info_parts info_u32;subst hN hK;have hr:=run_make (P:=prog) w 40 117 i0 (.int .u32 0) Tryz.underlying40 hi hz0 .i64 .i64 (n:Int) (k:Int) (by omega) (by omega) (by rw [hz2];omega) (by omega)
 simp only [Int.toNat_natCast] at hr
 have e:madeCells (Value.int .u32 0).cells k=Array.replicate k (wd 0):=by
  have:=toList_madeCells_one (.int .u32 0) k;rw [show (Value.int .u32 0).cells=#[.int .u32 0] from rfl];rw [<- Array.toArray_toList (xs:=madeCells #[Value.int .u32 0] k),this]
  simp
 rw [hr,hz1,Nat.mul_one,e]
theorem ownsRow_make(w:World)(n k:Nat)(hnk:n<=k)(hk:k<=34359738368):
  (w.alloc (.cells (Array.replicate k (wd 0)) 117)).ownsRow w.heap.size 117 1 (.slice (some ⟨w.heap.size,0,none⟩) n k) n ((List.replicate n 0).map wd):=by
 refine⟨by simp,.inr ⟨w.heap.size,k,Array.replicate k (wd 0),rfl,Nat.le_refl _,?_,hnk,by unfold maxLen;omega,by simp,by simp [Nat.min_eq_left hnk]⟩⟩;have:=Arr.zeros w k;unfold Arr at this
 simpa using this
theorem up_any(A:Option Addr)(n c k:Nat)(xs:List Nat)(w:World)(hx:U32s w A n c xs)(hn:n<=1073741824)(hk:k<=1073741824):
  Calls prog 233 #[.slice A n c,.int .i64 (k:Int)] w (NewU32 w (digs (num xs*2^k))):=by
 obtain⟨q,hq⟩:∃ q,k / 32=q:=⟨_,rfl⟩
 obtain⟨s,hs⟩:∃ s,k % 32=s:=⟨_,rfl⟩
 have e1:(k:Int) / 32=(q:Int):=by omega
 have e2:(k:Int) % 32=(s:Int):=by omega
 have ek:k=32*q+s:=by omega
 have hq1:q<=1073741824:=by omega
 have hs1:s<32:=by omega
 have hmk:=fun W=>make_cap (N:=(q:Int)) (K:=(q:Int)+(n:Int)+1) (n:=q) (k:=q+n+1) rfl (by omega) (by omega) (by omega) W;have HS:=Hd fun (W:World) (hb:Below w.heap.size w W)=>shift_any A n c s xs W (hx.below hb) hs1 hn;have EK:=Hd ek;clear hx hq hs ek
 obtain⟨w1,hw1⟩:∃ w1,w.alloc (.cells (Array.replicate (q+n+1) (wd 0)) 117)=w1:=⟨_,rfl⟩
 have HB1:=Hd (show Below w.heap.size w w1 from by rw [<- hw1];exact below_alloc w _);have HO1:=Hd (show w1.ownsRow w.heap.size 117 1 (.slice (some ⟨w.heap.size,0,none⟩) q (q+n+1)) q ((List.replicate q 0).map wd) from by rw [<- hw1];exact ownsRow_make w q _ (by omega) (by omega));have HW1:=Hd hw1;clear hw1
 go_enter func233,ntmps233
 go_wp2_with fail;rw [HW1.out];refine (HS.out _ HB1.out).mono ?_;rintro e w2 ⟨zs,⟨g,nn,rfl,hl,hA,hg,hb⟩,hz,hl2,hv⟩
 obtain rfl:nn=n+1:=by omega
 have HO2:=Hd (HO1.out.kept (row:=some g) (w':=w2) ⟨hb.os,hb.tape,hb.output,hb.size,fun j hj _=>hb.block j hj⟩ (.inr (fun e=>by
  have h1:w.heap.size<w1.heap.size:=(HO1.out.lt w.heap.size rfl).2
  simp [Value.ownBlock] at e;omega)))
 obtain⟨i0,hi0,hz0,hz1,hz2⟩:=info_parts info_u32;have HA:=Hd hA;have HB2:=Hd (HB1.out.trans (hb.mono HB1.out.size));have HZ:=Hd hz;have HV:=Hd hv;have HL:=Hd hl2;have hgw:w.heap.size<=g:=Nat.le_trans HB1.out.size hg
 have HNE:=Hd (show w.heap.size≠g from fun e=>by
  have h1:=(HO1.out.lt _ rfl).2;have h2:w.heap.size<w1.heap.size:=h1
  omega)
 clear hb hA hz hv hl2 hl HB1 HO1 HS hg
 go_wp2_with (at_builtin;(refine wpList_append_own_spare _ rfl (.tmp 15) (.tmp 19) 40 rfl w.heap.size 117 i0 1 Tryz.underlying40 hi0 hz1 w.heap.size q (q+n+1) _ rfl HO2.out ⟨g,0,none⟩ (n+1) (n+1) (zs.map wd) rfl ?c1 ?c2 ?c3 ?c4 ?_))
 case c1=>simp [HL.out]
 case c2=>
  intro j u hu;obtain⟨hj,rfl⟩:=getElem_map_wd hu;rw [show (⟨g,0,none⟩:Addr).add j=⟨g,j,none⟩ from by unfold Addr.add;split<;>simp_all]
  exact HA.out.cell hj
 case c3=>intro u hu;simp at hu;obtain⟨_,_,rfl⟩:=hu;rfl
 case c4=>omega
 intro w3 hown3 hgrow3;rw [show List.replicate q (wd 0) ++ zs.map wd=(List.replicate q 0 ++ zs).map wd from by simp] at hown3;have hw3:W32 (List.replicate q 0 ++ zs):=(W32.replicate q).append HZ.out;have hu:=U32s.own hown3 hw3 (by omega)
 have hval:num (List.replicate q 0 ++ zs)=num xs*2^k:=by
  rw [num_append,num_replicate,List.length_replicate,HV.out,EK.out,Nat.pow_add,Nat.zero_add]
  ac_rfl
 have HC:=Hd (cut_any _ _ _ _ _ hu);have HD:=Hd hu.cutd;rw [hval] at HD;have HB3:=Hd (below_grown HB2.out hgrow3 (Nat.le_refl _) HB2.out.size)
 obtain⟨kk,hkk⟩:∃ kk,wlen (List.replicate q 0 ++ zs)=kk:=⟨_,rfl⟩
 rw [hkk] at HC HD;clear hkk hval hu hw3 hown3 hgrow3;go_wp2_with fail;refine HC.out.mono ?_;rintro e w' ⟨rfl,rfl⟩;go_wp2
 go_ret
 exact⟨_,kk,kk,rfl,HD.out,HB3.out⟩
theorem nshl_any(A:Option Addr)(n c k:Nat)(xs:List Nat)(w:World)(hx:U32s w A n c xs)(hl:wlen xs<=16384)(hk:blen (num xs)+k<=524288):
  Calls prog 202 #[.slice A n c,.int .i64 (k:Int)] w (NewU32E w (digs (num xs*2^k))):=by
 have HW:=Hd (nwords_any A n c xs w hx);have n1:=hx.small;have c1:=hx.cap;have l1:=wlen_le xs;rw [hx.len] at l1;have e1:=num_trim xs;rw [trim_eq_take] at e1;have h0:=wlen_eq_zero (l:=xs);have HX0:=hx.take l1
 obtain⟨p,hp⟩:∃ p,wlen xs=p:=⟨_,rfl⟩
 rw [hp] at HW l1 hl e1 HX0 h0
 obtain⟨us,hus⟩:∃ l,xs.take p=l:=⟨_,rfl⟩
 rw [hus] at e1 HX0;rw [<- e1] at hk h0 ⊢
 have hlp:wlen us<=16384:=by
  have h2:=wlen_le us;rw [HX0.len] at h2;omega
 have HLG:=Hd fun (W:World) (hb:Below w.heap.size w W)=>long_one W.heap.size A p c us (W.alloc (.cells #[.slice A p c] 40)) ((HX0.below hb).alloc _) (by simp [World.cell?_alloc_new]) hlp;have HL:=Hd fun (W:World) (hb:Below w.heap.size w W)=>nlen_any A p c us W (HX0.below hb);have HU:=Hd fun (W:World) (hb:Below w.heap.size w W)=>up_any A p c k us W (HX0.below hb) (by omega) (by omega);have HB0:=Hd (Below.refl w.heap.size w)
 obtain⟨b,hb⟩:∃ b,blen (num us)=b:=⟨_,rfl⟩
 rw [hb] at HL hk;clear hx hp hus e1 HX0 hlp hb
 rcases Nat.eq_zero_or_pos p with hp0 | hp0
 ·subst hp0
  have hz:num us*2^k=0:=by rw [h0.1 rfl,Nat.zero_mul]
  rw [hz,digs_zero];clear hz h0 HU HL
  go_enter func202,ntmps202
  go_wp2_with fail;refine HW.out.mono ?_;rintro e w' ⟨rfl,rfl⟩;go_wp2_with fail;refine cy (HLG.out _ HB0.out) ?_;go_wp2
  go_ret2
  exact⟨none,0,0,rfl,U32s.nil _ _ _,below_alloc _ _⟩
 ·have hq:((p:Int) == 0)=false:=by simp;omega
  have hk2:¬ (k:Int) > 524288 - (b:Int):=by omega
  clear h0
  go_enter func202,ntmps202
  go_wp2_with fail;refine HW.out.mono ?_;rintro e w' ⟨rfl,rfl⟩;go_wp2_with fail;refine cy (HLG.out _ HB0.out) ?_;have HB1:=Hd (HB0.out.alloc HB0.out.size (.cells #[.slice A p c] 40));clear HLG HB0;go_wp2_with fail;refine cy (HL.out _ HB1.out) ?_;go_wp2_with fail;refine (HU.out _ HB1.out).mono ?_;rintro e w2 ⟨A2,n2,c2,rfl,hu,hb⟩;have HUU:=Hd hu;have HBB:=Hd (HB1.out.trans (hb.mono HB1.out.size));clear hu hb HU HL HB1;go_wp2
  go_ret2
  exact⟨_,n2,c2,rfl,HUU.out,HBB.out⟩
section
attribute [local go_sem] run_store_float run_negf
def NewExP(w:World)(neg:Bool)(S:Nat)(E:Int)(e:Ending)(w':World):Prop:=
 ∃ (A:Option Addr) (n c:Nat),e=.returned (.agg #[.int .i64 0,.bool neg,.slice A n c,.int .i64 E])/\U32s w' A n c (digs S)/\Below w.heap.size w w'
theorem point_walk(b S:Nat)(x:Int)(neg:Bool)(w:World)(hb:L64 b)(hf:rungOf b<M)(hS:S<9007199254740992)(hs:∀ w,Calls prog 168 #[.float .f64 b] w (SplitTo w neg S x)):
  Calls prog 100 #[.float .f64 b] w (NewExP w neg S x):=by
 have HI0:=fun W=>isinff b W hb (Nat.le_of_lt hf);rw [decide_eq_false (show ¬ rungOf b=M by omega)] at HI0;have HI:=Hd HI0;have HS:=Hd hs;have HN:=Hd fun W=>nsmall_any S W (by omega);clear HI0 hs hb hf hS;obtain⟨LB0,LR⟩:=bx1 w #[.int .i64 0,.bool false,.slice none 0 0,.int .i64 0] 97;have LR0:=Hd (HasBlk.of (n:=4) LR.out rfl rfl);clear LR
 go_enter func100,ntmps100
 go_wp2_with fail;refine cy (HI.out _) ?_;go_wp2_with fail;refine cx (HS.out _) fun w1 hb1=>?_;have LB1:=stB LB0 hb1 LB0.out.size;have LR1:=stR LR0 hb1;clear LB0 LR0;clear hb1 HI HS;go_wp2_with fail;refine (HN.out _).mono ?_;rintro e w2 ⟨A,n,c,rfl,hu,hb2⟩;have LB2:=stB LB1 hb2 LB1.out.size;have LR2:=stR LR1 hb2;clear LB1 LR1;have FU:=Hd (LR2.out.u32s hu [.int .i64 0,.bool neg,.slice A n c,.int .i64 x]);clear hu hb2 HN;obtain⟨ha0,hf0,ha1,hf1,ha2,hf2,ha3,hf3⟩:=LR2.out.sf4;obtain⟨hk0,hk1,hk2,hk3⟩:=LR2.out.sc4 (.int .i64 0) (.bool neg) (.slice A n c) (.int .i64 x);have F:=Hd (below_sets (w0:=w) (r:=w.heap.size) (by omega) [.int .i64 0,.bool neg,.slice A n c,.int .i64 x] 0 _ LB2.out)
 simp [sets] at hk0 hk1 hk2 hk3
 go_wp2;refine bodyPost_ret (v:=.agg #[.int .i64 0,.bool neg,.slice A n c,.int .i64 x]) (by simp [results,results100,go_sem,hk0,hk1,hk2,hk3]) rfl ?_
 exact⟨A,n,c,rfl,FU.out,F.out⟩
theorem point_any(b:Nat)(hb:L64 b)(hf:fin b):∃ (neg:Bool) (S:Nat) (x:Int),S<9007199254740992/\-1074<=x/\x<=971/\fl (idx b)=rv neg S 1*2^x/\∀ w,Calls prog 100 #[.float .f64 b] w (NewExP w neg S x):=by
 obtain⟨S,x,h1,h2,h3,h4,h5⟩:=split_any b hb hf
 exact⟨_,S,x,h1,h2,h3,h4,fun w=>point_walk b S x _ w hb hf h1 h5⟩
end
section
attribute [local go_sem] run_store_float run_negf
theorem isinf1(b:Nat)(w:World)(hr:rungOf b<=M):Calls prog 161 #[.float .f64 b,.int .i64 1] w fun e w'=>e=.returned (.bool (decide (idx b=M)))/\w=w':=by
 have hM:M=9218868437227405312:=rfl;have hb:=idx_bounds hr
 by_cases h:idx b=M
 ·have ho:=ord_gt (a:=b) (b:=9218868437227405311) hr real_top (by rw [idx_top];omega);rw [decide_eq_true h];clear h hr hM hb
  go_enter func161,ntmps161
  go_wp2
  go_ret
  exact⟨rfl,rfl⟩
 ·have ho:FloatKind.f64.format.order b 9218868437227405311=some .lt\/FloatKind.f64.format.order b 9218868437227405311=some .eq:=by
   by_cases h2:idx b=M - 1
   ·exact .inr (ord_eq hr real_top (by rw [idx_top];omega))
   ·exact .inl (ord_lt hr real_top (by rw [idx_top];omega))
  rw [decide_eq_false h];clear h hr hM hb
  rcases ho with ho | ho
  all_goals
   go_enter func161,ntmps161
   go_wp2
   go_ret
   exact⟨rfl,rfl⟩
end
theorem kn_start{P lu lv u0 v0 v1 top U V:Nat}(hU:U=lu+P*(u0+4294967296*top))(hV:V=lv+P*(v0+4294967296*v1))(hlu:lu<P)(hu0:u0<4294967296)(hv1:0<v1):U<(top / v1+1)*V:=by
 obtain⟨t,ht⟩:∃ t,top / v1=t:=⟨_,rfl⟩
 have h1:top+1<=(t+1)*v1:=by
  have:=Nat.lt_div_mul_add (a:=top) hv1;rw [ht] at this;rw [Nat.add_mul];omega
 rw [ht];have h2:(t+1)*(P*(4294967296*v1))<=(t+1)*V:=Nat.mul_le_mul_left _ (by rw [hV,Nat.mul_add];omega);have h3:P*(4294967296*(top+1))<=P*(4294967296*((t+1)*v1)):=Nat.mul_le_mul_left _ (Nat.mul_le_mul_left _ h1)
 have h4:P*(4294967296*((t+1)*v1))=(t+1)*(P*(4294967296*v1)):=by ac_rfl
 have h5:P*(u0+4294967296*top+1)<=P*(4294967296*(top+1)):=Nat.mul_le_mul_left _ (by omega);rw [Nat.mul_add P,Nat.mul_one] at h5
 omega
theorem kn_big{x U V:Nat}(h:U<V*4294967296)(hx:4294967296<=x):U<(x - 1+1)*V:=by
 have:4294967296*V<=x*V:=Nat.mul_le_mul_right _ hx;rw [Nat.mul_comm] at h;rw [Nat.sub_add_cancel (by omega)];omega
theorem kn_step{P lu lv u0 v0 v1 top U V x r:Nat}(hU:U=lu+P*(u0+4294967296*top))(hV:V=lv+P*(v0+4294967296*v1))(hlu:lu<P)
  (ht:x*v1+r=top)(h:r*4294967296+u0<x*v0):0<x/\U<(x - 1+1)*V:=by
 have h0:0<x:=by
  rcases Nat.eq_zero_or_pos x with h0 | h0
  ·subst h0;omega
  ·exact h0
 refine⟨h0,?_⟩;rw [Nat.sub_add_cancel h0];have h1:x*(P*(v0+4294967296*v1))<=x*V:=Nat.mul_le_mul_left _ (by omega)
 have h2:x*(P*(v0+4294967296*v1))=P*(x*v0+4294967296*(x*v1)):=by
  rw [Nat.mul_left_comm,Nat.mul_add x,Nat.mul_left_comm x]
 have h3:P*(u0+4294967296*top+1)<=P*(x*v0+4294967296*(x*v1)):=Nat.mul_le_mul_left _ (by omega);rw [Nat.mul_add P,Nat.mul_one] at h3
 omega
theorem kn_end{P lu lv u0 v0 v1 top U V x r:Nat}(hU:U=lu+P*(u0+4294967296*top))(hV:V=lv+P*(v0+4294967296*v1))(hlv:lv<P)(hv0:v0<4294967296)(hv1:0<v1)
  (hlt:U<V*4294967296)(ht:x*v1+r=top)(h:4294967296<=r\/(x<4294967296/\x*v0<=r*4294967296+u0)):x<4294967296/\x*V<=U+V:=by
 have hx:x<4294967296:=by
  rcases h with h | h
  ·have h1:P*(4294967296*top)<P*(4294967296*(4294967296*(v1+1))):=by
    have h2:V<P*(4294967296*(v1+1)):=by
     have:P*(v0+4294967296*v1+1)<=P*(4294967296*(v1+1)):=Nat.mul_le_mul_left _ (by omega);rw [Nat.mul_add P,Nat.mul_one] at this;omega
    have h3:P*(4294967296*top)<=U:=by rw [hU,Nat.mul_add];omega
    have h4:V*4294967296<P*(4294967296*(v1+1))*4294967296:=(Nat.mul_lt_mul_right (by omega)).2 h2
    have h5:P*(4294967296*(v1+1))*4294967296=P*(4294967296*(4294967296*(v1+1))):=by ac_rfl
    omega
   have h6:=Nat.lt_of_mul_lt_mul_left h1
   have h7:x*v1<4294967296*v1:=by omega
   exact Nat.lt_of_mul_lt_mul_right h7
  ·exact h.1
 refine⟨hx,?_⟩
 have hw:x*v0<=r*4294967296+u0:=by
  rcases h with h | h
  ·have:x*v0<=4294967296*4294967296:=Nat.mul_le_mul (by omega) (by omega)
   omega
  ·exact h.2
 have h1:x*V=x*lv+P*(x*v0+4294967296*(x*v1)):=by
  rw [hV,Nat.mul_add x,Nat.mul_left_comm x P,Nat.mul_add x,Nat.mul_left_comm x 4294967296]
 have h2:P*(x*v0+4294967296*(x*v1))<=P*(u0+4294967296*top):=Nat.mul_le_mul_left _ (by omega);have h3:x*lv<=x*P:=Nat.mul_le_mul_left _ (by omega)
 have h4:x*P<=P*(4294967296*v1):=by
  rw [Nat.mul_comm];refine Nat.mul_le_mul_left _ ?_
  omega
 have h5:P*(4294967296*v1)<=V:=by rw [hV,Nat.mul_add];omega
 omega
theorem num_top2{l:List Nat}{k:Nat}(h:l.length=k+2):num l=num (l.take k)+2^(32*k)*(l[k]?.getD 0+4294967296*l[k+1]?.getD 0):=by
 have e:num l=num (l.take k)+2^(32*k)*l[k]?.getD 0+2^(32*(k+1))*l[k+1]?.getD 0:=by
  rw [<- num_take_next,<- num_take_next,List.take_of_length_le (by omega)]
 rw [e,pow32,Nat.mul_add,show (2:Nat)^32=4294967296 from rfl];rw [Nat.mul_comm 4294967296 (2^(32*k)),Nat.mul_assoc];omega
theorem num_top3{l:List Nat}{k:Nat}(h:l.length=k+3):num l=num (l.take k)+2^(32*k)*(l[k]?.getD 0+4294967296*(l[k+1]?.getD 0+4294967296*l[k+2]?.getD 0)):=by
 have e:num l=num (l.take k)+2^(32*k)*l[k]?.getD 0+2^(32*(k+1))*(l[k+1]?.getD 0+4294967296*l[k+2]?.getD 0):=by
  rw [num_top2 (k:=k+1) h,num_take_next]
 rw [e,pow32,Nat.mul_add (2^(32*k)),show (2:Nat)^32=4294967296 from rfl];rw [Nat.mul_comm 4294967296 (2^(32*k)),Nat.mul_assoc];omega
theorem num_take_lt{l:List Nat}(h:W32 l){k:Nat}(hk:k<=l.length):num (l.take k)<2^(32*k):=by
 have:=num_lt (h.take k)
 rwa [List.length_take,Nat.min_eq_left hk] at this
theorem SubInv.last{rs ys cur:List Nat}{x c b n:Nat}(h:SubInv rs ys cur x n c b)(hn:rs.length=n)(hr:W32 rs)(hm:ys.length<=n)(h0:c=0):
  num cur+x*num ys=num rs+2^(32*n)*b:=by
 obtain⟨hw,hl,_,hc,hb,hs⟩:=h;rw [List.take_of_length_le (by omega),List.take_of_length_le (by omega),List.take_of_length_le (by omega),h0] at hs
 exact hs
def GiveInv(rs ys cur:List Nat)(i c:Nat):Prop:=∃ ls,PlusInv rs ys ls i c/\cur=ls ++ rs.drop i
theorem GiveInv.start(rs ys:List Nat):GiveInv rs ys rs 0 0:=⟨[],PlusInv.start _ _,by simp⟩
theorem GiveInv.len{rs ys cur:List Nat}{i c:Nat}(h:GiveInv rs ys cur i c)(hi:i<=rs.length):cur.length=rs.length:=by
 obtain⟨ls,h1,rfl⟩:=h;have:=h1.len
 simp;omega
theorem GiveInv.w32{rs ys cur:List Nat}{i c:Nat}(h:GiveInv rs ys cur i c)(hr:W32 rs):W32 cur:=by
 obtain⟨ls,h1,rfl⟩:=h
 exact h1.1.append (hr.drop _)
theorem GiveInv.carry{rs ys cur:List Nat}{i c:Nat}(h:GiveInv rs ys cur i c):c<=1:=by
 obtain⟨ls,h1,rfl⟩:=h
 exact h1.carry
theorem GiveInv.at{rs ys cur:List Nat}{i c:Nat}(h:GiveInv rs ys cur i c):cur[i]?.getD 0=rs[i]?.getD 0:=by
 obtain⟨ls,h1,rfl⟩:=h;rw [List.getElem?_append_right (by rw [h1.len];omega),h1.len,List.getElem?_drop,Nat.sub_self,Nat.add_zero]
theorem GiveInv.step{rs ys cur:List Nat}{i c t:Nat}(h:GiveInv rs ys cur i c)(hi:i<rs.length)(hx:W32 rs)(hy:W32 ys)(ht:t=c+rs[i]?.getD 0+ys[i]?.getD 0):
  GiveInv rs ys (cur.set i (t % 4294967296)) (i+1) (t / 4294967296):=by
 obtain⟨ls,h1,rfl⟩:=h;refine⟨ls ++ [t % 4294967296],h1.step hx hy ht,?_⟩;rw [set_mid h1.len (by simp;omega)];simp
theorem GiveInv.done{rs ys cur:List Nat}{n c d:Nat}(h:GiveInv rs ys cur n c)(hn:rs.length=n+1)(hm:ys.length<=n)(hd:d=(rs[n]?.getD 0+c) % 4294967296)(hr:W32 rs)
  (hle:num rs+num ys<2^(32*(n+1))*2)(hge:2^(32*(n+1))<=num rs+num ys):
  num (cur.set n d)+2^(32*(n+1))=num rs+num ys/\W32 (cur.set n d)/\(cur.set n d).length=n+1:=by
 have hl:=h.len (by omega);refine⟨?_,(h.w32 hr).set _ (by omega),by simp;omega⟩;obtain⟨ls,h1,rfl⟩:=h;obtain⟨g1,g2,g3,g4⟩:=h1;rw [set_mid g2 (by simp;omega)]
 have hdr:(rs.drop n).tail=[]:=by simp;omega
 rw [hdr,List.append_nil,num_snoc,g2];rw [List.take_of_length_le hm] at g4;have e:=num_take_next rs n;rw [List.take_of_length_le (by omega)] at e
 have hlt:num ls<2^(32*n):=by have:=num_lt g1;rwa [g2] at this
 have hrn:=hr.get n;rw [pow32] at *;rw [show (2:Nat)^32=4294967296 from rfl] at *;generalize 2^(32*n)=p at *;generalize rs[n]?.getD 0=z at *;have e1:p*(z+c)=p*z+p*c:=Nat.mul_add ..
 have h2:num rs+num ys=num ls+p*(z+c):=by omega
 have h3:4294967296<=z+c:=by
  rcases Nat.lt_or_ge (z+c) 4294967296 with h4 | h4
  ·exfalso
   have:p*(z+c+1)<=p*4294967296:=Nat.mul_le_mul_left _ h4;rw [Nat.mul_add,Nat.mul_one,Nat.mul_comm p 4294967296] at this
   omega
  ·exact h4
 have h5:z+c=d+4294967296:=by omega
 rw [h2,h5,Nat.mul_add,Nat.mul_comm p 4294967296];omega
theorem kn_ok'{q U V R:Nat}(h:R+q*V=U)(hR:R<V):U / V=q/\U % V=R:=by
 subst h
 constructor
 ·rw [Nat.add_mul_div_right _ _ (by omega),Nat.div_eq_of_lt hR,Nat.zero_add]
 ·rw [Nat.add_mul_mod_self_right,Nat.mod_eq_of_lt hR]
def QuoInv(us qs cur:List Nat)(V t:Nat):Prop:=
 W32 qs/\W32 cur/\cur.length=us.length/\num us=num (qs.drop t)*V*2^(32*t)+num cur/\num cur<V*2^(32*t)
theorem QuoInv.start{us:List Nat}{V L n:Nat}(hw:W32 us)(hl:us.length=L+n)(hV:2^(32*n)<=V*2)(hu:num us*2<V*2^(32*L)*2):QuoInv us (List.replicate L 0) us V L:=
 ⟨W32.replicate _,hw,rfl,by rw [List.drop_eq_nil_of_le (by simp)];simp [num],by omega⟩
theorem split3{cur:List Nat}{j n:Nat}(h:j+n+1<=cur.length):
  cur=cur.take j ++ ((cur.drop j).take (n+1) ++ cur.drop (j+(n+1)))/\(cur.take j).length=j/\((cur.drop j).take (n+1)).length=n+1:=by
 refine⟨?_,by simp;omega,by simp;omega⟩;rw [<- List.drop_drop,List.take_append_drop,List.take_append_drop]
theorem num_three{pre ws post:List Nat}{j n:Nat}(h1:pre.length=j)(h2:ws.length=n+1):num (pre ++ (ws ++ post))=num pre+2^(32*j)*num ws+2^(32*(j+(n+1)))*num post:=by
 rw [num_append,num_append,h1,h2,Nat.mul_add,Nat.mul_add 32 j (n+1),Nat.pow_add,Nat.mul_assoc,Nat.add_assoc]
theorem QuoInv.zero{us qs cur:List Nat}{V j n:Nat}(h:QuoInv us qs cur V (j+1))(hl:j+n+1<=cur.length)(hV:V<2^(32*n)):
  num (cur.drop (j+(n+1)))=0/\num ((cur.drop j).take (n+1))<V*4294967296/\num cur=num (cur.take j)+2^(32*j)*num ((cur.drop j).take (n+1)):=by
 obtain⟨h1,h2,h3,h4,h5⟩:=h;obtain⟨e,l1,l2⟩:=split3 hl;have e2:=num_three (post:=cur.drop (j+(n+1))) l1 l2;rw [<- e] at e2
 have hp0:num (cur.drop (j+(n+1)))=0:=by
  rcases Nat.eq_zero_or_pos (num (cur.drop (j+(n+1)))) with h0 | h0
  ·exact h0
  ·exfalso
   have h6:2^(32*(j+(n+1)))<=2^(32*(j+(n+1)))*num (cur.drop (j+(n+1))):=Nat.le_mul_of_pos_right _ h0;have h7:V*2^(32*(j+1))<=2^(32*n)*2^(32*(j+1)):=Nat.mul_le_mul_right _ (by omega);rw [<- Nat.pow_add,show 32*n+32*(j+1)=32*(j+(n+1)) from by omega] at h7
   omega
 rw [hp0,Nat.mul_zero,Nat.add_zero] at e2;refine⟨hp0,?_,e2⟩;rw [pow32,show (2:Nat)^32=4294967296 from rfl] at h5
 have h6:2^(32*j)*num ((cur.drop j).take (n+1))<2^(32*j)*(V*4294967296):=by
  have:V*(4294967296*2^(32*j))=2^(32*j)*(V*4294967296):=by ac_rfl
  omega
 exact Nat.lt_of_mul_lt_mul_left h6
theorem QuoInv.step{us qs cur rs:List Nat}{V j n:Nat}(h:QuoInv us qs cur V (j+1))(hl:j+n+1<=cur.length)(hV:V<2^(32*n))(hV0:0<V)(hj:j<qs.length)
  (hrw:W32 rs)(hrl:rs.length=n+1)(hr:num rs=num ((cur.drop j).take (n+1)) % V):
  QuoInv us (qs.set j (num ((cur.drop j).take (n+1)) / V)) (cur.take j ++ (rs ++ cur.drop (j+(n+1)))) V j/\num ((cur.drop j).take (n+1)) / V<4294967296:=by
 obtain⟨z1,z2,z3⟩:=h.zero hl hV;obtain⟨h1,h2,h3,h4,h5⟩:=h;obtain⟨e,l1,l2⟩:=split3 hl
 have hd:num ((cur.drop j).take (n+1)) / V<4294967296:=by
  rw [Nat.div_lt_iff_lt_mul hV0,Nat.mul_comm];exact z2
 refine⟨⟨h1.set _ hd,(h2.take _).append (hrw.append (h2.drop _)),?_,?_,?_⟩,hd⟩
 ·rw [<- h3];simp only [List.length_append,l1,hrl,List.length_drop];omega
 ·rw [num_three l1 hrl,z1,Nat.mul_zero,Nat.add_zero,h4,num_drop_cons (qs.set j _),List.getElem?_set_self hj,List.drop_set_of_lt (by omega)];rw [z3,hr];have hdm:=Nat.div_add_mod (num ((cur.drop j).take (n+1))) V
  show _=(num ((cur.drop j).take (n+1)) / V+4294967296*num (qs.drop (j+1)))*V*2^(32*j)+(num (cur.take j)+2^(32*j)*(num ((cur.drop j).take (n+1)) % V))
  generalize num ((cur.drop j).take (n+1))=w at *
  have e1:2^(32*j)*w=2^(32*j)*(V*(w / V))+2^(32*j)*(w % V):=by rw [<- Nat.mul_add,hdm]
  rw [e1,pow32,show (2:Nat)^32=4294967296 from rfl,Nat.add_mul,Nat.add_mul]
  have e2:w / V*V*2^(32*j)=2^(32*j)*(V*(w / V)):=by ac_rfl
  have e3:num (qs.drop (j+1))*V*(4294967296*2^(32*j))=4294967296*num (qs.drop (j+1))*V*2^(32*j):=by ac_rfl
  rw [e2,e3];omega
 ·rw [num_three l1 hrl,z1,Nat.mul_zero,Nat.add_zero,hr];have h6:num (cur.take j)<2^(32*j):=num_take_lt h2 (by omega);have h7:2^(32*j)*(num ((cur.drop j).take (n+1)) % V+1)<=2^(32*j)*V:=Nat.mul_le_mul_left _ (Nat.mod_lt _ hV0);rw [Nat.mul_add,Nat.mul_one,Nat.mul_comm _ V] at h7
  omega
theorem QuoInv.done{us qs cur:List Nat}{a b s n:Nat}(h:QuoInv us qs cur (b*2^s) 0)(hu:num us=a*2^s)(hV:b*2^s<2^(32*n)):
  num qs=a / b/\num (cur.take n) / 2^s=a % b:=by
 obtain⟨h1,h2,h3,h4,h5⟩:=h;rw [Nat.mul_zero,Nat.pow_zero,Nat.mul_one] at h4 h5;rw [List.drop_zero] at h4
 have hb:0<b*2^s:=by omega
 have k:=kn_ok' (q:=num qs) (R:=num cur) (U:=num us) (V:=b*2^s) (by omega) h5;rw [hu,Nat.mul_div_mul_right _ _ (Nat.two_pow_pos s),Nat.mul_mod_mul_right] at k;refine⟨k.1.symm,?_⟩;rw [num_take_mod h2,Nat.mod_eq_of_lt (by omega),<- k.2,Nat.mul_div_cancel _ (Nat.two_pow_pos s)]
theorem top_set{ys:List Nat}{n s y:Nat}(hw:W32 ys)(hl:ys.length=n+1)(hy:ys[n]?.getD 0=y)(hs:s=32 - blen y)(h0:0<y):
  num ys*2^s<2^(32*(n+1))/\2147483648*2^(32*n)<=num ys*2^s:=by
 have hy32:y<2^32:=by rw [<- hy];exact hw.get n
 have hb:blen y<=32:=blen_le_iff.2 hy32;have e:=num_take_next ys n;rw [List.take_of_length_le (by omega),hy] at e;have hlt:=num_take_lt hw (k:=n) (by omega);have h1:=lt_pow_blen y;have h2:=pow_blen_le h0
 have hb0:0<blen y:=by
  rcases Nat.eq_zero_or_pos (blen y) with h | h
  ·rw [blen_eq_zero] at h;omega
  ·exact h
 have e1:2^blen y*2^s=2^32:=by rw [<- Nat.pow_add];congr 1;omega
 have e2:2^(blen y - 1)*2^s=2147483648:=by rw [<- Nat.pow_add,show blen y - 1+s=31 from by omega]
 constructor
 ·have h3:num ys<2^(32*n)*(y+1):=by rw [Nat.mul_add,Nat.mul_one];omega
  have h4:num ys*2^s<2^(32*n)*(y+1)*2^s:=(Nat.mul_lt_mul_right (Nat.two_pow_pos s)).2 h3;have h5:2^(32*n)*(y+1)*2^s<=2^(32*n)*2^blen y*2^s:=Nat.mul_le_mul_right _ (Nat.mul_le_mul_left _ h1);rw [Nat.mul_assoc,Nat.mul_assoc,e1] at h5;rw [Nat.mul_assoc] at h4;rw [pow32,Nat.mul_comm (2^32)];omega
 ·have h3:2^(32*n)*y<=num ys:=by omega
  have h4:2^(32*n)*2^(blen y - 1)*2^s<=num ys*2^s:=Nat.mul_le_mul_right _ (Nat.le_trans (Nat.mul_le_mul_left _ h2) h3);rw [Nat.mul_assoc,e2,Nat.mul_comm] at h4
  exact h4
theorem top_word{zs:List Nat}{n:Nat}(hw:W32 zs)(h1:num zs<2^(32*(n+1)))(h2:2147483648*2^(32*n)<=num zs):2147483648<=(zs.take (n+1))[n]?.getD 0/\num (zs.take (n+1))=num zs:=by
 refine⟨?_,by rw [num_take_mod hw,Nat.mod_eq_of_lt h1]⟩;rw [List.getElem?_take_of_lt (by omega),<- num_word hw n]
 have h3:num zs / 2^(32*n)<2^32:=by
  rw [Nat.div_lt_iff_lt_mul (Nat.two_pow_pos _)];rw [pow32] at h1;exact h1
 rw [Nat.mod_eq_of_lt h3]
 exact (Nat.le_div_iff_mul_le (Nat.two_pow_pos _)).2 h2
def NewQR(w:World)(Q R:Nat)(e:Ending)(w':World):Prop:=
 ∃ A n c B m d,e=.returned (.tuple #[.slice A n c,.slice B m d,.int .i64 0])/\U32s w' A n c (digs Q)/\U32s w' B m d (digs R)/\Below w.heap.size w w'
theorem lead32_any(x:Nat)(w:World)(hx:x<4294967296):
  Calls prog 264 #[.int .u32 (x:Int)] w fun e w'=>e=.returned (.int .i64 ((32 - blen x:Nat):Int))/\w=w':=by
 have HL:=Hd (len32_any x w hx);have hb:blen x<=32:=blen_le_iff.2 hx
 obtain⟨b,hbb⟩:∃ b,blen x=b:=⟨_,rfl⟩
 rw [hbb] at HL hb ⊢;clear hbb
 have e1:(32:Int) - (b:Int)=((32 - b:Nat):Int):=by omega
 go_enter func264,ntmps264
 go_wp2_with fail;refine HL.out.mono ?_;rintro e w' ⟨rfl,rfl⟩;go_wp2
 go_ret
 exact⟨ret_int rfl,rfl⟩
theorem one_any(A:Option Addr)(n c y:Nat)(xs:List Nat)(w:World)(hx:U32s w A n c xs)(hy:y<4294967296)(hy0:0<y)(hn:n<=1073741824):
  Calls prog 263 #[.slice A n c,.int .u64 (y:Int)] w (NewQR w (num xs / y) (num xs % y)):=by
 have HX:=Hd hx;have hl:=hx.len;have HL:=Hd hl;clear hx hl;have hmk:=fun W=>make_u32 (N:=(n:Int)) (n:=n) rfl (by omega) W
 have hv0:((y:Int) == 0)=false:=by simp;omega
 go_enter func263,ntmps263
 go_wp2
 go_loopw [7,8,9,15] (fun rv _ _ iv wr=>∃ (i r:Nat) (qs:List Nat),iv=.int .i64 i/\rv=.int .u64 r/\i<=n/\ByInv xs qs y r (n - i)/\Arr wr w.heap.size qs/\Below w.heap.size w wr) (fun _ _ _ iv _=>n - (intOf iv).toNat)
 case atStart=>exact⟨0,0,List.replicate n 0,rfl,rfl,Nat.zero_le _,by have h:=ByInv.start xs hy0;rw [HL.out] at h;exact h,Arr.zeros _ _,below_alloc _ _⟩
 case round=>
  obtain⟨i,r,qs,rfl,rfl,hi,hinv,harr,hb⟩:=hrel;have HI:=Hd hinv;have HA:=Hd harr;have HB:=Hd hb;have hr:r<y:=hinv.2.2.2
  have hql:qs.length=n:=by rw [hinv.2.1,HL.out]
  clear hinv harr hb hmk
  by_cases hlt:i<n
  ·obtain⟨k,hk⟩:∃ k,n - 1 - i=k:=⟨_,rfl⟩
   have ek:(n:Int) - 1 - (i:Int)=(k:Int):=by omega
   have ekl:(k:Int)<(n:Int):=by omega
   obtain⟨ad,rfl,hc⟩:=(HX.out.below HB.out).cell (j:=k) (by omega);have hx1:=HX.out.lt k;have hf:=HA.out.frozen k;have hcq:=HA.out.cell (j:=k) (by rw [hql];omega)
   obtain⟨q0,hq0⟩:∃ z,qs[k]?.getD 0=z:=⟨_,rfl⟩
   rw [hq0] at hcq;clear hq0
   obtain⟨x,hxx⟩:∃ z,xs[k]?.getD 0=z:=⟨_,rfl⟩
   rw [hxx] at hc hx1;have HXX:=Hd hxx;have HK:=Hd hk;have HQL:=Hd hql;clear hxx hk hql;have hor:=or_join (i:=32) (x:=r) (y:=x) (by omega) (by omega) (by omega)
   obtain⟨t,ht⟩:∃ t,x+4294967296*r=t:=⟨_,rfl⟩
   rw [show ((r*2^32:Nat):Int)=(r:Int)*4294967296 from by omega,show ((r*2^32+x:Nat):Int)=(t:Int) from by omega] at hor
   have htl:t<18446744073709551616:=by omega
   have hdiv:(t:Int) / (y:Int)=((t / y:Nat):Int):=by simp
   have hmod:(t:Int) % (y:Int)=((t % y:Nat):Int):=by simp
   have hmod2:(t:Int).tmod (y:Int)=((t % y:Nat):Int):=by rw [Int.tmod_eq_emod_of_nonneg (by omega)];simp
   have hd:t / y<4294967296:=by
    rw [Nat.div_lt_iff_lt_mul hy0];have:4294967296*(r+1)<=4294967296*y:=Nat.mul_le_mul_left _ hr
    omega
   rw [show n - i=k+1 from by have:=HK.out;omega] at HI;have HST:=Hd (HI.out.step (d:=t / y) (R':=t % y) (by have:=HL.out;omega) hd (by rw [HXX.out,ht,Nat.mul_comm];exact (Nat.div_add_mod _ _).symm) (Nat.mod_lt _ hy0))
   obtain⟨q,hq⟩:∃ z,t / y=z:=⟨_,rfl⟩
   obtain⟨r2,hr2⟩:∃ z,t % y=z:=⟨_,rfl⟩
   rw [hq] at hdiv hd HST;rw [hr2] at hmod hmod2 HST;clear HI ht hq hr2;go_wp2
   go_roundw
   case rel=>exact⟨i+1,r2,qs.set k q,by go_num,rfl,by omega,by rw [show n - (i+1)=k from by have:=HK.out;omega];exact HST.out,HA.out.set _ _,HB.out.setCell (Nat.le_refl _) _⟩
   case measure=>simp [intOf];omega
  ·obtain rfl:i=n:=by omega
   have hdn:=HI.out;rw [Nat.sub_self] at hdn;have hw1:W32 qs:=hdn.1;have hd:=hdn.done;have hu:=HA.out.u32s' hw1 hql (by omega);have HC:=Hd (cut_any _ _ _ _ _ hu);have HD:=Hd hu.cutd;rw [<- hd.1] at HD;have HM:=Hd hd.2
   obtain⟨kk,hkk⟩:∃ kk,wlen qs=kk:=⟨_,rfl⟩
   rw [hkk] at HC HD;have HS:=Hd fun W=>nsmall_any r W (by omega);clear hkk hu hd hdn hw1 hql HI HA hlt hi HX HL;go_wp2_with fail;refine HC.out.mono ?_;rintro e w' ⟨rfl,rfl⟩;go_wp2_with fail;refine (HS.out _).mono ?_;rintro e w2 ⟨A2,n2,c2,rfl,hu2,hb2⟩;have HU2:=Hd hu2;have HD2:=Hd (HD.out.below hb2);have HB2:=Hd (HB.out.trans (hb2.mono HB.out.size));clear hu2 hb2 HD HB HS HC;go_wp2
   go_ret3
   exact⟨_,kk,kk,_,n2,c2,rfl,HD2.out,by rw [HM.out];exact HU2.out,HB2.out⟩
def Win(w:World)(ad:Addr)(pre ws post:List Nat):Prop:=∃ g,ad=⟨g,pre.length,none⟩/\Arr w g (pre ++ (ws ++ post))
theorem add_none(g j i:Nat):(⟨g,j,none⟩:Addr).add i=⟨g,j+i,none⟩:=by unfold Addr.add;split<;>simp_all
theorem mid_get{pre ws post:List Nat}{i:Nat}(hi:i<ws.length):(pre ++ (ws ++ post))[pre.length+i]?.getD 0=ws[i]?.getD 0:=by
 rw [List.getElem?_append_right (by omega),Nat.add_sub_cancel_left,List.getElem?_append_left hi]
theorem mid_set{pre ws post:List Nat}{i:Nat}(hi:i<ws.length)(x:Nat):(pre ++ (ws ++ post)).set (pre.length+i) x=pre ++ (ws.set i x ++ post):=by
 rw [List.set_append_right _ _ (by omega),Nat.add_sub_cancel_left,List.set_append_left _ _ hi]
theorem Win.cell{w:World}{ad:Addr}{pre ws post:List Nat}(h:Win w ad pre ws post){i:Nat}(hi:i<ws.length):w.cell? (ad.add i)=some (wd (ws[i]?.getD 0)):=by
 obtain⟨g,rfl,ha⟩:=h;rw [add_none,ha.cell (by simp;omega),mid_get hi]
theorem Win.frozen{w:World}{ad:Addr}{pre ws post:List Nat}(h:Win w ad pre ws post)(i:Nat):w.frozen? (ad.add i)=false:=by
 obtain⟨g,rfl,ha⟩:=h;rw [add_none];exact ha.frozen _
theorem Win.set{w:World}{ad:Addr}{pre ws post:List Nat}(h:Win w ad pre ws post){i:Nat}(hi:i<ws.length)(x:Nat):Win (w.setCell (ad.add i) (wd x)) ad pre (ws.set i x) post:=by
 obtain⟨g,rfl,ha⟩:=h;refine⟨g,rfl,?_⟩;rw [add_none,<- mid_set hi]
 exact ha.set _ _
theorem Win.drewN{w:World}{ad:Addr}{pre ws post:List Nat}(h:Win w ad pre ws post)(n:Nat):Win (w.drewN n) ad pre ws post:=h
theorem grown_setw{w0 w:World}{ad:Addr}(h:w0.grownBy w (some ad.block))(i:Nat)(v:Value):w0.grownBy (w.setCell (ad.add i) v) (some ad.block):=
 h.trans ⟨rfl,rfl,rfl,by simp,fun k _ hk=>Below.heap_setCell _ _ _ _ (fun e=>hk (by rw [e,block_of_add]))⟩
theorem _root_.Go.World.grownBy.drawn{w w':World}{r:Option Nat}(h:w.grownBy w' r)(n:Nat):w.grownBy (w'.drewN n) r:=
 h.trans ⟨rfl,rfl,rfl,Nat.le_refl _,fun _ _ _=>rfl⟩
theorem U32s.grown{w w':World}{A:Option Addr}{n c g:Nat}{xs:List Nat}(h:U32s w A n c xs)(hg:w.grownBy w' (some g))(hne:∀ ad,A=some ad->0<n->ad.block≠g):U32s w' A n c xs:=
 h.keep hg.size (fun ad e h0=>by
  obtain⟨ad',e',hlt',_⟩:=h.at_ h0;rw [e] at e';cases e'
  exact hg.block _ hlt' (fun h=>hne ad e h0 (by injection h)))
theorem Win.lt{w:World}{ad:Addr}{pre ws post:List Nat}(h:Win w ad pre ws post):ad.block<w.heap.size:=by
 obtain⟨g,rfl,ha⟩:=h
 exact ha.lt
theorem Win.u32s{w:World}{ad:Addr}{pre ws post:List Nat}(h:Win w ad pre ws post)(hw:W32 ws){n c:Nat}(hl:ws.length=n)(hs:n<=34359738368)(hc:n<=c):U32s w (some ad) n c ws:=
 ⟨hl,hc,hs,hw,fun _=>⟨ad,rfl,h.lt,fun _ hj=>h.cell (by omega)⟩⟩
theorem Arr.win{w:World}{g:Nat}{xs:List Nat}(h:Arr w g xs):Win w ⟨g,0,none⟩ [] xs []:=⟨g,rfl,by simpa using h⟩
end Go.Proofs.YthlmlmfebpjgdaaGreatDoor
