/-
Lemmas for the statement: Kn2 NoneT Win NdigT NbackT NquoT NextT LdT.
-/
import Derived.Test.YthlmlmfebpjgdaaGreatDoorM04
import Derived.Test.YthlmlmfebpjgdaaGreatDoorM01
import Derived.Deep.DeepCutAuto
import Derived.Deep.CutRange
import Derived.Deep.RegionHeld3
import Derived.Test.YthlmlmfebpjgdaaGreatDoorM03
import Derived.Test.YthlmlmfebpjgdaaGreatDoorM02
import Derived.Laws.FloatArith
import Derived.Laws.Bits128
set_option linter.unusedSimpArgs false
set_option linter.unusedVariables false
set_option maxHeartbeats 12800000
namespace Go.Proofs.YthlmlmfebpjgdaaGreatDoor
theorem kn_ok'{q U V R:Nat}(h:R+q*V=U)(hR:R<V):U / V=q/\U % V=R:=by
 subst h
 constructor
 ·rw [Nat.add_mul_div_right _ _ (by omega),Nat.div_eq_of_lt hR,Nat.zero_add]
 ·rw [Nat.add_mul_mod_self_right,Nat.mod_eq_of_lt hR]
def QuoInv(us qs cur:List Nat)(V t:Nat):Prop:=
 W32 qs/\W32 cur/\cur.length=us.length/\num us=num (qs.drop t)*V*2^(32*t)+num cur/\num cur<V*2^(32*t)
theorem QuoInv.start{us:List Nat}{V L n:Nat}(hw:W32 us)(hl:us.length=L+n)(hV:2^(32*n)<=V*2)(hu:num us*2<V*2^(32*L)*2):QuoInv us (List.replicate L 0) us V L:=
 ⟨W32.replicate _,hw,rfl,by rw [List.drop_eq_nil_of_le (by simp)];simp [num],by omega⟩
theorem split3{cur:List Nat}{j n:Nat}(h:j+n+1<=cur.length):
  cur=cur.take j ++ ((cur.drop j).take (n+1) ++ cur.drop (j+(n+1)))/\(cur.take j).length=j/\((cur.drop j).take (n+1)).length=n+1:=by
 refine⟨?_,by simp;omega,by simp;omega⟩;rw [<- List.drop_drop,List.take_append_drop,List.take_append_drop]
theorem num_three{pre ws post:List Nat}{j n:Nat}(h1:pre.length=j)(h2:ws.length=n+1):num (pre ++ (ws ++ post))=num pre+2^(32*j)*num ws+2^(32*(j+(n+1)))*num post:=by
 rw [num_append,num_append,h1,h2,Nat.mul_add,Nat.mul_add 32 j (n+1),Nat.pow_add,Nat.mul_assoc,Nat.add_assoc]
theorem QuoInv.zero{us qs cur:List Nat}{V j n:Nat}(h:QuoInv us qs cur V (j+1))(hl:j+n+1<=cur.length)(hV:V<2^(32*n)):
  num (cur.drop (j+(n+1)))=0/\num ((cur.drop j).take (n+1))<V*4294967296/\num cur=num (cur.take j)+2^(32*j)*num ((cur.drop j).take (n+1)):=by
 obtain⟨h1,h2,h3,h4,h5⟩:=h;obtain⟨e,l1,l2⟩:=split3 hl;have e2:=num_three (post:=cur.drop (j+(n+1))) l1 l2;rw [<- e] at e2
 have hp0:num (cur.drop (j+(n+1)))=0:=by
  rcases Nat.eq_zero_or_pos (num (cur.drop (j+(n+1)))) with h0 | h0
  ·exact h0
  ·exfalso
   have h6:2^(32*(j+(n+1)))<=2^(32*(j+(n+1)))*num (cur.drop (j+(n+1))):=Nat.le_mul_of_pos_right _ h0;have h7:V*2^(32*(j+1))<=2^(32*n)*2^(32*(j+1)):=Nat.mul_le_mul_right _ (by omega);rw [<- Nat.pow_add,show 32*n+32*(j+1)=32*(j+(n+1)) from by omega] at h7
   omega
 rw [hp0,Nat.mul_zero,Nat.add_zero] at e2;refine⟨hp0,?_,e2⟩;rw [pow32,show (2:Nat)^32=4294967296 from rfl] at h5
 have h6:2^(32*j)*num ((cur.drop j).take (n+1))<2^(32*j)*(V*4294967296):=by
  have:V*(4294967296*2^(32*j))=2^(32*j)*(V*4294967296):=by ac_rfl
  omega
 exact Nat.lt_of_mul_lt_mul_left h6
theorem QuoInv.step{us qs cur rs:List Nat}{V j n:Nat}(h:QuoInv us qs cur V (j+1))(hl:j+n+1<=cur.length)(hV:V<2^(32*n))(hV0:0<V)(hj:j<qs.length)
  (hrw:W32 rs)(hrl:rs.length=n+1)(hr:num rs=num ((cur.drop j).take (n+1)) % V):
  QuoInv us (qs.set j (num ((cur.drop j).take (n+1)) / V)) (cur.take j ++ (rs ++ cur.drop (j+(n+1)))) V j/\num ((cur.drop j).take (n+1)) / V<4294967296:=by
 obtain⟨z1,z2,z3⟩:=h.zero hl hV;obtain⟨h1,h2,h3,h4,h5⟩:=h;obtain⟨e,l1,l2⟩:=split3 hl
 have hd:num ((cur.drop j).take (n+1)) / V<4294967296:=by
  rw [Nat.div_lt_iff_lt_mul hV0,Nat.mul_comm];exact z2
 refine⟨⟨h1.set _ hd,(h2.take _).append (hrw.append (h2.drop _)),?_,?_,?_⟩,hd⟩
 ·rw [<- h3];simp only [List.length_append,l1,hrl,List.length_drop];omega
 ·rw [num_three l1 hrl,z1,Nat.mul_zero,Nat.add_zero,h4,num_drop_cons (qs.set j _),List.getElem?_set_self hj,List.drop_set_of_lt (by omega)];rw [z3,hr];have hdm:=Nat.div_add_mod (num ((cur.drop j).take (n+1))) V
  show _=(num ((cur.drop j).take (n+1)) / V+4294967296*num (qs.drop (j+1)))*V*2^(32*j)+(num (cur.take j)+2^(32*j)*(num ((cur.drop j).take (n+1)) % V))
  generalize num ((cur.drop j).take (n+1))=w at *
  have e1:2^(32*j)*w=2^(32*j)*(V*(w / V))+2^(32*j)*(w % V):=by rw [<- Nat.mul_add,hdm]
  rw [e1,pow32,show (2:Nat)^32=4294967296 from rfl,Nat.add_mul,Nat.add_mul]
  have e2:w / V*V*2^(32*j)=2^(32*j)*(V*(w / V)):=by ac_rfl
  have e3:num (qs.drop (j+1))*V*(4294967296*2^(32*j))=4294967296*num (qs.drop (j+1))*V*2^(32*j):=by ac_rfl
  rw [e2,e3];omega
 ·rw [num_three l1 hrl,z1,Nat.mul_zero,Nat.add_zero,hr];have h6:num (cur.take j)<2^(32*j):=num_take_lt h2 (by omega);have h7:2^(32*j)*(num ((cur.drop j).take (n+1)) % V+1)<=2^(32*j)*V:=Nat.mul_le_mul_left _ (Nat.mod_lt _ hV0);rw [Nat.mul_add,Nat.mul_one,Nat.mul_comm _ V] at h7
  omega
theorem QuoInv.done{us qs cur:List Nat}{a b s n:Nat}(h:QuoInv us qs cur (b*2^s) 0)(hu:num us=a*2^s)(hV:b*2^s<2^(32*n)):
  num qs=a / b/\num (cur.take n) / 2^s=a % b:=by
 obtain⟨h1,h2,h3,h4,h5⟩:=h;rw [Nat.mul_zero,Nat.pow_zero,Nat.mul_one] at h4 h5;rw [List.drop_zero] at h4
 have hb:0<b*2^s:=by omega
 have k:=kn_ok' (q:=num qs) (R:=num cur) (U:=num us) (V:=b*2^s) (by omega) h5;rw [hu,Nat.mul_div_mul_right _ _ (Nat.two_pow_pos s),Nat.mul_mod_mul_right] at k;refine⟨k.1.symm,?_⟩;rw [num_take_mod h2,Nat.mod_eq_of_lt (by omega),<- k.2,Nat.mul_div_cancel _ (Nat.two_pow_pos s)]
theorem top_set{ys:List Nat}{n s y:Nat}(hw:W32 ys)(hl:ys.length=n+1)(hy:ys[n]?.getD 0=y)(hs:s=32 - blen y)(h0:0<y):
  num ys*2^s<2^(32*(n+1))/\2147483648*2^(32*n)<=num ys*2^s:=by
 have hy32:y<2^32:=by rw [<- hy];exact hw.get n
 have hb:blen y<=32:=blen_le_iff.2 hy32;have e:=num_take_next ys n;rw [List.take_of_length_le (by omega),hy] at e;have hlt:=num_take_lt hw (k:=n) (by omega);have h1:=lt_pow_blen y;have h2:=pow_blen_le h0
 have hb0:0<blen y:=by
  rcases Nat.eq_zero_or_pos (blen y) with h | h
  ·rw [blen_eq_zero] at h;omega
  ·exact h
 have e1:2^blen y*2^s=2^32:=by rw [<- Nat.pow_add];congr 1;omega
 have e2:2^(blen y - 1)*2^s=2147483648:=by rw [<- Nat.pow_add,show blen y - 1+s=31 from by omega]
 constructor
 ·have h3:num ys<2^(32*n)*(y+1):=by rw [Nat.mul_add,Nat.mul_one];omega
  have h4:num ys*2^s<2^(32*n)*(y+1)*2^s:=(Nat.mul_lt_mul_right (Nat.two_pow_pos s)).2 h3;have h5:2^(32*n)*(y+1)*2^s<=2^(32*n)*2^blen y*2^s:=Nat.mul_le_mul_right _ (Nat.mul_le_mul_left _ h1);rw [Nat.mul_assoc,Nat.mul_assoc,e1] at h5;rw [Nat.mul_assoc] at h4;rw [pow32,Nat.mul_comm (2^32)];omega
 ·have h3:2^(32*n)*y<=num ys:=by omega
  have h4:2^(32*n)*2^(blen y - 1)*2^s<=num ys*2^s:=Nat.mul_le_mul_right _ (Nat.le_trans (Nat.mul_le_mul_left _ h2) h3);rw [Nat.mul_assoc,e2,Nat.mul_comm] at h4
  exact h4
theorem top_word{zs:List Nat}{n:Nat}(hw:W32 zs)(h1:num zs<2^(32*(n+1)))(h2:2147483648*2^(32*n)<=num zs):2147483648<=(zs.take (n+1))[n]?.getD 0/\num (zs.take (n+1))=num zs:=by
 refine⟨?_,by rw [num_take_mod hw,Nat.mod_eq_of_lt h1]⟩;rw [List.getElem?_take_of_lt (by omega),<- num_word hw n]
 have h3:num zs / 2^(32*n)<2^32:=by
  rw [Nat.div_lt_iff_lt_mul (Nat.two_pow_pos _)];rw [pow32] at h1;exact h1
 rw [Nat.mod_eq_of_lt h3]
 exact (Nat.le_div_iff_mul_le (Nat.two_pow_pos _)).2 h2
section
open Go.RowKit
def NewQR(w:World)(Q R:Nat)(e:Ending)(w':World):Prop:=
 ∃ A n c B m d,e=.returned (.tuple #[.slice A n c,.slice B m d,.int .i64 0])/\U32s w' A n c (digs Q)/\U32s w' B m d (digs R)/\Below w.heap.size w w'
theorem lead32_any(x:Nat)(w:World)(hx:x<4294967296):
  Calls Tryz.prog 264 #[.int .u32 (x:Int)] w fun e w'=>e=.returned (.int .i64 ((32 - blen x:Nat):Int))/\w=w':=by
 have HL:=Hd (len32_any x w hx);have hb:blen x<=32:=blen_le_iff.2 hx
 obtain⟨b,hbb⟩:∃ b,blen x=b:=⟨_,rfl⟩
 rw [hbb] at HL hb ⊢;clear hbb
 have e1:(32:Int) - (b:Int)=((32 - b:Nat):Int):=by omega
 go_enter Tryz.func264,Tryz.ntmps264
 go_wp2_with fail;refine HL.out.mono ?_;rintro e w' ⟨rfl,rfl⟩;go_wp2
 go_ret
 exact⟨ret_int rfl,rfl⟩
theorem one_any(A:Option Addr)(n c y:Nat)(xs:List Nat)(w:World)(hx:U32s w A n c xs)(hy:y<4294967296)(hy0:0<y)(hn:n<=1073741824):
  Calls Tryz.prog 263 #[.slice A n c,.int .u64 (y:Int)] w (NewQR w (num xs / y) (num xs % y)):=by
 have HX:=Hd hx;have hl:=hx.len;have HL:=Hd hl;clear hx hl;have hmk:=fun W=>make_u32 (N:=(n:Int)) (n:=n) rfl (by omega) W
 have hv0:((y:Int) == 0)=false:=by simp;omega
 go_enter Tryz.func263,Tryz.ntmps263
 go_wp2
 go_loopw [7,8,9,15] (fun rv _ _ iv wr=>∃ (i r:Nat) (qs:List Nat),iv=.int .i64 i/\rv=.int .u64 r/\i<=n/\ByInv xs qs y r (n - i)/\Arr wr w.heap.size qs/\Below w.heap.size w wr) (fun _ _ _ iv _=>n - (intOf iv).toNat)
 case atStart=>exact⟨0,0,List.replicate n 0,rfl,rfl,Nat.zero_le _,by have h:=ByInv.start xs hy0;rw [HL.out] at h;exact h,Arr.zeros _ _,below_alloc _ _⟩
 case round=>
  obtain⟨i,r,qs,rfl,rfl,hi,hinv,harr,hb⟩:=hrel;have HI:=Hd hinv;have HA:=Hd harr;have HB:=Hd hb;have hr:r<y:=hinv.2.2.2
  have hql:qs.length=n:=by rw [hinv.2.1,HL.out]
  clear hinv harr hb hmk
  by_cases hlt:i<n
  ·obtain⟨k,hk⟩:∃ k,n - 1 - i=k:=⟨_,rfl⟩
   have ek:(n:Int) - 1 - (i:Int)=(k:Int):=by omega
   have ekl:(k:Int)<(n:Int):=by omega
   obtain⟨ad,rfl,hc⟩:=(HX.out.below HB.out).cell (j:=k) (by omega);have hx1:=HX.out.lt k;have hf:=HA.out.frozen k;have hcq:=HA.out.cell (j:=k) (by rw [hql];omega)
   obtain⟨q0,hq0⟩:∃ z,qs[k]?.getD 0=z:=⟨_,rfl⟩
   rw [hq0] at hcq;clear hq0
   obtain⟨x,hxx⟩:∃ z,xs[k]?.getD 0=z:=⟨_,rfl⟩
   rw [hxx] at hc hx1;have HXX:=Hd hxx;have HK:=Hd hk;have HQL:=Hd hql;clear hxx hk hql;have hor:=or_join (i:=32) (x:=r) (y:=x) (by omega) (by omega) (by omega)
   obtain⟨t,ht⟩:∃ t,x+4294967296*r=t:=⟨_,rfl⟩
   rw [show ((r*2^32:Nat):Int)=(r:Int)*4294967296 from by omega,show ((r*2^32+x:Nat):Int)=(t:Int) from by omega] at hor
   have htl:t<18446744073709551616:=by omega
   have hdiv:(t:Int) / (y:Int)=((t / y:Nat):Int):=by simp
   have hmod:(t:Int) % (y:Int)=((t % y:Nat):Int):=by simp
   have hmod2:(t:Int).tmod (y:Int)=((t % y:Nat):Int):=by rw [Int.tmod_eq_emod_of_nonneg (by omega)];simp
   have hd:t / y<4294967296:=by
    rw [Nat.div_lt_iff_lt_mul hy0];have:4294967296*(r+1)<=4294967296*y:=Nat.mul_le_mul_left _ hr
    omega
   rw [show n - i=k+1 from by have:=HK.out;omega] at HI;have HST:=Hd (HI.out.step (d:=t / y) (R':=t % y) (by have:=HL.out;omega) hd (by rw [HXX.out,ht,Nat.mul_comm];exact (Nat.div_add_mod _ _).symm) (Nat.mod_lt _ hy0))
   obtain⟨q,hq⟩:∃ z,t / y=z:=⟨_,rfl⟩
   obtain⟨r2,hr2⟩:∃ z,t % y=z:=⟨_,rfl⟩
   rw [hq] at hdiv hd HST;rw [hr2] at hmod hmod2 HST;clear HI ht hq hr2;go_wp2
   go_roundw
   case rel=>exact⟨i+1,r2,qs.set k q,by go_num,rfl,by omega,by rw [show n - (i+1)=k from by have:=HK.out;omega];exact HST.out,HA.out.set _ _,HB.out.setCell (Nat.le_refl _) _⟩
   case measure=>simp [intOf];omega
  ·obtain rfl:i=n:=by omega
   have hdn:=HI.out;rw [Nat.sub_self] at hdn;have hw1:W32 qs:=hdn.1;have hd:=hdn.done;have hu:=HA.out.u32s' hw1 hql (by omega);have HC:=Hd (cut_any _ _ _ _ _ hu);have HD:=Hd hu.cutd;rw [<- hd.1] at HD;have HM:=Hd hd.2
   obtain⟨kk,hkk⟩:∃ kk,wlen qs=kk:=⟨_,rfl⟩
   rw [hkk] at HC HD;have HS:=Hd fun W=>nsmall_any r W (by omega);clear hkk hu hd hdn hw1 hql HI HA hlt hi HX HL;go_wp2_with fail;refine HC.out.mono ?_;rintro e w' ⟨rfl,rfl⟩;go_wp2_with fail;refine (HS.out _).mono ?_;rintro e w2 ⟨A2,n2,c2,rfl,hu2,hb2⟩;have HU2:=Hd hu2;have HD2:=Hd (HD.out.below hb2);have HB2:=Hd (HB.out.trans (hb2.mono HB.out.size));clear hu2 hb2 HD HB HS HC;go_wp2
   go_ret3
   exact⟨_,kk,kk,_,n2,c2,rfl,HD2.out,by rw [HM.out];exact HU2.out,HB2.out⟩
end
section
open Go.RowKit
def Win(w:World)(ad:Addr)(pre ws post:List Nat):Prop:=∃ g,ad=⟨g,pre.length,none⟩/\Arr w g (pre ++ (ws ++ post))
theorem add_none(g j i:Nat):(⟨g,j,none⟩:Addr).add i=⟨g,j+i,none⟩:=by unfold Addr.add;split<;>simp_all
theorem mid_get{pre ws post:List Nat}{i:Nat}(hi:i<ws.length):(pre ++ (ws ++ post))[pre.length+i]?.getD 0=ws[i]?.getD 0:=by
 rw [List.getElem?_append_right (by omega),Nat.add_sub_cancel_left,List.getElem?_append_left hi]
theorem mid_set{pre ws post:List Nat}{i:Nat}(hi:i<ws.length)(x:Nat):(pre ++ (ws ++ post)).set (pre.length+i) x=pre ++ (ws.set i x ++ post):=by
 rw [List.set_append_right _ _ (by omega),Nat.add_sub_cancel_left,List.set_append_left _ _ hi]
theorem Win.cell{w:World}{ad:Addr}{pre ws post:List Nat}(h:Win w ad pre ws post){i:Nat}(hi:i<ws.length):w.cell? (ad.add i)=some (wd (ws[i]?.getD 0)):=by
 obtain⟨g,rfl,ha⟩:=h;rw [add_none,ha.cell (by simp;omega),mid_get hi]
theorem Win.frozen{w:World}{ad:Addr}{pre ws post:List Nat}(h:Win w ad pre ws post)(i:Nat):w.frozen? (ad.add i)=false:=by
 obtain⟨g,rfl,ha⟩:=h;rw [add_none];exact ha.frozen _
theorem Win.set{w:World}{ad:Addr}{pre ws post:List Nat}(h:Win w ad pre ws post){i:Nat}(hi:i<ws.length)(x:Nat):Win (w.setCell (ad.add i) (wd x)) ad pre (ws.set i x) post:=by
 obtain⟨g,rfl,ha⟩:=h;refine⟨g,rfl,?_⟩;rw [add_none,<- mid_set hi]
 exact ha.set _ _
theorem Win.drewN{w:World}{ad:Addr}{pre ws post:List Nat}(h:Win w ad pre ws post)(n:Nat):Win (w.drewN n) ad pre ws post:=h
theorem grown_setw{w0 w:World}{ad:Addr}(h:w0.grownBy w (some ad.block))(i:Nat)(v:Value):w0.grownBy (w.setCell (ad.add i) v) (some ad.block):=
 h.trans ⟨rfl,rfl,rfl,by simp,fun k _ hk=>Below.heap_setCell _ _ _ _ (fun e=>hk (by rw [e,block_of_add]))⟩
theorem _root_.Go.World.grownBy.drawn{w w':World}{r:Option Nat}(h:w.grownBy w' r)(n:Nat):w.grownBy (w'.drewN n) r:=
 h.trans ⟨rfl,rfl,rfl,Nat.le_refl _,fun _ _ _=>rfl⟩
theorem U32s.grown{w w':World}{A:Option Addr}{n c g:Nat}{xs:List Nat}(h:U32s w A n c xs)(hg:w.grownBy w' (some g))(hne:∀ ad,A=some ad->0<n->ad.block≠g):U32s w' A n c xs:=
 h.keep hg.size (fun ad e h0=>by
  obtain⟨ad',e',hlt',_⟩:=h.at_ h0;rw [e] at e';cases e'
  exact hg.block _ hlt' (fun h=>hne ad e h0 (by injection h)))
theorem Win.lt{w:World}{ad:Addr}{pre ws post:List Nat}(h:Win w ad pre ws post):ad.block<w.heap.size:=by
 obtain⟨g,rfl,ha⟩:=h
 exact ha.lt
theorem Win.u32s{w:World}{ad:Addr}{pre ws post:List Nat}(h:Win w ad pre ws post)(hw:W32 ws){n c:Nat}(hl:ws.length=n)(hs:n<=34359738368)(hc:n<=c):U32s w (some ad) n c ws:=
 ⟨hl,hc,hs,hw,fun _=>⟨ad,rfl,h.lt,fun _ hj=>h.cell (by omega)⟩⟩
theorem Arr.win{w:World}{g:Nat}{xs:List Nat}(h:Arr w g xs):Win w ⟨g,0,none⟩ [] xs []:=⟨g,rfl,by simpa using h⟩
end
section
open Go.RowKit
set_option maxRecDepth 100000 in
theorem digit_any(ad:Addr)(B:Option Addr)(n c d:Nat)(pre ws post ys:List Nat)(w:World)(hr:Win w ad pre ws post)(hrw:W32 ws)(hy:U32s w B n d ys)(hne:∀ b,B=some b->0<n->b.block≠ad.block)(hrl:ws.length=n+1)(hc:n+1<=c)(hn:2<=n)(hs:n<=1073741824)
  (hlt:num ws<num ys*4294967296)(hv1:2147483648<=ys[n - 1]?.getD 0):
  Calls Tryz.prog 265 #[.slice (some ad) (n+1) c,.slice B n d] w fun e w'=>
   ∃ rs,e=.returned (.int .u32 ((num ws / num ys:Nat):Int))/\Win w' ad pre rs post/\W32 rs/\rs.length=n+1/\num rs=num ws % num ys/\w.grownBy w' (some ad.block):=by
 have hV0:0<num ys:=by
  rcases Nat.eq_zero_or_pos (num ys) with h | h
  ·rw [h] at hlt;omega
  ·exact h
 obtain⟨k,hk⟩:∃ k,n=k+2:=⟨n - 2,by omega⟩
 have tU:=num_top3 (l:=ws) (k:=k) (by omega);have tV:=num_top2 (l:=ys) (k:=k) (by rw [hy.len];omega);have lU:=num_take_lt hrw (k:=k) (by omega);have lV:=num_take_lt hy.w32 (k:=k) (by rw [hy.len];omega);rw [show k=n - 2 from by omega,show n - 2+1=n - 1 from by omega] at tU tV;rw [show n - 2+2=n from by omega] at tU;rw [show k=n - 2 from by omega] at lU lV;have cu2:=hr.cell (i:=n) (by omega);have cu1:=hr.cell (i:=n - 1) (by omega);have cu0:=hr.cell (i:=n - 2) (by omega);obtain⟨bd,rfl,cv1⟩:=hy.cell (j:=n - 1) (by omega);have cv0:=hy.cellAt (j:=n - 2) (by omega);have xu2:ws[n]?.getD 0<4294967296:=hrw.get n;have xu1:ws[n - 1]?.getD 0<4294967296:=hrw.get (n - 1);have xu0:ws[n - 2]?.getD 0<4294967296:=hrw.get (n - 2);have xv1:=hy.lt (n - 1);have xv0:=hy.lt (n - 2)
 obtain⟨u2,eu2⟩:∃ z,ws[n]?.getD 0=z:=⟨_,rfl⟩
 obtain⟨u1,eu1⟩:∃ z,ws[n - 1]?.getD 0=z:=⟨_,rfl⟩
 obtain⟨u0,eu0⟩:∃ z,ws[n - 2]?.getD 0=z:=⟨_,rfl⟩
 obtain⟨v1,ev1⟩:∃ z,ys[n - 1]?.getD 0=z:=⟨_,rfl⟩
 obtain⟨v0,ev0⟩:∃ z,ys[n - 2]?.getD 0=z:=⟨_,rfl⟩
 rw [eu2] at tU cu2 xu2;rw [eu1] at tU cu1 xu1;rw [eu0] at tU cu0 xu0;rw [ev1] at tV cv1 xv1 hv1;rw [ev0] at tV cv0 xv0;have EU0:=Hd eu0;have EV1:=Hd ev1;have EV0:=Hd ev0;clear eu2 eu1 eu0 ev1 ev0 hk
 obtain⟨top,htop⟩:∃ t,u2*4294967296+u1=t:=⟨_,rfl⟩
 rw [show u1+4294967296*u2=top from by omega] at tU
 obtain⟨P,hP⟩:∃ P,2^(32*(n - 2))=P:=⟨_,rfl⟩
 obtain⟨lu,hlu⟩:∃ P,num (ws.take (n - 2))=P:=⟨_,rfl⟩
 obtain⟨lv,hlv⟩:∃ P,num (ys.take (n - 2))=P:=⟨_,rfl⟩
 rw [hP,hlu] at tU;rw [hP,hlv] at tV;rw [hP,hlu] at lU;rw [hP,hlv] at lV;clear hP hlu hlv
 obtain⟨U,hU⟩:∃ P,num ws=P:=⟨_,rfl⟩
 obtain⟨V,hV⟩:∃ P,num ys=P:=⟨_,rfl⟩
 rw [hU] at tU hlt ⊢;rw [hV] at tV hlt hV0 ⊢;have KS:=Hd (kn_start tU tV lU xu0 (by omega));have KB:=Hd (fun x hx=>kn_big (x:=x) hlt hx);have KT:=Hd (fun x r ht h=>kn_step (x:=x) (r:=r) tU tV lU ht h);have KE:=Hd (fun x r ht h=>kn_end (x:=x) (r:=r) tU tV lV xv0 (by omega) hlt ht h);have HR:=Hd hr;have HY:=Hd hy;have HRW:=Hd hrw;have HRL:=Hd hrl;have HU:=Hd hU;have HV:=Hd hV;have HLT:=Hd hlt;have HV0:=Hd hV0;have HNE:=Hd hne;have hor:=or_join (i:=32) (x:=u2) (y:=u1) (by omega) (by omega) (by omega);rw [show ((u2*2^32:Nat):Int)=(u2:Int)*4294967296 from by omega,show ((u2*2^32+u1:Nat):Int)=(top:Int) from by omega] at hor
 have htl:top<18446744073709551616:=by omega
 have hdiv:(top:Int) / (v1:Int)=((top / v1:Nat):Int):=by simp
 have hmod:(top:Int) % (v1:Int)=((top % v1:Nat):Int):=by simp
 have hmod2:(top:Int).tmod (v1:Int)=((top % v1:Nat):Int):=by rw [Int.tmod_eq_emod_of_nonneg (by omega)];simp
 obtain⟨x0,hx0⟩:∃ z,top / v1=z:=⟨_,rfl⟩
 obtain⟨r0,hr0⟩:∃ z,top % v1=z:=⟨_,rfl⟩
 have HT0:=Hd (show x0*v1+r0=top from by rw [<- hx0,<- hr0,Nat.mul_comm];exact Nat.div_add_mod _ _)
 have hr0l:r0<v1:=by rw [<- hr0];exact Nat.mod_lt _ (by omega)
 have hx0l:x0<=8589934592:=by
  have h1:x0*2147483648<=x0*v1:=Nat.mul_le_mul_left _ hv1;have h2:=HT0.out
  omega
 rw [hx0] at hdiv KS;rw [hr0] at hmod hmod2;clear tU tV lU lV hlt hr hy hrw hrl hU hV hV0 hne htop hx0 hr0
 have hv0:((v1:Int) == 0)=false:=by simp;omega
 go_enter Tryz.func265,Tryz.ntmps265
 go_wp2_with fail
 go_quiet (fail)
 revert nq;intro nqa
 go_wp2_with fail
 go_quiet (fail)
 go_wp2
 obtain⟨W1,hW1⟩:∃ W,(w.drewN nqa).drewN nq=W:=⟨_,rfl⟩
 have G1:=Hd (show w.grownBy W1 (some ad.block) from by rw [<- hW1];exact⟨rfl,rfl,rfl,Nat.le_refl _,fun _ _ _=>rfl⟩);have R1:=Hd (show Win W1 ad pre ws post from by rw [<- hW1];exact HR.out);rw [hW1];clear hW1 HR cu2 cu1 cu0 cv1 cv0 hor hdiv hmod hmod2 xu2 xu1
 go_loopw [7,8] (fun xv rv wr=>∃ x r:Nat,xv=.int .u64 x/\rv=.int .u64 r/\U<(x+1)*V/\x*v1+r=top/\x<=8589934592/\r<8589934592/\Win wr ad pre ws post/\w.grownBy wr (some ad.block)) (fun xv _ _=>(intOf xv).toNat)
 case atStart=>exact⟨x0,r0,rfl,rfl,KS.out,HT0.out,hx0l,by omega,R1.out,G1.out⟩
 case round=>
  obtain⟨x,r,rfl,rfl,hx,ht,hxl,hrl,hr,hg⟩:=hrel;clear R1 G1 KS HT0 hx0l hr0l;have R:=Hd hr;have G:=Hd hg;have HX:=Hd hx;have HT:=Hd ht
  obtain⟨cc,hcc⟩:∃ cc,decide (r<4294967296/\(4294967296<=x\/r*4294967296+u0<x*v0))=cc:=⟨_,rfl⟩
  have CC:=Hd hcc;clear hr hg hx ht hcc
  go_upto_region 4 with fail
  go_cut [74] from 47 to 84 (fun s74 wx=>s74=.bool cc/\Win wx ad pre ws post/\w.grownBy wx (some ad.block))
  case first=>
   have HB2:=Hd (HY.out.grown G.out HNE.out)
   by_cases h1:r<4294967296
   ·have g1:((r:Int) / 4294967296 == 0)=true:=by simp;omega
    by_cases h2:4294967296<=x
    ·have g2:((x:Int) / 4294967296 == 0)=false:=by simp;omega
     have g3:((x:Int) / 4294967296 != 0)=true:=by simp;omega
     obtain rfl:cc=true:=by rw [<- CC.out];simp [h1,h2]
     go_wp2_with fail;refine wp_region_held_drew (S:=fun W'=>Win W' ad pre ws post/\U32s W' (some bd) n d ys/\w.grownBy W' (some ad.block)) (by kernel_rfl) (by exact⟨R.out.drewN 1,HB2.out.drew,G.out.drawn 1⟩) (fun hHeld=>?_);refine tks 0 ?_;refine tks 1 ?_;refine tks 2 ?_;refine tks 3 ?_;refine tks 4 ?_;refine tks 5 ?_;refine tks 6 ?_;refine tks 7 ?_;refine tkns 8 ?_;refine tkns 9 ?_;refine tkns 10 ?_;refine tkns 11 ?_;refine tkns 12 ?_;refine tkns 13 ?_;refine tkns 14 ?_;refine tkns 15 ?_;refine tkns 16 ?_;refine tkns 17 ?_;refine tkns 18 ?_;refine tkns 19 ?_;refine tkns 20 ?_;refine tkns 21 ?_;refine tkns 22 ?_;refine tkns 23 ?_;refine tkns 24 ?_;refine tkns 25 ?_;refine tks 26 ?_;refine tks 27 ?_;refine wpAnyH_done (by kernel_rfl) ?_ _;go_wp2_with fail
     go_meet
     case rel=>exact⟨rfl,hHeld.1,hHeld.2.2⟩
    ·have g2:((x:Int) / 4294967296 == 0)=true:=by simp;omega
     have g3:((x:Int) / 4294967296 != 0)=false:=by simp;omega
     have hm1:x*v0<=4294967295*4294967295:=Nat.mul_le_mul (by omega) (by omega)
     obtain⟨z,hz⟩:∃ z,x*v0=z:=⟨_,rfl⟩
     have e1:(x:Int)*(v0:Int)=(z:Int):=by rw [<- hz];simp
     have hor:=or_join (i:=32) (x:=r) (y:=u0) (by omega) (by omega) (by omega);rw [show ((r*2^32:Nat):Int)=(r:Int)*4294967296 from by omega,show ((r*2^32+u0:Nat):Int)=(r:Int)*4294967296+(u0:Int) from by omega] at hor
     have hc3:decide ((r:Int)*4294967296+(u0:Int)<(z:Int))=cc:=by
      rw [<- CC.out,hz];have:¬ 4294967296<=x:=h2
      simp only [h1,this,true_and,false_or]
      congr 1
      apply propext
      omega
     rw [hz] at hm1;clear hz
     have hor1:IntKind.u64.wrap ((r:Int)*4294967296)=(r:Int)*4294967296:=by rw [IntKind.wrap_u64];omega
     have hz1:IntKind.u64.wrap (z:Int)=(z:Int):=by rw [IntKind.wrap_u64];omega
     have hu1:IntKind.u64.wrap (u0:Int)=(u0:Int):=by rw [IntKind.wrap_u64];omega
     have hv2:IntKind.u64.wrap (v0:Int)=(v0:Int):=by rw [IntKind.wrap_u64];omega
     obtain⟨m2,hm2⟩:∃ m,n - 2=m:=⟨_,rfl⟩
     have hw:IntKind.i64.wrap ((n:Int) - 2)=(m2:Int):=by rw [IntKind.wrap_i64];omega
     have hb2:(m2:Int)<(n:Int):=by omega
     have hb3:(m2:Int)<(n:Int)+1:=by omega
     have HM2:=Hd hm2;clear hm2;go_wp2_with fail;refine wp_region_held_drew (S:=fun W'=>Win W' ad pre ws post/\U32s W' (some bd) n d ys/\w.grownBy W' (some ad.block)) (by kernel_rfl) (by exact⟨R.out.drewN 1,HB2.out.drew,G.out.drawn 1⟩) (fun hHeld=>?_);refine tks 0 ?_;refine tks 1 ?_;refine tks 2 ?_;refine tks 3 ?_;refine tks 4 ?_;refine tks 5 ?_;refine tks 6 ?_;refine tks 7 ?_;refine tks 8 ?_;refine tks 9 ?_;refine tks 10 ?_;refine tks 11 ?_;refine tks 12 ?_;refine tks 13 ?_ (hv:=by intro W2 hSw;have cu0:=hSw.1.cell (i:=n - 2) (by have:=HRL.out;omega);rw [EU0.out,HM2.out] at cu0;have cv0:=hSw.2.1.cellAt (j:=n - 2) (by omega);rw [EV0.out,HM2.out] at cv0;go_simp;(try with_reducible rfl));refine tks 14 ?_;refine tks 15 ?_;refine tks 16 ?_;refine tks 17 ?_;refine tks 18 ?_;refine tks 19 ?_;refine tks 20 ?_;refine tks 21 ?_;refine tks 22 ?_ (hv:=by intro W2 hSw;have cu0:=hSw.1.cell (i:=n - 2) (by have:=HRL.out;omega);rw [EU0.out,HM2.out] at cu0;have cv0:=hSw.2.1.cellAt (j:=n - 2) (by omega);rw [EV0.out,HM2.out] at cv0;go_simp;(try with_reducible rfl));refine tks 23 ?_;refine tks 24 ?_;refine tks 25 ?_;refine tks 26 ?_;refine tks 27 ?_;refine wpAnyH_done (by kernel_rfl) ?_ _;go_wp2_with fail
     go_meet
     case rel=>exact⟨rfl,hHeld.1,hHeld.2.2⟩
   ·have g1:((r:Int) / 4294967296 == 0)=false:=by simp;omega
    obtain rfl:cc=false:=by rw [<- CC.out];simp [h1]
    go_wp2_with fail;refine wp_region_held_drew (S:=fun W'=>Win W' ad pre ws post/\U32s W' (some bd) n d ys/\w.grownBy W' (some ad.block)) (by kernel_rfl) (by exact⟨R.out.drewN 1,HB2.out.drew,G.out.drawn 1⟩) (fun hHeld=>?_);refine tks 0 ?_;refine tks 1 ?_;refine tks 2 ?_;refine tks 3 ?_;refine tkns 4 ?_;refine tkns 5 ?_;refine tkns 6 ?_;refine tkns 7 ?_;refine tkns 8 ?_;refine tkns 9 ?_;refine tkns 10 ?_;refine tkns 11 ?_;refine tkns 12 ?_;refine tkns 13 ?_;refine tkns 14 ?_;refine tkns 15 ?_;refine tkns 16 ?_;refine tkns 17 ?_;refine tkns 18 ?_;refine tkns 19 ?_;refine tkns 20 ?_;refine tkns 21 ?_;refine tkns 22 ?_;refine tkns 23 ?_;refine tkns 24 ?_;refine tkns 25 ?_;refine tkns 26 ?_;refine tks 27 ?_;refine wpAnyH_done (by kernel_rfl) ?_ _;go_wp2_with fail
    go_meet
    case rel=>exact⟨rfl,hHeld.1,hHeld.2.2⟩
  case rest=>
   obtain⟨rfl,hr,hg⟩:=hcut;clear R G;have R:=Hd hr;have G:=Hd hg;clear hr hg
   cases cc
   ·have hE:=KE.out x r HT.out (by
     have hc:=CC.out
     simp only [decide_eq_false_iff_not,not_and,Nat.not_le,not_or,Nat.not_lt] at hc
     by_cases h1:r<4294967296
     ·exact .inr (hc h1)
     ·exact .inl (by omega))
    have hx32:x<4294967296:=hE.1;have HXV:=Hd hE.2;clear hE CC HT KT KB KE hxl hrl EU0 EV1 EV0;go_wp2
    go_loopw [9,10,11,12,87] (fun bv cv _ _ iv wr=>∃ (i c b:Nat) (cur:List Nat),iv=.int .i64 i/\cv=.int .u64 c/\bv=.int .u32 b/\i<=n/\SubInv ws ys cur x i c b/\Win wr ad pre cur post/\w.grownBy wr (some ad.block)) (fun _ _ _ _ iv _=>n - (intOf iv).toNat)
    case atStart=>exact⟨0,0,0,ws,rfl,rfl,rfl,Nat.zero_le _,SubInv.start _ HRW.out,R.out,G.out⟩
    case round=>
     obtain⟨i,c,b,cur,rfl,rfl,rfl,hi,hinv,harr,hgr⟩:=hrel;clear R G;have HI:=Hd hinv;have R:=Hd harr;have G:=Hd hgr;have hc32:c<4294967296:=hinv.2.2.2.1;have hb1:b<=1:=hinv.2.2.2.2.1
     have hcl:cur.length=n+1:=by rw [hinv.2.1,HRL.out]
     have hu1:cur[i]?.getD 0<4294967296:=hinv.1.get i;have hcu:=harr.cell (i:=i) (by omega);rw [hinv.2.2.1 i (Nat.le_refl _)] at hcu hu1;have hf:=harr.frozen i
     obtain⟨u,huu⟩:∃ z,ws[i]?.getD 0=z:=⟨_,rfl⟩
     rw [huu] at hcu hu1;have HUU:=Hd huu;have HCL:=Hd hcl;clear hinv harr hgr huu hcl
     by_cases hlt:i<n
     ·have hy:=(HY.out.grown G.out HNE.out).cellAt (j:=i) hlt;have hy1:ys[i]?.getD 0<4294967296:=HY.out.lt i
      obtain⟨y,hyy⟩:∃ y,ys[i]?.getD 0=y:=⟨_,rfl⟩
      rw [hyy] at hy hy1;have HYY:=Hd hyy;clear hyy;have hz1:y*x<=4294967295*4294967295:=Nat.mul_le_mul (by omega) (by omega)
      obtain⟨z,hz⟩:∃ z,y*x=z:=⟨_,rfl⟩
      rw [hz] at hz1
      have e1:(x:Int)*(y:Int)=(z:Int):=by rw [<- hz,Nat.mul_comm];simp
      have HZ:=Hd hz;clear hz
      obtain⟨t,ht⟩:∃ t,c+z=t:=⟨_,rfl⟩
      obtain⟨D,hD⟩:∃ D,(u+8589934592 - t % 4294967296 - b) % 4294967296=D:=⟨_,rfl⟩
      obtain⟨bo,hbo⟩:∃ D,(if u<t % 4294967296+b then 1 else 0)=D:=⟨_,rfl⟩
      have hS:=fun W=>sub32_any u (t % 4294967296) b W hu1 (by omega) hb1;rw [hD,hbo] at hS
      have hbo1:bo<=1:=by rw [<- hbo];split<;>omega
      have hD1:D<4294967296:=by omega
      have HEQ:=Hd (show D+(t % 4294967296+b)=u+4294967296*bo from by rw [<- hbo];split<;>omega)
      obtain⟨tl,htl2⟩:∃ z,t % 4294967296=z:=⟨_,rfl⟩
      obtain⟨th,hth⟩:∃ z,t / 4294967296=z:=⟨_,rfl⟩
      rw [htl2] at hS HEQ;have HS:=Hd hS;have HT':=Hd ht;have HTL:=Hd htl2;have HTH:=Hd hth
      have ct:(c:Int)+(z:Int)=(t:Int):=by omega
      have cl:(t:Int) % 4294967296=(tl:Int):=by omega
      have ch:(t:Int) / 4294967296=(th:Int):=by omega
      have tb:t<18446744073709551616:=by omega
      have tlb:tl<4294967296:=by omega
      have thb:th<4294967296:=by omega
      clear hD hbo hS ht htl2 hth;go_wp2_with fail;refine cy (HS.out _) ?_;go_wp2
      go_roundw
      case rel=>
       refine⟨i+1,th,bo,cur.set i D,by go_num,rfl,rfl,by omega,?_,R.out.set (by have:=HCL.out;omega) _,grown_setw G.out _ _⟩;rw [<- HTH.out]
       exact HI.out.step (by rw [HRL.out];omega) hx32 HY.out.w32 (by rw [HYY.out,HZ.out,HT'.out]) hD1 hbo1 (by rw [HTL.out,HUU.out];exact HEQ.out)
      case measure=>simp [intOf];omega
     ·obtain rfl:i=n:=by omega
      obtain⟨D,hD⟩:∃ D,(u+8589934592 - c - b) % 4294967296=D:=⟨_,rfl⟩
      obtain⟨bo,hbo⟩:∃ D,(if u<c+b then 1 else 0)=D:=⟨_,rfl⟩
      have hS:=fun W=>sub32_any u c b W hu1 (by omega) hb1;rw [hD,hbo] at hS
      have hbo1:bo<=1:=by rw [<- hbo];split<;>omega
      have hD1:D<4294967296:=by omega
      have HEQ:=Hd (show D+(c % 4294967296+b)=u+4294967296*bo from by rw [<- hbo];split<;>omega);have HS:=Hd hS;have HC32:=Hd hc32;clear hD hbo hS hlt hi;go_wp2_with fail;refine cy (HS.out _) ?_;have hst:=HI.out.step (d:=D) (b':=bo) (by rw [HRL.out];omega) hx32 HY.out.w32 (t:=c) (by rw [List.getElem?_eq_none (by rw [HY.out.len];omega)];simp) hD1 hbo1 (by rw [HUU.out];exact HEQ.out)
      have hth0:c / 4294967296=0:=by have:=HC32.out;omega
      have hlast:=hst.last (by rw [HRL.out]) HRW.out (by rw [HY.out.len];omega) hth0;rw [HU.out,HV.out] at hlast;have hmw:W32 (cur.set i D):=hst.1
      have hml:(cur.set i D).length=i+1:=by simp [HCL.out]
      have R2:=Hd (R.out.set (i:=i) (by have:=HCL.out;omega) D);have G2:=Hd (grown_setw G.out i (wd D))
      obtain⟨ms,hms⟩:∃ m,cur.set i D=m:=⟨_,rfl⟩
      rw [hms] at hlast hmw hml R2;have HLAST:=Hd hlast;have HMW:=Hd hmw;have HML:=Hd hml;clear hst hth0 hlast hmw hml hms R G HI HEQ HS HUU HCL hc32 HC32
      rcases Nat.eq_zero_or_pos bo with h0 | h0
      ·subst h0;go_wp2;have hl:=HLAST.out;have hx:=HX.out;rw [Nat.mul_zero,Nat.add_zero] at hl;rw [Nat.add_mul,Nat.one_mul] at hx;have hk:=kn_ok' hl (by omega)
       go_ret
       exact⟨ms,ret_int (show ((x:Nat):Int)=((U / V:Nat):Int) from by rw [hk.1]),R2.out,HMW.out,HML.out,by rw [hk.2],G2.out⟩
      ·obtain rfl:bo=1:=by omega
       have HVL:=Hd (show V<2^(32*(i+1)) from by
        have h:=num_lt HY.out.w32;rw [HY.out.len,HV.out] at h
        exact Nat.lt_of_lt_of_le h (Nat.pow_le_pow_right (by omega) (by omega)))
       have HML2:=Hd (show num ms<2^(32*(i+1)) from by
        have h:=num_lt HMW.out
        rwa [HML.out] at h)
       go_wp2
       go_loopw [13,14,15,135] (fun ov _ _ iv wr=>∃ (t o:Nat) (cur:List Nat),iv=.int .i64 t/\ov=.int .u32 o/\t<=i/\GiveInv ms ys cur t o/\Win wr ad pre cur post/\w.grownBy wr (some ad.block)) (fun _ _ _ iv _=>i - (intOf iv).toNat)
       case atStart=>exact⟨0,0,ms,rfl,rfl,Nat.zero_le _,GiveInv.start _ _,R2.out,G2.out⟩
       case round=>
        obtain⟨t,o,cur2,rfl,rfl,hi2,hinv2,harr2,hgr2⟩:=hrel;clear R2 G2 hf hcu;have HI2:=Hd hinv2;have R3:=Hd harr2;have G3:=Hd hgr2;have ho1:=hinv2.carry
        have hcl2:cur2.length=i+1:=by rw [hinv2.len (by rw [HML.out];omega),HML.out]
        have hm1:ms[t]?.getD 0<4294967296:=HMW.out.get t;have hcm:=harr2.cell (i:=t) (by omega);rw [hinv2.at] at hcm;have hf2:=harr2.frozen t
        obtain⟨m,hmm⟩:∃ z,ms[t]?.getD 0=z:=⟨_,rfl⟩
        rw [hmm] at hcm hm1;have HMM:=Hd hmm;have HCL2:=Hd hcl2;clear hinv2 harr2 hgr2 hmm hcl2
        by_cases hlt2:t<i
        ·have hy:=(HY.out.grown G3.out HNE.out).cellAt (j:=t) hlt2;have hy1:ys[t]?.getD 0<4294967296:=HY.out.lt t
         obtain⟨y,hyy⟩:∃ y,ys[t]?.getD 0=y:=⟨_,rfl⟩
         rw [hyy] at hy hy1;have HYY:=Hd hyy;clear hyy;go_wp2
         go_roundw
         case rel=>
          refine⟨t+1,(o+m+y) / 4294967296,cur2.set t ((o+m+y) % 4294967296),by go_num,by go_num,by omega,HI2.out.step (by rw [HML.out];omega) HMW.out HY.out.w32 (by rw [HMM.out,HYY.out]),?_,grown_setw G3.out _ _⟩;rw [show ((m:Int)+(y:Int)+(o:Int)) % 4294967296=(((o+m+y) % 4294967296:Nat):Int) from by omega]
          exact R3.out.set (by have:=HCL2.out;omega) _
         case measure=>simp [intOf];omega
        ·obtain rfl:t=i:=by omega
         obtain⟨e,he⟩:∃ e,(m+o) % 4294967296=e:=⟨_,rfl⟩
         have he2:((m:Int)+(o:Int)) % 4294967296=(e:Int):=by omega
         have he1:e<4294967296:=by omega
         have hx0:0<x:=by
          rcases Nat.eq_zero_or_pos x with h | h
          ·have h1:=HLAST.out;have h2:=HML2.out;subst h
           omega
          ·exact h
         have hle:num ms+num ys<2^(32*(t+1))*2:=by rw [HV.out];have:=HVL.out;have:=HML2.out;omega
         have hge:2^(32*(t+1))<=num ms+num ys:=by rw [HV.out];have:=HLAST.out;have:=HXV.out;omega
         have hdn:=HI2.out.done (d:=e) HML.out (by rw [HY.out.len];omega) (by rw [HMM.out];exact he.symm) HMW.out hle hge;have R4:=Hd (R3.out.set (i:=t) (by have:=HCL2.out;omega) e);have G4:=Hd (grown_setw G3.out t (wd e))
         obtain⟨fs,hfs⟩:∃ l,cur2.set t e=l:=⟨_,rfl⟩
         rw [hfs] at hdn R4;rw [HV.out] at hdn;have HDN:=Hd hdn
         have hxe:((x:Int) - 1)=((x - 1:Nat):Int):=by omega
         have hxe2:((x - 1:Nat):Int)<4294967296:=by omega
         clear hdn hfs hle hge HI2 R3 G3 HMM HCL2 he hlt2 hi2 HVL;go_wp2;have hd:=HDN.out;have hl:=HLAST.out;have hm2:=HML2.out
         have hx1:(x - 1)*V+V=x*V:=by rw [<- Nat.succ_mul];congr 1;omega
         have hk:=kn_ok' (q:=x - 1) (R:=num fs) (U:=U) (V:=V) (by omega) (by omega)
         go_ret
         exact⟨fs,ret_int (show ((x - 1:Nat):Int)=((U / V:Nat):Int) from by rw [hk.1]),R4.out,hd.2.1,hd.2.2,by rw [hk.2],G4.out⟩
   ·have hc:=CC.out
    simp only [decide_eq_true_eq] at hc
    have h1:r<4294967296:=hc.1
    have h2:0<x/\U<(x - 1+1)*V:=by
     rcases hc.2 with h | h
     ·exact⟨by omega,KB.out x h⟩
     ·exact KT.out x r HT.out h
    have h3:0<x:=h2.1;have HX2:=Hd h2.2;have hT:=HT.out;have HT2:=Hd (show (x - 1)*v1+(r+v1)=top from by rw [Nat.sub_mul];have:v1<=x*v1:=Nat.le_mul_of_pos_left _ h3;omega);have cv1:=(HY.out.grown G.out HNE.out).cellAt (j:=n - 1) (by omega);rw [EV1.out] at cv1;clear hc h2 hT;go_wp2
    go_roundw
    case rel=>exact⟨x - 1,r+v1,by go_num,by go_num,HX2.out,HT2.out,by omega,by omega,R.out,G.out⟩
    case measure=>simp [intOf];omega
end
section
open Go.RowKit
theorem back_win(ad:Addr)(n c s:Nat)(pre rs post:List Nat)(w:World)(hr:Win w ad pre rs post)(hc:n<=c)(hrw:W32 rs)(hrl:rs.length=n)(hs:s<32)(hn:n<=1073741824):
  Calls Tryz.prog 266 #[.slice (some ad) n c,.int .i64 (s:Int)] w fun e w'=>
   ∃ k,e=.returned (.slice (some ad) k k)/\U32s w' (some ad) k k (digs (num rs / 2^s))/\w.grownBy w' (some ad.block):=by
 have HR:=Hd hr;have HRW:=Hd hrw;have HRL:=Hd hrl;clear hr hrw hrl
 go_enter Tryz.func266,Tryz.ntmps266
 go_wp2
 go_loopw [5,6,9] (fun _ _ iv wr=>∃ (i:Nat) (cur:List Nat),iv=.int .i64 i/\i<=n/\BackArr rs cur s i/\Win wr ad pre cur post/\w.grownBy wr (some ad.block)) (fun _ _ iv _=>n - (intOf iv).toNat)
 case atStart=>exact⟨0,rs,rfl,Nat.zero_le _,BackArr.start _ _,HR.out,World.grownBy.refl w _⟩
 case round=>
  obtain⟨i,cur,rfl,hi,hinv,harr,hgr⟩:=hrel;have HI:=Hd hinv;have HA:=Hd harr;have HG:=Hd hgr;clear hinv harr hgr
  by_cases hlt:i<n
  ·have hf:=HA.out.frozen i
   have hll:cur.length=n:=by rw [HI.out.len (by rw [HRL.out];exact hi),HRL.out]
   have hcc:=HA.out.cell (i:=i) (by rw [hll];exact hlt);rw [HI.out.at (Nat.le_refl _)] at hcc;have hx1:=HRW.out.get i
   obtain⟨x,hxx⟩:∃ r,rs[i]?.getD 0=r:=⟨_,rfl⟩
   rw [hxx] at hcc hx1;have HXX:=Hd hxx;clear hxx
   by_cases hl2:i+1<n
   ·have hc2:=HA.out.cell (i:=i+1) (by rw [hll];exact hl2);rw [HI.out.at (by omega)] at hc2;rw [show ad.add (i+1)=⟨ad.block,ad.off+(i+1),none⟩ from by unfold Addr.add;simp] at hc2;have hy1:=HRW.out.get (i+1)
    obtain⟨y,hyy⟩:∃ r,rs[i+1]?.getD 0=r:=⟨_,rfl⟩
    rw [hyy] at hc2 hy1;have HYY:=Hd hyy;have HLL:=Hd hll;clear hyy hll;have hor:=or_join' (i:=32) (x:=y) (y:=x) (by omega) (by omega) (by omega);rw [show (2:Nat)^32=4294967296 from rfl,show ((y*4294967296:Nat):Int)=(y:Int)*4294967296 from by omega] at hor
    obtain⟨v,hv⟩:∃ v,x+y*4294967296=v:=⟨_,rfl⟩
    rw [hv] at hor
    have hsh:(v:Int) / (2:Int)^s=((v / 2^s:Nat):Int):=by rw [Int.natCast_ediv,Int.natCast_pow];rfl
    obtain⟨z,hz⟩:∃ z,v / 2^s=z:=⟨_,rfl⟩
    rw [hz] at hsh;have HV:=Hd hv;have HZ:=Hd hz
    have hv1:v<18446744073709551616:=by omega
    clear hv hz
    have i1:((i:Int)+1).toNat=i+1:=by omega
    go_wp2
    go_roundw
    case rel=>
     refine⟨i+1,cur.set i (z % 4294967296),by go_num,by omega,?_,?_,grown_setw HG.out _ _⟩
     ·rw [<- HZ.out]
      exact HI.out.step (by rw [HRL.out];exact hlt) HRW.out hs (by rw [HXX.out,HYY.out,<- HV.out];omega)
     ·exact HA.out.set (by rw [HLL.out];exact hlt) (z % 4294967296)
    case measure=>simp [intOf];omega
   ·have HYY:=Hd (show rs[i+1]?.getD 0=0 by rw [List.getElem?_eq_none (by rw [HRL.out];omega)];rfl)
    have hsh:(x:Int) / (2:Int)^s=((x / 2^s:Nat):Int):=by rw [Int.natCast_ediv,Int.natCast_pow];rfl
    obtain⟨z,hz⟩:∃ z,x / 2^s=z:=⟨_,rfl⟩
    rw [hz] at hsh;have HZ:=Hd hz;have HLL:=Hd hll;clear hz hll;go_wp2
    go_roundw
    case rel=>
     refine⟨i+1,cur.set i (z % 4294967296),by go_num,by omega,?_,?_,grown_setw HG.out _ _⟩
     ·rw [<- HZ.out]
      exact HI.out.step (by rw [HRL.out];exact hlt) HRW.out hs (by rw [HXX.out,HYY.out];omega)
     ·exact HA.out.set (by rw [HLL.out];exact hlt) (z % 4294967296)
    case measure=>simp [intOf];omega
  ·obtain rfl:i=n:=by omega
   have hi1:=HI.out;have hw1:=hi1.w32 HRW.out
   have hl1:cur.length=i:=by rw [hi1.len (by rw [HRL.out];exact Nat.le_refl _),HRL.out]
   have hu:=HA.out.u32s hw1 hl1 (by omega) hc
   have hd:num cur=num rs / 2^s:=by
    have hl:=HRL.out;subst hl
    exact hi1.done HRW.out
   have HC:=Hd (cut_any _ _ _ _ _ hu);have HD:=Hd hu.cutd;rw [hd] at HD
   obtain⟨kk,hkk⟩:∃ kk,wlen cur=kk:=⟨_,rfl⟩
   rw [hkk] at HC HD;clear hkk hu hd hi1 hw1 hl1;go_wp2_with fail;refine HC.out.mono ?_;rintro e w' ⟨rfl,rfl⟩;go_wp2
   go_ret
   exact⟨kk,rfl,HD.out,HG.out⟩
theorem back_any(g n s:Nat)(rs:List Nat)(w:World)(hr:Arr w g rs)(hrw:W32 rs)(hrl:rs.length=n)(hs:s<32)(hn:n<=1073741824):
  Calls Tryz.prog 266 #[.slice (some ⟨g,0,none⟩) n n,.int .i64 (s:Int)] w fun e w'=>
   ∃ k,e=.returned (.slice (some ⟨g,0,none⟩) k k)/\U32s w' (some ⟨g,0,none⟩) k k (digs (num rs / 2^s))/\w.grownBy w' (some g):=
 back_win ⟨g,0,none⟩ n n s [] rs [] w hr.win (Nat.le_refl _) hrw hrl hs hn
end
section
open Go.RowKit
theorem nquo_any(A B:Option Addr)(n c m d:Nat)(xs ys:List Nat)(w:World)(hx:U32s w A n c xs)(hy:U32s w B m d ys)(hl1:wlen xs<=16384)(hl2:wlen ys<=16384)(h0:0<num ys):
  Calls Tryz.prog 240 #[.slice A n c,.slice B m d] w (NewQR w (num xs / num ys) (num xs % num ys)):=by
 have HQ1:=Hd (words_q A n c xs w hx);have HQ2:=Hd (words_q B m d ys w hy);have n1:=hx.small;have n2:=hy.small;have cc1:=hx.cap;have cc2:=hy.cap;have l1:=wlen_le xs;have l2:=wlen_le ys;rw [hx.len] at l1;rw [hy.len] at l2;have e1:=num_trim xs;have e2:=num_trim ys;rw [trim_eq_take] at e1 e2;have t1:=wlen_spec ys;have HX0:=hx.take l1;have HY0:=hy.take l2;have hyt:=trim_eq_digs hy.w32;rw [trim_eq_take] at hyt;have hxt:=trim_eq_digs hx.w32;rw [trim_eq_take] at hxt;have hp0:=mt wlen_eq_zero.1 (show ¬ num ys=0 by omega)
 obtain⟨p,hp⟩:∃ p,wlen xs=p:=⟨_,rfl⟩
 obtain⟨q,hq⟩:∃ p,wlen ys=p:=⟨_,rfl⟩
 rw [hp] at HQ1 l1 hl1 e1 HX0 hxt;rw [hq] at HQ2 l2 hl2 e2 HY0 hyt hp0;rw [hq] at t1
 have hyq:(ys.take q)[q - 1]?.getD 0≠0:=by
  rw [List.getElem?_take_of_lt (by omega)]
  rcases t1.2 with h | h
  ·omega
  ·exact h
 obtain⟨us,hus⟩:∃ l,xs.take p=l:=⟨_,rfl⟩
 obtain⟨vs,hvs⟩:∃ l,ys.take q=l:=⟨_,rfl⟩
 rw [hus] at e1 HX0 hxt;rw [hvs] at e2 HY0 hyt hyq
 have wu:wlen us=p:=by rw [hxt,wlen_digs,<- hxt,HX0.len]
 have wv:wlen vs=q:=by rw [hyt,wlen_digs,<- hyt,HY0.len]
 rw [<- e1] at hxt;have HXT:=Hd hxt;rw [<- e1,<- e2];rw [<- e2] at h0;have HX:=Hd HX0;have HY:=Hd HY0;have HV0:=Hd h0;have HYQ:=Hd hyq;have WU:=Hd wu;have WV:=Hd wv
 have hq0:0<q:=by omega
 clear hx hy hp hq e1 e2 HX0 HY0 hus hvs h0 hyq t1 hyt hxt hp0 wu wv
 have hz0:((q:Int) == 0)=false:=by simp;omega
 go_enter Tryz.func240,Tryz.ntmps240
 go_wp2_with fail
 go_quiet ((first | (go_at_call_of 203 (Value.slice A n c);exact Calls.quiet_of_same (HQ1.out _)) | (go_at_call_of 203 (Value.slice B m d);exact Calls.quiet_of_same (HQ2.out _))))
 obtain⟨w1,hw1⟩:∃ w1,w.drewN nq=w1:=⟨_,rfl⟩
 have HB1:=Hd (show Below w.heap.size w w1 from by rw [<- hw1];exact below_drewN (Below.refl _ _) nq);have HX1:=Hd (show U32s w1 A p c us from by rw [<- hw1];exact HX.out.keep (Nat.le_refl _) fun _ _ _=>rfl);have HY1:=Hd (show U32s w1 B q d vs from by rw [<- hw1];exact HY.out.keep (Nat.le_refl _) fun _ _ _=>rfl);rw [hw1];clear hw1 HQ1 HQ2 HX HY
 obtain⟨w2,hw2⟩:∃ w2,w1.alloc (.cells #[.slice A p c,.slice B q d] 40)=w2:=⟨_,rfl⟩
 have hb2:Below w1.heap.size w1 w2:=by rw [<- hw2];exact below_alloc w1 _
 have hx2:=HX1.out.below hb2;have hy2:=HY1.out.below hb2;have HLG:=Hd (long_two w1.heap.size A p c us B q d vs w2 hx2 (by rw [<- hw2];simp [World.cell?_alloc_new]) (by rw [WU.out];exact hl1) hy2 (by rw [<- hw2];simp [World.cell?_alloc_new]) (by rw [WV.out];exact hl2));have HB2:=Hd (HB1.out.trans (hb2.mono HB1.out.size));have HX2:=Hd hx2;have HY2:=Hd hy2;have HW2:=Hd hw2;clear hb2 hx2 hy2 hw2 HX1 HY1 HB1;go_wp2_with fail;rw [HW2.out];refine HLG.out.mono ?_;rintro e w' ⟨rfl,rfl⟩;clear HLG HW2;have HC:=Hd (ncmp_any A B p c q d us vs w2 HX2.out HY2.out)
 obtain⟨cc,ecc⟩:∃ z,cmp3 (num us) (num vs)=z:=⟨_,rfl⟩
 rw [ecc] at HC;have ECC:=Hd ecc;clear ecc;go_wp2_with fail;refine HC.out.mono ?_;rintro e w3 ⟨rfl,k,hk⟩
 have hb3:Below w2.heap.size w2 w3:=by rw [hk];exact below_drewN (Below.refl _ _) k
 have HB3:=Hd (HB2.out.trans (hb3.mono HB2.out.size));have HX3:=Hd (HX2.out.below hb3);have HY3:=Hd (HY2.out.below hb3);clear hb3 hk HC HX2 HY2 HB2 w2
 by_cases hneg:cc<0
 ·have hlt:=ECC.out;have hlt2:num us<num vs:=cmp3_neg.1 (by rw [hlt];exact hneg);have HN:=Hd (nnorm_any A p c us w3 HX3.out);have D1:=Hd (Nat.div_eq_of_lt hlt2);have D2:=Hd (Nat.mod_eq_of_lt hlt2);clear hlt hlt2 ECC;go_wp2_with fail;refine HN.out.mono ?_;rintro e w4 ⟨g,nn,rfl,hl,ha,hg,hb4⟩;have HU:=Hd (ha.u32s' (W32.digs _) hl (by rw [<- HXT.out,HX3.out.len] at hl;omega));have HB4:=Hd (HB3.out.trans (hb4.mono HB3.out.size));clear hl ha hg hb4 HB3 HX3 HY3 HN;go_wp2
  go_ret3
  exact⟨none,0,0,_,nn,nn,rfl,by rw [D1.out,digs_zero];exact U32s.nil _ _ _,by rw [D2.out];exact HU.out,HB4.out⟩
 ·have hge:num vs<=num us:=cmp3_nonneg.1 (by have:=ECC.out;omega);have HGE:=Hd hge;clear ECC hge
  by_cases hq1:q=1
  ·subst hq1;obtain⟨ad,rfl,hc⟩:=HY3.out.cell (j:=0) (by omega);have hy1:=HY3.out.lt 0;have hyy:=HYQ.out
   have hval:num vs=vs[0]?.getD 0:=by
    have:=num_take_next vs 0;rw [List.take_of_length_le (by rw [HY3.out.len];omega)] at this;rw [this];simp [num]
   simp only [Nat.sub_self] at hyy
   obtain⟨y,ey⟩:∃ y,vs[0]?.getD 0=y:=⟨_,rfl⟩
   rw [ey] at hc hy1 hyy hval;rw [show ad.add 0=ad from by simp [Addr.add]] at hc;have HO:=Hd (one_any A p c y us w3 HX3.out hy1 (by omega) (by omega))
   obtain⟨Q,hQ⟩:∃ z,num us / y=z:=⟨_,rfl⟩
   obtain⟨R,hR⟩:∃ z,num us % y=z:=⟨_,rfl⟩
   rw [hQ,hR] at HO;have D1:=Hd (show num us / num vs=Q from by rw [hval,hQ]);have D2:=Hd (show num us % num vs=R from by rw [hval,hR]);clear hval ey hyy hQ hR HGE HX3 HY3 HV0 HYQ WU WV hz0;go_wp2_with fail;refine HO.out.mono ?_;rintro e w4 ⟨A2,n3,c3,B2,m3,d3,rfl,hu,hv,hb4⟩;have HU:=Hd hu;have HV:=Hd hv;have HB4:=Hd (HB3.out.trans (hb4.mono HB3.out.size));clear hu hv hb4 HB3 HO;go_wp2
   go_ret3
   exact⟨_,n3,c3,_,m3,d3,rfl,by rw [D1.out];exact HU.out,by rw [D2.out];exact HV.out,HB4.out⟩
  ·have hq2:2<=q:=by omega
   obtain⟨ad,rfl,hc⟩:=HY3.out.cell (j:=q - 1) (by omega);have hy1:=HY3.out.lt (q - 1);have hyy:=HYQ.out
   obtain⟨y,ey⟩:∃ y,vs[q - 1]?.getD 0=y:=⟨_,rfl⟩
   rw [ey] at hc hy1 hyy
   obtain⟨s,es⟩:∃ s,32 - blen y=s:=⟨_,rfl⟩
   have hts:=top_set (n:=q - 1) (s:=s) (y:=y) HY3.out.w32 (by rw [HY3.out.len];omega) ey es.symm (by omega);rw [show q - 1+1=q from by omega] at hts
   have hby:0<blen y:=by
    rcases Nat.eq_zero_or_pos (blen y) with h | h
    ·rw [blen_eq_zero] at h;omega
    ·exact h
   have hs32:s<32:=by omega
   have HLZ:=Hd fun W=>lead32_any y W hy1;rw [es] at HLZ;have HTS:=Hd hts
   have HSH:=Hd fun A n c xs W (h1:U32s W A n c xs) h2=>((shift_any A n c s xs W h1 hs32 h2).mono (by
    rintro e w' ⟨zs,⟨g,k,rfl,hl,ha,hg,hb⟩,hz,hn,hv⟩
    obtain rfl:k=n+1:=by omega
    exact⟨g,zs,rfl,ha,hb,hg,hz,hn,hv⟩):Calls Tryz.prog 258 #[.slice A n c,.int .i64 (s:Int)] W fun e w'=>∃ g zs,e=.returned (.slice (some ⟨g,0,none⟩) (n+1) (n+1))/\Arr w' g zs/\Below W.heap.size W w'/\W.heap.size<=g/\W32 zs/\zs.length=n+1/\num zs=num xs*2^s)
   clear ey es hts hyy hby HYQ
   have hz1:((q:Int) == 1)=false:=by simp;omega
   have hqq:(q:Int)<=(q:Int)+1:=by omega
   go_wp2_with fail;refine cy (HLZ.out _) ?_;clear HLZ hc;go_wp2_with fail;refine wp_region_held_drew (S:=fun W'=>U32s W' A p c us/\U32s W' (some ad) q d vs/\Below w.heap.size w W') (by kernel_rfl) (by exact⟨HX3.out.drew,HY3.out.drew,HB3.out.drew⟩) (fun hHeld=>?_);refine tks 0 ?_;refine tks 1 ?_;refine tks 3 ?_;refine tks 4 ?_;refine tks 6 ?_;refine tks 7 ?_;refine rdy 2 fun KK hKK=>?_;go_simp;refine (HSH.out _ _ _ _ _ hHeld.1 (by omega)).mono ?_;rintro e w4 ⟨g1,zs,rfl,ha4,hb4,hg4,hz4,hn4,hv4⟩;go_wp2_with fail;refine hKK.out _ _ (⟨hHeld.1.below hb4,hHeld.2.1.below hb4,hHeld.2.2.trans (hb4.mono hHeld.2.2.size)⟩) (fun _=>?_);clear hKK KK hHeld;rename_i hHeld;(try simp only [Act.put,lay]);refine rdy 5 fun KK hKK=>?_;go_simp;refine (HSH.out _ _ _ _ _ hHeld.2.1 (by omega)).mono ?_;rintro e w5 ⟨g2,zt,rfl,ha5,hb5,hg5,hz5,hn5,hv5⟩;go_wp2_with fail;refine hKK.out _ _ (⟨hHeld.1.below hb5,hHeld.2.1.below hb5,hHeld.2.2.trans (hb5.mono hHeld.2.2.size)⟩) (fun _=>?_);clear hKK KK hHeld;rename_i hHeld;(try simp only [Act.put,lay]);refine tks 8 ?_;refine tks 9 ?_;refine tks 10 ?_;refine wpAnyH_done (by kernel_rfl) ?_ _;have HA1:=Hd (ha4.below hb5 ha4.lt);have HB5:=Hd hHeld.2.2;have hg1:w.heap.size<=g1:=Nat.le_trans HB3.out.size hg4;have hg12:g1<g2:=Nat.lt_of_lt_of_le ha4.lt hg5;have tw:=top_word (n:=q - 1) hz5 (by rw [show q - 1+1=q from by omega,hv5];exact HTS.out.1) (by rw [hv5];exact HTS.out.2);rw [show q - 1+1=q from by omega,hv5] at tw;have HVS:=Hd ((ha5.u32s' hz5 hn5 (by omega)).take (k:=q) (by omega))
   obtain⟨vt,hvt⟩:∃ l,zt.take q=l:=⟨_,rfl⟩
   rw [hvt] at tw HVS;have HV1:=Hd tw.1;have HVV:=Hd tw.2;have HVL:=Hd HTS.out.1
   have hpq:q<=p:=by
    rcases Nat.lt_or_ge p q with h | h
    ·exfalso
     have h1:=num_lt HX3.out.w32;rw [HX3.out.len] at h1;have h2:=le_num_wlen (l:=vs) (by rw [WV.out];omega);rw [WV.out] at h2;have h3:2^(32*p)<=2^(32*(q - 1)):=Nat.pow_le_pow_right (by omega) (by omega);have:=HGE.out
     omega
    ·exact h
   obtain⟨L,hL⟩:∃ L,p - q+1=L:=⟨_,rfl⟩
   have eL:(p:Int) - (q:Int)+1=(L:Int):=by omega
   have hLp:L+q=p+1:=by omega
   have HUV:=Hd (show num us<2^(32*p) from by have h:=num_lt HX3.out.w32;rwa [HX3.out.len] at h)
   have HQ0:=Hd (show QuoInv zs (List.replicate L 0) zs (num vs*2^s) L from by
    refine QuoInv.start (n:=q) hz4 (by omega) ?_ ?_
    ·have h:=HTS.out.2
     have h2:2^(32*q)=2^(32*(q - 1))*4294967296:=by rw [show 32*q=32*(q - 1)+32 from by omega,Nat.pow_add]
     omega
    ·rw [hv4];have h:=HTS.out.2
     have h3:2147483648*2^(32*(q - 1))*2^(32*L)=2147483648*2^(32*p):=by rw [Nat.mul_assoc,<- Nat.pow_add];congr 2;omega
     have h4:2147483648*2^(32*(q - 1))*2^(32*L)<=num vs*2^s*2^(32*L):=Nat.mul_le_mul_right _ h;have h5:2^s<=2147483648:=Nat.pow_le_pow_right (n:=2) (by omega) (show s<=31 by omega);have h6:num us*2^s<=num us*2147483648:=Nat.mul_le_mul_left _ h5;have:=HUV.out
     omega)
   have HZV:=Hd hv4;have HZN:=Hd hn4;have HVP:=Hd (show 0<num vs*2^s from Nat.mul_pos HV0.out (Nat.two_pow_pos _));have hmk:=fun W=>make_u32 (N:=(L:Int)) (n:=L) rfl (by omega) W;clear hHeld hb4 hb5 ha4 ha5 hg4 hg5 hz4 hn4 hv4 hz5 hn5 hv5 tw hvt HTS HX3 HY3 HB3 HGE HSH HUV hL;go_wp2
   obtain⟨w6,hw6⟩:∃ W,w5.alloc (.cells (Array.replicate L (wd 0)) 117)=W:=⟨_,rfl⟩
   have HB6:=Hd (show Below w.heap.size w w6 from by rw [<- hw6];exact HB5.out.alloc HB5.out.size _);have HA6:=Hd (show Arr w6 g1 zs from by rw [<- hw6];exact HA1.out.alloc _);have HS6:=Hd (show U32s w6 (some ⟨g2,0,none⟩) q (q+1) vt from by rw [<- hw6];exact HVS.out.alloc _);have HR6:=Hd (show Arr w6 w5.heap.size (List.replicate L 0) from by rw [<- hw6];exact Arr.zeros _ _)
   have hg23:g2<w5.heap.size:=by
    obtain⟨ad',e',h1,h2⟩:=HVS.out.at_ (by omega)
    cases e';exact h1
   obtain⟨g3,hg3⟩:∃ g,w5.heap.size=g:=⟨_,rfl⟩
   rw [hw6];rw [hg3] at hg23 HR6 ⊢;clear hw6 hg3 HA1 HVS HB5 hmk w5
   obtain⟨V,hV⟩:∃ V,num vs*2^s=V:=⟨_,rfl⟩
   rw [hV] at HVV HVL HQ0 HVP;have HVE:=Hd hV;clear hV
   have hqp:(q:Int)<=(p:Int)+1:=by omega
   go_loopw [10,11,74] (fun _ _ iv wr=>∃ (i:Nat) (qs cur:List Nat),iv=.int .i64 i/\i<=L/\QuoInv zs qs cur V (L - i)/\qs.length=L/\Arr wr g3 qs/\Arr wr g1 cur/\U32s wr (some ⟨g2,0,none⟩) q (q+1) vt/\Below w.heap.size w wr) (fun _ _ iv _=>L - (intOf iv).toNat)
   case atStart=>exact⟨0,_,zs,rfl,Nat.zero_le _,HQ0.out,by simp,HR6.out,HA6.out,HS6.out,HB6.out⟩
   case round=>
    obtain⟨i,qs,cur,rfl,hi,hinv,hql,hq3,ha1,hs2,hb⟩:=hrel;clear HQ0 HR6 HA6 HS6 HB6
    have hcl:cur.length=p+1:=by rw [hinv.2.2.1,HZN.out]
    have HI:=Hd hinv;have HQ:=Hd hq3;have HA:=Hd ha1;have HS:=Hd hs2;have HB:=Hd hb;have HQL:=Hd hql;have HCL:=Hd hcl;clear hinv hq3 ha1 hs2 hb
    by_cases hlt:i<L
    ·obtain⟨j,hj⟩:∃ j,L - 1 - i=j:=⟨_,rfl⟩
     have ej:(L:Int) - 1 - (i:Int)=(j:Int):=by omega
     have hjL:(j:Int)<(L:Int):=by omega
     have hjq:j+q+1<=cur.length:=by omega
     have hI2:QuoInv zs qs cur V (j+1):=by have h:=HI.out;rw [show L - i=j+1 from by omega] at h;exact h
     have hz:=hI2.zero hjq HVL.out;have hsp:=split3 hjq;have hst:=fun rs h1 h2 h3=>hI2.step (rs:=rs) hjq HVL.out HVP.out (by omega) h1 h2 h3
     obtain⟨pre,hpre⟩:∃ l,cur.take j=l:=⟨_,rfl⟩
     obtain⟨ws,hws⟩:∃ l,(cur.drop j).take (q+1)=l:=⟨_,rfl⟩
     obtain⟨post,hpost⟩:∃ l,cur.drop (j+(q+1))=l:=⟨_,rfl⟩
     have hww:W32 ws:=by rw [<- hws];exact (hI2.2.1.drop _).take _
     rw [hpre,hws,hpost] at hsp;rw [hpre,hws] at hz;rw [hpre,hws,hpost] at hst
     have hwin:Win wr ⟨g1,j,none⟩ pre ws post:=⟨g1,by rw [hsp.2.1],by rw [<- hsp.1];exact HA.out⟩
     have HDG:=Hd fun c (hc:q+1<=c)=>digit_any ⟨g1,j,none⟩ (some ⟨g2,0,none⟩) q c (q+1) pre ws post vt wr hwin hww HS.out (by intro b e _;cases e;show g2≠g1;omega) hsp.2.2 hc hq2 (by omega) (by rw [HVV.out];exact hz.2.1) HV1.out;rw [HVV.out] at HDG
     obtain⟨D,hD⟩:∃ D,num ws / V=D:=⟨_,rfl⟩
     rw [hD] at HDG hst;have HST:=Hd hst;have HJ:=Hd hj;have hf3:=HQ.out.frozen j;have hcq:=HQ.out.cell (j:=j) (by omega)
     obtain⟨q0,hq0⟩:∃ z,qs[j]?.getD 0=z:=⟨_,rfl⟩
     rw [hq0] at hcq
     have b1:(j:Int)<=(j:Int)+(q:Int)+1:=by omega
     have b2:(j:Int)+(q:Int)+1<=(p:Int)+1:=by omega
     clear hI2 hz hsp hst hpre hws hpost hww hwin hD hj hjq hq0 hql hcl;go_wp2_with fail;rw [show j+q+1 - j=q+1 from by omega];refine (HDG.out _ (by omega)).mono ?_;rintro e w' ⟨rs,rfl,hwin2,hrw2,hrl2,hrv2,hgr2⟩;obtain⟨g',e',ha'⟩:=hwin2
     injection e' with e1 e2
     subst e1;have hq':Arr w' g3 qs:=HQ.out.of_block (hgr2.block g3 HQ.out.lt (by intro e;injection e;omega));have HQ':=Hd (hq'.set j D);have HA':=Hd (ha'.far (p:=⟨g3,j,none⟩) (show g1≠g3 by omega) (wd D));have HS':=Hd ((HS.out.grown hgr2 (by intro b e _;cases e;show g2≠g1;omega)).far (p:=⟨g3,j,none⟩) (by intro b e;cases e;show g2≠g3;omega) (wd D));have HB':=Hd ((below_grown HB.out hgr2 hg1 HB.out.size).setCell (p:=⟨g3,j,none⟩) (show w.heap.size<=g3 by omega) (wd D));have HSN:=Hd (HST.out rs hrw2 hrl2 hrv2).1;have hf3:=hq'.frozen j;have hcq':=hq'.cell (j:=j) (by rw [HQL.out];omega)
     obtain⟨q1,hq1⟩:∃ z,qs[j]?.getD 0=z:=⟨_,rfl⟩
     rw [hq1] at hcq';clear hq1 hq' ha' e2 hrw2 hrl2 hrv2 hgr2 HST HDG HQ HA HS HB HI hcq;go_wp2
     go_roundw
     case rel=>exact⟨i+1,qs.set j D,_,by go_num,by omega,by rw [show L - (i+1)=j from by have:=HJ.out;omega];exact HSN.out,by simp [HQL.out],HQ'.out,HA'.out,HS'.out,HB'.out⟩
     case measure=>simp [intOf];omega
    ·obtain rfl:i=L:=by omega
     have hdn:=HI.out;rw [Nat.sub_self,<- HVE.out] at hdn;have hqd:=hdn.done HZV.out (by rw [HVE.out];exact HVL.out);have hw1:W32 qs:=hdn.1;have hw2:W32 cur:=hdn.2.1;have hut:=(HA.out.u32s' hw2 hcl (by omega)).take (k:=q) (by omega);have hwt:=hut.w32;have hlt':=hut.len;have HC1:=Hd fun W (h:U32s W (some ⟨g1,0,none⟩) q (p+1) (cur.take q))=>cut_any _ _ _ _ _ h;have HUT:=Hd hut
     obtain⟨k1,hk1⟩:∃ k,wlen (cur.take q)=k:=⟨_,rfl⟩
     rw [hk1] at HC1
     have hk1q:k1<=q:=by rw [<- hk1];have:=wlen_le (cur.take q);omega
     have hku:=HQ.out.u32s' hw1 hql (by omega);have HC2:=Hd (cut_any _ _ _ _ _ hku);have HD:=Hd hku.cutd;rw [hqd.1] at HD
     obtain⟨k2,hk2⟩:∃ k,wlen qs=k:=⟨_,rfl⟩
     rw [hk2] at HC2 HD
     have hwin:Win wr ⟨g1,0,none⟩ [] (cur.take k1) (cur.drop k1):=⟨g1,rfl,by simpa using HA.out⟩
     have hnk:num (cur.take k1)=num (cur.take q):=by
      have h:=num_take_all (l:=cur.take q) (n:=k1) (by omega)
      rwa [List.take_take,Nat.min_eq_left hk1q] at h
     have HBK:=Hd (back_win ⟨g1,0,none⟩ k1 k1 s [] (cur.take k1) (cur.drop k1) wr hwin (Nat.le_refl _) (hw2.take _) (by simp;omega) hs32 (by omega));rw [hnk,hqd.2] at HBK;clear hdn hqd hw1 hw2 hut hwt hlt' hk1 hku hk2 hwin hnk HA HQ HI hcl hql HVP HVL HVV HVE HZV HZN HS HCL HQL;go_wp2_with fail;refine cy (HC1.out _ HUT.out) ?_;clear HC1 HUT;go_wp2_with fail;refine HC2.out.mono ?_;rintro e w' ⟨rfl,rfl⟩;go_wp2_with fail;refine HBK.out.mono ?_;rintro e w' ⟨k3,rfl,hu3,hgr3⟩;have HU3:=Hd hu3;have HD3:=Hd (HD.out.grown hgr3 (by intro b e _;cases e;show g3≠g1;omega));have HB3:=Hd (below_grown HB.out hgr3 hg1 HB.out.size);clear hu3 hgr3 HBK HC2 HD HB hlt hi;go_wp2
     go_ret3
     exact⟨_,k2,k2,_,k3,k3,rfl,HD3.out,HU3.out,HB3.out⟩
end
section
open Go.RowKit
attribute [local go_sem] run_store_float run_frombits run_bitsof run_negf
theorem next_up(s:Nat)(w:World)(hs:s<18446744073709551616)(hf:rungOf s<M):Calls Tryz.prog 227 (Zv s 9218868437227405312) w (NextTo w (idx s+1)):=by
 have hM:M=9218868437227405312:=rfl
 have hr:rungOf s<=M:=by omega
 have hc:=pat_cases hs;have hb:=idx_bounds hr;have N1:=Hd (isnanf s w hr);have N2:=Hd (isnanf 9218868437227405312 w real_max);have o1:=ord_lt hr real_max (by rw [idx_max];omega);have o2:=ord_gt real_max hr (by rw [idx_max];omega)
 rcases Int.lt_trichotomy (idx s) 0 with h | h | h
 ·have o3:=ord_lt hr real_zero (by rw [idx_zero];exact h);have hc2:=pat_cases (b:=s - 1) (by omega);have H:=Hd (show s - 1<18446744073709551616/\rungOf (s - 1)<=M/\idx (s - 1)=idx s+1 from by omega)
  have e1:(s:Int) - 1=((s - 1:Nat):Int):=by omega
  have f1:∀ W:World,(callFunc 74 #[.int .u64 ((s:Int) - 1)]).run Tryz.prog W=.ok (.value (.float .f64 (s - 1))) W:=fun W=>by rw [e1];exact run_frombits (s - 1) W
  have b1:0<=(s:Int) - 1/\(s:Int) - 1<18446744073709551616:=by omega
  clear hc hc2 hb h hM e1 hr hf
  go_enter Tryz.func227,Tryz.ntmps227
  go_wp2_with fail;refine N1.out.mono ?_;rintro e w' ⟨rfl,rfl⟩;go_wp2_with fail;refine N2.out.mono ?_;rintro e w' ⟨rfl,rfl⟩;go_wp2
  go_ret
  exact⟨_,rfl,H.out.1,H.out.2.1,H.out.2.2,rfl⟩
 ·have o3:=ord_eq hr real_zero (by rw [idx_zero];exact h);have HC:=Hd (copy_pos w);have f1:∀ W:World,(callFunc 74 #[.int .u64 1]).run Tryz.prog W=.ok (.value (.float .f64 1)) W:=fun W=>run_frombits 1 W;have H:=Hd (show rungOf 1<=M/\idx 1=idx s+1 from⟨by decide,by rw [h];decide⟩);clear hc hb h hM hr hf
  go_enter Tryz.func227,Tryz.ntmps227
  go_wp2_with fail;refine N1.out.mono ?_;rintro e w' ⟨rfl,rfl⟩;go_wp2_with fail;refine N2.out.mono ?_;rintro e w' ⟨rfl,rfl⟩;go_wp2_with fail;refine HC.out.mono ?_;rintro e w' ⟨rfl,rfl⟩;go_wp2
  go_ret
  exact⟨_,rfl,by decide,H.out.1,H.out.2,rfl⟩
 ·have o3:=ord_gt hr real_zero (by rw [idx_zero];exact h);have hc2:=pat_cases (b:=s+1) (by omega);have H:=Hd (show s+1<18446744073709551616/\rungOf (s+1)<=M/\idx (s+1)=idx s+1 from by omega)
  have e1:(s:Int)+1=((s+1:Nat):Int):=by omega
  have f1:∀ W:World,(callFunc 74 #[.int .u64 ((s:Int)+1)]).run Tryz.prog W=.ok (.value (.float .f64 (s+1))) W:=fun W=>by rw [e1];exact run_frombits (s+1) W
  have b1:0<=(s:Int)+1/\(s:Int)+1<18446744073709551616:=by omega
  clear hc hc2 hb h hM e1 hr hf
  go_enter Tryz.func227,Tryz.ntmps227
  go_wp2_with fail;refine N1.out.mono ?_;rintro e w' ⟨rfl,rfl⟩;go_wp2_with fail;refine N2.out.mono ?_;rintro e w' ⟨rfl,rfl⟩;go_wp2
  go_ret
  exact⟨_,rfl,H.out.1,H.out.2.1,H.out.2.2,rfl⟩
theorem next_down(s:Nat)(w:World)(hs:s<18446744073709551616)(hf:rungOf s<M):Calls Tryz.prog 227 (Zv s 18442240474082181120) w (NextTo w (idx s - 1)):=by
 have hM:M=9218868437227405312:=rfl
 have hr:rungOf s<=M:=by omega
 have hc:=pat_cases hs;have hb:=idx_bounds hr;have N1:=Hd (isnanf s w hr);have N2:=Hd (isnanf 18442240474082181120 w real_min);have o1:=ord_gt hr real_min (by rw [idx_min];omega);have o2:=ord_lt real_min hr (by rw [idx_min];omega)
 rcases Int.lt_trichotomy (idx s) 0 with h | h | h
 ·have o3:=ord_lt hr real_zero (by rw [idx_zero];exact h);have hc2:=pat_cases (b:=s+1) (by omega);have H:=Hd (show s+1<18446744073709551616/\rungOf (s+1)<=M/\idx (s+1)=idx s - 1 from by omega)
  have e1:(s:Int)+1=((s+1:Nat):Int):=by omega
  have f1:∀ W:World,(callFunc 74 #[.int .u64 ((s:Int)+1)]).run Tryz.prog W=.ok (.value (.float .f64 (s+1))) W:=fun W=>by rw [e1];exact run_frombits (s+1) W
  have b1:0<=(s:Int)+1/\(s:Int)+1<18446744073709551616:=by omega
  clear hc hc2 hb h hM e1 hr hf
  go_enter Tryz.func227,Tryz.ntmps227
  go_wp2_with fail;refine N1.out.mono ?_;rintro e w' ⟨rfl,rfl⟩;go_wp2_with fail;refine N2.out.mono ?_;rintro e w' ⟨rfl,rfl⟩;go_wp2
  go_ret
  exact⟨_,rfl,H.out.1,H.out.2.1,H.out.2.2,rfl⟩
 ·have o3:=ord_eq hr real_zero (by rw [idx_zero];exact h);have HC:=Hd (copy_neg w);have f1:∀ W:World,(callFunc 74 #[.int .u64 1]).run Tryz.prog W=.ok (.value (.float .f64 1)) W:=fun W=>run_frombits 1 W;have H:=Hd (show rungOf 9223372036854775809<=M/\idx 9223372036854775809=idx s - 1 from⟨by decide,by rw [h];decide⟩);clear hc hb h hM hr hf
  go_enter Tryz.func227,Tryz.ntmps227
  go_wp2_with fail;refine N1.out.mono ?_;rintro e w' ⟨rfl,rfl⟩;go_wp2_with fail;refine N2.out.mono ?_;rintro e w' ⟨rfl,rfl⟩;go_wp2_with fail;refine HC.out.mono ?_;rintro e w' ⟨rfl,rfl⟩;go_wp2
  go_ret
  exact⟨_,rfl,by decide,H.out.1,H.out.2,rfl⟩
 ·have o3:=ord_gt hr real_zero (by rw [idx_zero];exact h);have hc2:=pat_cases (b:=s - 1) (by omega);have H:=Hd (show s - 1<18446744073709551616/\rungOf (s - 1)<=M/\idx (s - 1)=idx s - 1 from by omega)
  have e1:(s:Int) - 1=((s - 1:Nat):Int):=by omega
  have f1:∀ W:World,(callFunc 74 #[.int .u64 ((s:Int) - 1)]).run Tryz.prog W=.ok (.value (.float .f64 (s - 1))) W:=fun W=>by rw [e1];exact run_frombits (s - 1) W
  have b1:0<=(s:Int) - 1/\(s:Int) - 1<18446744073709551616:=by omega
  clear hc hc2 hb h hM e1 hr hf
  go_enter Tryz.func227,Tryz.ntmps227
  go_wp2_with fail;refine N1.out.mono ?_;rintro e w' ⟨rfl,rfl⟩;go_wp2_with fail;refine N2.out.mono ?_;rintro e w' ⟨rfl,rfl⟩;go_wp2
  go_ret
  exact⟨_,rfl,H.out.1,H.out.2.1,H.out.2.2,rfl⟩
def nud(d k e:Int):Int:=if d=-1/\e<0 then k - 1 else if d=1/\0<e then k+1 else k
theorem nudge_any(d:Int)(s e:Nat)(w:World)(hd:d=-1\/d=1)(hs:s<18446744073709551616)(hf:rungOf s<M)(he:rungOf e<=M):
  Calls Tryz.prog 186 #[.int .i64 d,.float .f64 s,.float .f64 e] w fun e' w'=>e'=.returned (.float .f64 (pat (nud d (idx s) (idx e))))/\w=w':=by
 have H1:=Hd (inf_pos w);have H2:=Hd (inf_neg w);have HU:=Hd (next_up s w hs hf);have HD:=Hd (next_down s w hs hf);have HP:=Hd (rplain s w hs (by omega))
 have ho:(idx e<0/\FloatKind.f64.format.order e 0=some .lt)\/(idx e=0/\FloatKind.f64.format.order e 0=some .eq)\/(0<idx e/\FloatKind.f64.format.order e 0=some .gt):=by
  rcases Int.lt_trichotomy (idx e) 0 with h1 | h1 | h1
  ·exact .inl ⟨h1,ord_lt he real_zero (by rw [idx_zero];exact h1)⟩
  ·exact .inr (.inl ⟨h1,ord_eq he real_zero (by rw [idx_zero];exact h1)⟩)
  ·exact .inr (.inr ⟨h1,ord_gt he real_zero (by rw [idx_zero];exact h1)⟩)
 unfold nud;clear he hs hf
 rcases hd with rfl | rfl<;>rcases ho with ⟨h,o1⟩ | ⟨h,o1⟩ | ⟨h,o1⟩
 ·rw [if_pos ⟨rfl,h⟩];clear h
  go_enter Tryz.func186,Tryz.ntmps186
  go_wp2_with fail;refine H2.out.mono ?_;rintro e' w' ⟨rfl,rfl⟩;go_wp2_with fail;refine HD.out.mono ?_;rintro e' w' ⟨r,rfl,r1,r2,r3,rfl⟩;have HQ:=Hd (rplain r w r1 r2);rw [r3] at HQ;clear r1 r2 r3;go_wp2_with fail;refine HQ.out.mono ?_;rintro e' w' ⟨rfl,rfl⟩;go_wp2
  go_ret
  exact⟨rfl,rfl⟩
 ·rw [if_neg (by omega),if_neg (by omega)];clear h
  go_enter Tryz.func186,Tryz.ntmps186
  go_wp2_with fail;refine HP.out.mono ?_;rintro e' w' ⟨rfl,rfl⟩;go_wp2
  go_ret
  exact⟨rfl,rfl⟩
 ·rw [if_neg (by omega),if_neg (by omega)];clear h
  go_enter Tryz.func186,Tryz.ntmps186
  go_wp2_with fail;refine HP.out.mono ?_;rintro e' w' ⟨rfl,rfl⟩;go_wp2
  go_ret
  exact⟨rfl,rfl⟩
 ·rw [if_neg (by omega),if_neg (by omega)];clear h
  go_enter Tryz.func186,Tryz.ntmps186
  go_wp2_with fail;refine HP.out.mono ?_;rintro e' w' ⟨rfl,rfl⟩;go_wp2
  go_ret
  exact⟨rfl,rfl⟩
 ·rw [if_neg (by omega),if_neg (by omega)];clear h
  go_enter Tryz.func186,Tryz.ntmps186
  go_wp2_with fail;refine HP.out.mono ?_;rintro e' w' ⟨rfl,rfl⟩;go_wp2
  go_ret
  exact⟨rfl,rfl⟩
 ·rw [if_neg (by omega),if_pos ⟨rfl,h⟩];clear h
  go_enter Tryz.func186,Tryz.ntmps186
  go_wp2_with fail;refine H1.out.mono ?_;rintro e' w' ⟨rfl,rfl⟩;go_wp2_with fail;refine HU.out.mono ?_;rintro e' w' ⟨r,rfl,r1,r2,r3,rfl⟩;have HQ:=Hd (rplain r w r1 r2);rw [r3] at HQ;clear r1 r2 r3;go_wp2_with fail;refine HQ.out.mono ?_;rintro e' w' ⟨rfl,rfl⟩;go_wp2
  go_ret
  exact⟨rfl,rfl⟩
end
section
open Go.RowKit Ieee
attribute [local go_sem] run_store_float run_frombits run_bitsof run_negf
theorem and_frac{a:Nat}(ha:a<9223372036854775808):bits .andNot .u64 (a:Int) 9218868437227405312=((a % 4503599627370496:Nat):Int):=by
 have h:=u64_andNot_nat a 9218868437227405312 (by omega) (by omega)
 have e:a &&& (18446744073709551615 - 9218868437227405312)=a % 4503599627370496:=by
  have e1:(18446744073709551615 - 9218868437227405312:Nat)=2^63 ||| (2^52 - 1):=by decide
  rw [e1]
  apply Nat.eq_of_testBit_eq
  intro i;rw [Nat.testBit_and,Nat.testBit_or,Nat.testBit_two_pow,Nat.testBit_two_pow_sub_one,show (4503599627370496:Nat)=2^52 from rfl,Nat.testBit_mod_two_pow]
  by_cases h1:i<52
  ·have h2:¬ 63=i:=by omega
   simp [h1,h2]
  ·by_cases h2:63=i
   ·subst h2;have h3:a.testBit 63=false:=Nat.testBit_lt_two_pow (by omega)
    simp [h3]
   ·simp [h1,h2]
 rw [e] at h
 exact h
theorem i64_and2047{n:Nat}(hn:n<2048):bits .and .i64 (n:Int) 2047=(n:Int):=by
 have h1:(BitVec.ofInt 64 2047).toNat=2 ^ 11 - 1:=by decide
 have key:(BitVec.ofInt 64 (n:Int) &&& BitVec.ofInt 64 2047).toNat=((n:Int) % ((2 ^ 64:Nat):Int)).toNat % 2 ^ 11:=by
  rw [BitVec.toNat_and,BitVec.toNat_ofInt,h1,Nat.and_two_pow_sub_one_eq_mod]
 show IntKind.i64.wrap ((BitVec.ofInt 64 (n:Int) &&& BitVec.ofInt 64 2047).toNat:Nat)=(n:Int)
 rw [key,IntKind.wrap_i64]
 omega
theorem float_of_nat{s r:Nat}(h:mag r=s*2^1074)(hr:r<=M):floatOfInt .f64 (s:Int)=r:=by
 have h1:floatOfInt .f64 (s:Int)=double.nearest false s 0:=by
  show FloatKind.f64.nearest (s:Int)=_
  unfold FloatKind.nearest FloatKind.encode;have:decide ((s:Int)<0)=false:=decide_eq_false (by omega);rw [this,Int.natAbs_natCast]
  exact write_num false s 0
 have h2:=nearest_high false s 1074;rw [show (-1074:Int)+((1074:Nat):Int)=0 from rfl] at h2;rw [h1,h2,<- h,word_false];have h3:=nearRung_mag r 0;rw [Nat.pow_zero,Nat.mul_one] at h3;rw [h3];omega
theorem float_of_zero:floatOfInt .f64 ((0:Nat):Int)=0:=by
 obtain⟨U,hU⟩:∃ U,U=1074:=⟨_,rfl⟩
 have h:=float_of_nat (s:=0) (r:=0);rw [<- hU,mag_zero,Nat.zero_mul] at h
 exact h rfl (Nat.zero_le _)
theorem float_of_shift{s r j J:Nat}(h:mag r=s*2^j*2^J)(hj:j+J=1074)(hr:r<=M):floatOfInt .f64 (s:Int)=r:=by
 refine float_of_nat ?_ hr;rw [h,Nat.mul_assoc,<- Nat.pow_add,hj]
theorem mul_bits{x y k:Nat}(hx:fin x)(hy:fin y)(hk:near (val (idx x)*val (idx y)) 1074=(k:Int))(hk0:0<k):floatBits .mul .f64 x y=some k:=by
 obtain⟨r,h1,h2⟩:=mul_fin hx hy;rw [hk] at h2;have h3:=pat_cases h2.lt;have h4:=h2.idx
 have:r=k:=by omega
 subst this
 exact h1
theorem val_two_pow{t U:Nat}{k:Int}(hk:k=(((t+1)*2^52:Nat):Int))(hU:U=52+t):val k=(2:Int)^U:=by
 subst hk hU;rw [val_nat,mag_two_pow,<- Nat.pow_add,Int.natCast_pow];rfl
theorem pow_join_nat{s A B C:Nat}(h:A+B=C):s*2^A*2^B=s*2^C:=by rw [Nat.mul_assoc,<- Nat.pow_add,h]
theorem pow_join{s A B C:Nat}(h:A+B=C):(2:Int)^A*((s*2^B:Nat):Int)=(s:Int)*2^C:=by
 rw [Int.natCast_mul,Int.natCast_pow,<- h,Int.pow_add];have:((2:Nat):Int)=2:=rfl;rw [this];ac_rfl
def LdPre(r F m:Nat):Prop:=r=F*4503599627370496+m/\m<4503599627370496/\1<=F/\F<=2046
theorem ldexp_norm(r F m X:Nat)(e:Int)(w:World)(h:LdPre r F m)(he:-5000<=e/\e<=5000)(hX:(X:Int)=e+F)(h1:1<=X)(h2:X<=2046):
  Calls Tryz.prog 256 #[.float .f64 r,.int .i64 e] w fun e' w'=>e'=.returned (.float .f64 (X*4503599627370496+m))/\w=w':=by
 obtain⟨hr,hm,hF1,hF2⟩:=h;have hM:M=9218868437227405312:=rfl
 have hb:r<18446744073709551616:=by omega
 have hrr:=rung_idx (b:=r) (by omega)
 have hfr:rungOf r<M:=by omega
 have HN:=Hd (isnanf r w (by omega));have HI:=Hd (isinff r w hb (by omega));rw [decide_eq_false (by omega)] at HI;have HA:=Hd (abs_any r w hb);rw [hrr.1] at HA;have o1:=ord_gt (a:=r) (b:=0) (by omega) real_zero (by rw [idx_zero];omega);have hn1:=rung_idx (b:=4503599627370496) (by omega)
 have o2:FloatKind.f64.format.order r 4503599627370496=some .gt\/FloatKind.f64.format.order r 4503599627370496=some .eq:=by
  by_cases h3:r=4503599627370496
  ·exact .inr (ord_eq (by omega) (by omega) (by omega))
  ·exact .inl (ord_gt (by omega) (by omega) (by omega))
 have b1:(r:Int) / 4503599627370496=(F:Int):=by omega
 have b2:=i64_and2047 (n:=F) (by omega);have b3:=and_frac (a:=r) (by omega);rw [show r % 4503599627370496=m from by omega] at b3;have b4:=or_join' (i:=52) (x:=X) (y:=m) (by omega) (by omega) (by omega);rw [show (2:Nat)^52=4503599627370496 from rfl,show ((X*4503599627370496:Nat):Int)=(X:Int)*4503599627370496 from by omega] at b4
 obtain⟨x,hx⟩:∃ x,m+X*4503599627370496=x:=⟨_,rfl⟩
 rw [show X*4503599627370496+m=x from by omega];rw [hx] at b4;have hxr:=rung_idx (b:=x) (by omega)
 have hmul:floatBits .mul .f64 4607182418800017408 x=some x:=by
  have i1:idx 4607182418800017408=4607182418800017408:=by decide
  have v1:val 4607182418800017408=(2:Int)^1074:=val_two_pow (t:=1022) (by decide) (by decide);refine mul_bits (by show rungOf _<M;decide) (by show rungOf _<M;omega) ?_ (by omega);rw [i1,v1,hxr.2,Int.mul_comm,near_val (by omega) (by omega)]
 have HM:=fun W=>run_float_arith (P:=Tryz.prog) W .mul 26 .f64 _ _ _ hmul;have ff:=fun W=>run_frombits x W;have eX:e+(F:Int)=(X:Int):=hX.symm
 have e1:e+((F:Int) - 1023)=(X:Int) - 1023:=by omega
 clear hmul hxr hx hr hrr hn1 hfr hb eX hX
 rcases o2 with o2 | o2
 all_goals
  go_enter Tryz.func256,Tryz.ntmps256
  go_wp2_with (first | (go_at_call 161;refine HI.out.mono ?_;rintro e w' ⟨rfl,rfl⟩) | (go_at_call 221;refine HN.out.mono ?_;rintro e w' ⟨rfl,rfl⟩) | (go_at_call 117;refine HA.out.mono ?_;rintro e w' ⟨rfl,rfl⟩) | go_in)
  go_ret
  exact⟨rfl,rfl⟩
theorem ldexp_over(r F m:Nat)(e:Int)(w:World)(h:LdPre r F m)(he:-5000<=e/\e<=5000)(hX:2046<e+F):
  Calls Tryz.prog 256 #[.float .f64 r,.int .i64 e] w fun e' w'=>e'=.returned (.float .f64 9218868437227405312)/\w=w':=by
 obtain⟨hr,hm,hF1,hF2⟩:=h;have hM:M=9218868437227405312:=rfl
 have hb:r<18446744073709551616:=by omega
 have hrr:=rung_idx (b:=r) (by omega)
 have hfr:rungOf r<M:=by omega
 have HN:=Hd (isnanf r w (by omega));have HI:=Hd (isinff r w hb (by omega));rw [decide_eq_false (by omega)] at HI;have HA:=Hd (abs_any r w hb);rw [hrr.1] at HA;have o1:=ord_gt (a:=r) (b:=0) (by omega) real_zero (by rw [idx_zero];omega);have hn1:=rung_idx (b:=4503599627370496) (by omega)
 have o2:FloatKind.f64.format.order r 4503599627370496=some .gt\/FloatKind.f64.format.order r 4503599627370496=some .eq:=by
  by_cases h3:r=4503599627370496
  ·exact .inr (ord_eq (by omega) (by omega) (by omega))
  ·exact .inl (ord_gt (by omega) (by omega) (by omega))
 have b1:(r:Int) / 4503599627370496=(F:Int):=by omega
 have b2:=i64_and2047 (n:=F) (by omega);have b3:=and_frac (a:=r) (by omega);rw [show r % 4503599627370496=m from by omega] at b3;have HP:=Hd (inf_pos w);have o3:=ord_gt (a:=r) (b:=0) (by omega) real_zero (by rw [idx_zero];omega)
 obtain⟨X,hX2⟩:∃ X:Int,e+(F:Int)=X:=⟨_,rfl⟩
 have e1:e+((F:Int) - 1023)=X - 1023:=by omega
 have hX3:1023<X - 1023:=by omega
 have hX4:X<=7046:=by omega
 clear hr hrr hn1 hfr hb hX hX2
 rcases o2 with o2 | o2
 all_goals
  go_enter Tryz.func256,Tryz.ntmps256
  go_wp2_with (first | (go_at_call 161;refine HI.out.mono ?_;rintro e w' ⟨rfl,rfl⟩) | (go_at_call 221;refine HN.out.mono ?_;rintro e w' ⟨rfl,rfl⟩) | (go_at_call 19;refine HP.out.mono ?_;rintro e w' ⟨rfl,rfl⟩) | (go_at_call 117;refine HA.out.mono ?_;rintro e w' ⟨rfl,rfl⟩) | go_in)
  go_ret
  exact⟨rfl,rfl⟩
theorem ldexp_den(r F m k s:Nat)(e:Int)(w:World)(h:LdPre r F m)(he:-5000<=e/\e<=5000)(hX:e+F=-(k:Int))(hk:k<=52)(hs:(4503599627370496+m)*2^(52 - k)=s*2^53)(hs0:0<s)(hs1:s<4503599627370496):
  Calls Tryz.prog 256 #[.float .f64 r,.int .i64 e] w fun e' w'=>e'=.returned (.float .f64 s)/\w=w':=by
 obtain⟨hr,hm,hF1,hF2⟩:=h;have hM:M=9218868437227405312:=rfl
 have hb:r<18446744073709551616:=by omega
 have hrr:=rung_idx (b:=r) (by omega)
 have hfr:rungOf r<M:=by omega
 have HN:=Hd (isnanf r w (by omega));have HI:=Hd (isinff r w hb (by omega));rw [decide_eq_false (by omega)] at HI;have HA:=Hd (abs_any r w hb);rw [hrr.1] at HA;have o1:=ord_gt (a:=r) (b:=0) (by omega) real_zero (by rw [idx_zero];omega);have hn1:=rung_idx (b:=4503599627370496) (by omega)
 have o2:FloatKind.f64.format.order r 4503599627370496=some .gt\/FloatKind.f64.format.order r 4503599627370496=some .eq:=by
  by_cases h3:r=4503599627370496
  ·exact .inr (ord_eq (by omega) (by omega) (by omega))
  ·exact .inl (ord_gt (by omega) (by omega) (by omega))
 have b1:(r:Int) / 4503599627370496=(F:Int):=by omega
 have b2:=i64_and2047 (n:=F) (by omega);have b3:=and_frac (a:=r) (by omega);rw [show r % 4503599627370496=m from by omega] at b3
 obtain⟨Y,hY⟩:∃ Y,53 - k=Y:=⟨_,rfl⟩
 have b4:=or_join' (i:=52) (x:=Y) (y:=m) (by omega) (by omega) (by omega);rw [show (2:Nat)^52=4503599627370496 from rfl,show ((Y*4503599627370496:Nat):Int)=(Y:Int)*4503599627370496 from by omega] at b4
 obtain⟨x,hx⟩:∃ x,m+Y*4503599627370496=x:=⟨_,rfl⟩
 rw [hx] at b4;have hxr:=rung_idx (b:=x) (by omega)
 have hmul:floatBits .mul .f64 4368491638549381120 x=some s:=by
  have i1:idx 4368491638549381120=4368491638549381120:=by decide
  have v1:val 4368491638549381120=(2:Int)^1021:=val_two_pow (t:=969) (by decide) (by decide)
  have v2:mag x=s*2^53:=by
   have h6:=mag_form (52 - k) (4503599627370496+m) (.inr (by omega)) (by omega);rw [hs] at h6;rw [<- h6];congr 1
   have:Y=52 - k+1:=by omega
   rw [<- hx,this,Nat.add_mul,show (2:Nat)^52=4503599627370496 from rfl,Nat.one_mul];generalize (52 - k)*4503599627370496=P
   omega
  have v3:val (x:Int)=((s*2^53:Nat):Int):=by rw [val_nat,v2]
  refine mul_bits (by show rungOf _<M;decide) (by show rungOf _<M;omega) ?_ hs0;rw [i1,v1,hxr.2,v3,pow_join (s:=s) (A:=1021) (B:=53) (C:=1074) (by decide)]
  have h7:val (s:Int)=(s:Int):=by rw [val_nat,mag_small (show s<2^52 from hs1)]
  have h8:=near_val (i:=(s:Int)) (by omega) (by omega) 1074;rw [h7] at h8
  exact h8
 have HM:=fun W=>run_float_arith (P:=Tryz.prog) W .mul 26 .f64 _ _ _ hmul;have ff:=fun W=>run_frombits x W
 have e1:e+((F:Int) - 1023)=-(k:Int) - 1023:=by omega
 have e2:-(k:Int) - 1023+53+1023=(Y:Int):=by omega
 have e3:-(k:Int) - 1023 < -1022:=by omega
 have hY1:Y<=53:=by omega
 clear hmul hxr hx hr hrr hn1 hfr hb hX hY hs
 rcases o2 with o2 | o2
 all_goals
  go_enter Tryz.func256,Tryz.ntmps256
  go_wp2_with (first | (go_at_call 161;refine HI.out.mono ?_;rintro e w' ⟨rfl,rfl⟩) | (go_at_call 221;refine HN.out.mono ?_;rintro e w' ⟨rfl,rfl⟩) | (go_at_call 117;refine HA.out.mono ?_;rintro e w' ⟨rfl,rfl⟩) | go_in)
  go_ret
  exact⟨rfl,rfl⟩
theorem ldexp_zero(e:Int)(w:World):Calls Tryz.prog 256 #[.float .f64 0,.int .i64 e] w fun e' w'=>e'=.returned (.float .f64 0)/\w=w':=by
 have o1:=ord_eq (a:=0) (b:=0) real_zero real_zero rfl
 go_enter Tryz.func256,Tryz.ntmps256
 go_wp2
 go_ret
 exact⟨rfl,rfl⟩
theorem ldexp_any(s:Nat)(e:Int)(w:World)(hs:s<=9007199254740992)(he:-1074<=e/\e<=971)(hd:e=-1074\/4503599627370496<=s):
  Calls Tryz.prog 256 #[.float .f64 (floatOfInt .f64 (s:Int)),.int .i64 e] w fun e' w'=>e'=.returned (.float .f64 ((e+1074).toNat*4503599627370496+s))/\w=w':=by
 have hM:M=9218868437227405312:=rfl
 by_cases h1:4503599627370496<=s
 ·have hm:=mag_form 1074 s (.inr h1) hs;have hf:floatOfInt .f64 (s:Int)=1074*2^52+s:=float_of_nat hm (by omega);rw [hf,show (1074*2^52+s:Nat)=4836865999795912704+s from rfl]
  by_cases h2:s<9007199254740992
  ·have h:=ldexp_norm (4836865999795912704+s) 1075 (s - 4503599627370496) (e+1075).toNat e w ⟨by omega,by omega,by omega,by omega⟩ (by omega) (by omega) (by omega) (by omega)
   rw [show (e+1075).toNat*4503599627370496+(s - 4503599627370496)=(e+1074).toNat*4503599627370496+s from by
    rw [show (e+1075).toNat=(e+1074).toNat+1 from by omega,Nat.add_mul];omega] at h
   exact h
  ·obtain rfl:s=9007199254740992:=by omega
   by_cases h3:e=971
   ·subst h3
    exact ldexp_over (4836865999795912704+9007199254740992) 1076 0 971 w ⟨by omega,by omega,by omega,by omega⟩ (by omega) (by omega)
   ·have h:=ldexp_norm (4836865999795912704+9007199254740992) 1076 0 (e+1076).toNat e w ⟨by omega,by omega,by omega,by omega⟩ (by omega) (by omega) (by omega) (by omega)
    rw [show (e+1076).toNat*4503599627370496+0=(e+1074).toNat*4503599627370496+9007199254740992 from by
     rw [show (e+1076).toNat=(e+1074).toNat+2 from by omega,Nat.add_mul]] at h
    exact h
 ·obtain rfl:e=-1074:=by omega
  rw [show ((-1074:Int)+1074).toNat=0 from rfl,Nat.zero_mul,Nat.zero_add]
  rcases Nat.eq_zero_or_pos s with h0 | h0
  ·subst h0;rw [float_of_zero]
   exact ldexp_zero _ w
  ·obtain⟨L,b1,b2,b3⟩:=blen_bounds h0;have hL:L<52:=(Nat.pow_lt_pow_iff_right (a:=2) (by omega)).1 (Nat.lt_of_le_of_lt b2 (by omega))
   obtain⟨j,hj⟩:∃ j,L+j=52:=⟨52 - L,by omega⟩
   have c1:4503599627370496<=s*2^j:=by
    rw [show (4503599627370496:Nat)=2^(L+j) from by rw [hj],Nat.pow_add];exact Nat.mul_le_mul_right _ b2
   have c2:s*2^j<9007199254740992:=by
    rw [show (9007199254740992:Nat)=2^(L+1+j) from by rw [show L+1+j=53 from by omega],Nat.pow_add];exact Nat.mul_lt_mul_of_pos_right b3 (Nat.two_pow_pos j)
   have hm:=mag_form (1074 - j) (s*2^j) (.inr c1) (by omega);have hf:floatOfInt .f64 (s:Int)=(1074 - j)*2^52+s*2^j:=float_of_shift hm (show j+(1074 - j)=1074 by omega) (Nat.le_trans (Nat.add_le_add (Nat.mul_le_mul_right (k:=2^52) (show 1074 - j<=1074 by omega)) (Nat.le_of_lt c2)) (by rw [hM];decide));rw [hf];have hs3:s*2^j*2^(52 - (j - 1))=s*2^53:=pow_join_nat (by omega);refine ldexp_den _ (1075 - j) (s*2^j - 4503599627370496) (j - 1) s (-1074) w ⟨?_,by omega,by omega,by omega⟩ (by omega) (by omega) (by omega) ?_ h0 (by omega)
   ·rw [show 1075 - j=1074 - j+1 from by omega,Nat.add_mul,show (2:Nat)^52=4503599627370496 from rfl];omega
   ·rw [show 4503599627370496+(s*2^j - 4503599627370496)=s*2^j from by omega];exact hs3
end
end Go.Proofs.YthlmlmfebpjgdaaGreatDoor
