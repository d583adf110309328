/-
Lemmas for the statement: IntgT Pow10T AgT WiT WigT SetOfT AllT AllgT PcgT SetT MnsT PieceG MiP MpT NeP BothT IntsT Cut2T MuP Kp ReadN KnbT Rdl.
-/
import Derived.Test.YthlmlmfebpjgdaaGreatDoorM04
import Derived.Test.YthlmlmfebpjgdaaGreatDoorM09
import Derived.Test.YthlmlmfebpjgdaaGreatDoorM03
import Derived.Deep.DeepCutAuto
import Derived.Test.YthlmlmfebpjgdaaGreatDoorM02
import Derived.Test.YthlmlmfebpjgdaaGreatDoorM05
import Derived.Test.YthlmlmfebpjgdaaGreatDoorM08
import Derived.Deep.RegionHeld3
set_option linter.unusedSimpArgs false
set_option linter.unusedVariables false
set_option maxHeartbeats 12800000
set_option maxRecDepth 8000
namespace Go.Proofs.YthlmlmfebpjgdaaGreatDoor
open Go.Proofs.Tryz
open Go.RowKit
theorem HasBlk.ratI{W:World}{r:Nat}{t:TypeId}{n0:Nat}{g:Bool}{A:Option Addr}{n c:Nat}{B:Option Addr}{d:Nat}{z:Int}(h:HasBlk W r t n0)(hr:RatI W g A n c B d z)(vs:List Value):RatI (Proofs.YthlmlmfebpjgdaaGreatDoor.sets W r 0 vs) g A n c B d z:=by
 obtain⟨cs,h1,h2,h3⟩:=h
 exact⟨hr.1.sets h1 h3 0 vs,hr.2.1.sets h1 h3 0 vs,hr.2.2⟩
theorem RatI.sets{W:World}{g:Bool}{A:Option Addr}{n c:Nat}{B:Option Addr}{d:Nat}{z:Int}{r:Nat}{t:TypeId}{cs:Array Value}(h:RatI W g A n c B d z)(hb:Blk W r t cs)(hc:NoWd cs)(i:Nat)(vs:List Value):RatI (Proofs.YthlmlmfebpjgdaaGreatDoor.sets W r i vs) g A n c B d z:=
 ⟨h.1.sets hb hc i vs,h.2.1.sets hb hc i vs,h.2.2⟩
theorem norm_i{A:Option Addr}{n c v:Nat}{W:World}(h:U32s W A n c (digs v))(hs:n<=34359738367):Calls prog 93 #[.slice A n c] W fun e w'=>∃ A1 c1,e=.returned (.slice A1 n c1)/\U32s w' A1 n c1 (digs v)/\Below W.heap.size W w':=by
 refine (norm_v A n c _ W h hs (num_digs v)).mono ?_;rintro e w' ⟨A1,n1,c1,rfl,h1,-,-,hb⟩
 have:n1=n:=by have a:=h.len;have b:=h1.len;omega
 subst this
 exact⟨A1,c1,rfl,h1,hb⟩
theorem rnegi_false(A:Option Addr)(n c:Nat)(B:Option Addr)(d:Nat)(v:Nat)(r1:Bool)(w:World)(hN1:∀ W,Below w.heap.size w W->Calls prog 93 #[.slice A n c] W fun e w'=>∃ A1 c1,e=.returned (.slice A1 n c1)/\U32s w' A1 n c1 (digs v)/\Below W.heap.size W w')(hN2:∀ W,Below w.heap.size w W->Calls prog 93 #[.slice B 1 d] W fun e w'=>∃ A1 c1,e=.returned (.slice A1 1 c1)/\U32s w' A1 1 c1 (digs 1)/\Below W.heap.size W w')(hr:decide (0<n)=r1)(hn:n<=1073741824):
  Calls prog 47 #[Zg false A n c B 1 d] w fun e w'=>∃ A5 c5 B5 d5,e=.returned (Zg r1 A5 n c5 B5 1 d5)/\U32s w' A5 n c5 (digs v)/\U32s w' B5 1 d5 (digs 1)/\Below w.heap.size w w':=by
 have HN1:=Hd hN1;have HN2:=Hd hN2;have HR:=Hd hr;clear hN1 hN2 hr;have LL:=li2 w (Zr false A n c B 1 d) 42 (Zr false none 0 0 none 0 0) 42;have hr1:=HR.out
 have hr2:decide ((0:Int)<(n:Int))=r1:=by rw [<- hr1];simp
 go_enter func47,ntmps47
 go_wp2_with fail;replace LL:=Hd (LL.out.loose1 rfl);refine regL LL (fun hHeld=>?_);clear LL;generalize World.drew _=wk at hHeld  ⊢;refine tks 0 ?_;refine tkb 1 (fun _ h=>(h.blk 0 rfl).c3) ?_;refine tks 2 ?_;refine tks 3 ?_;refine tks 4 ?_;refine tkb 5 (fun _ h=>(h.blk 0 rfl).c3) ?_;refine tks 6 ?_;refine tks 7 ?_;refine tks 8 ?_;refine tks 9 ?_;refine tkb 10 (fun _ h=>(h.blk 0 rfl).c3) ?_;refine tks 12 ?_;refine tkb 13 (fun _ h=>(h.blk 0 rfl).c3) ?_;refine rdy 11 fun KK hKK=>?_;go_simp;refine (HN1.out _ hHeld.b).mono ?_;rintro e wk ⟨A5,c5,rfl,hu5,hb5⟩;go_wp2_with fail;refine hKK.out _ _ (hHeld.keep hb5) (fun _=>?_);clear hKK KK hHeld;rename_i hHeld;(try simp only [Act.put,lay]);(try replace HU6:=Hd (HU6.out.below hb5));have HU5:=Hd hu5;clear hu5;clear hb5;refine rdy 14 fun KK hKK=>?_;go_simp;refine (HN2.out _ hHeld.b).mono ?_;rintro e wk ⟨B5,d5,rfl,hu6,hb6⟩;go_wp2_with fail;refine hKK.out _ _ (hHeld.keep hb6) (fun _=>?_);clear hKK KK hHeld;rename_i hHeld;(try simp only [Act.put,lay]);(try replace HU5:=Hd (HU5.out.below hb6));have HU6:=Hd hu6;clear hu6;clear hb6;refine tks 15 ?_;refine rdy 16 fun KK hKK=>?_;obtain⟨ha0,hf0,ha1,hf1,ha2,hf2⟩:=(hHeld.has 0 rfl).sf3;obtain⟨csx,hbx,-,hcx⟩:=hHeld.has 0 rfl;replace HU5:=Hd (HU5.out.sets hbx hcx 0 [.bool r1,.slice A5 n c5,.slice B5 1 d5]);replace HU6:=Hd (HU6.out.sets hbx hcx 0 [.bool r1,.slice A5 n c5,.slice B5 1 d5]);clear hbx hcx;go_simp;have HS_0:=(hHeld.has 0 rfl).laid [.bool r1,.slice A5 n c5,.slice B5 1 d5] rfl
 refine hKK.out _ _ (hHeld.over 0 rfl [.bool r1,.slice A5 n c5,.slice B5 1 d5] rfl rfl (by first | omega | exact hHeld.le_of 0 rfl) (by simp<;>omega) (by simp<;>omega)) (fun _=>?_);clear hKK KK hHeld;rename_i hHeld;(try simp only [Act.put,lay]);refine wpAnyH_done (by kernel_rfl) ?_ _;have LB:=Hd hHeld.b;clear hHeld;obtain⟨hk2_0,hk2_1,hk2_2⟩:=HS_0.c3;clear HS_0
 simp [sets] at hk2_0 hk2_1 hk2_2
 go_wp2;refine bodyPost_ret (v:=Zg r1 A5 n c5 B5 1 d5) (by simp [results,results47,go_sem,hk2_0,hk2_1,hk2_2]) rfl ?_
 exact⟨A5,c5,B5,d5,rfl,HU5.out,HU6.out,LB.out⟩
theorem rnegi_true(A:Option Addr)(n c:Nat)(B:Option Addr)(d:Nat)(v:Nat)(w:World)(hN1:∀ W,Below w.heap.size w W->Calls prog 93 #[.slice A n c] W fun e w'=>∃ A1 c1,e=.returned (.slice A1 n c1)/\U32s w' A1 n c1 (digs v)/\Below W.heap.size W w')(hN2:∀ W,Below w.heap.size w W->Calls prog 93 #[.slice B 1 d] W fun e w'=>∃ A1 c1,e=.returned (.slice A1 1 c1)/\U32s w' A1 1 c1 (digs 1)/\Below W.heap.size W w'):
  Calls prog 47 #[Zg true A n c B 1 d] w fun e w'=>∃ A5 c5 B5 d5,e=.returned (Zg false A5 n c5 B5 1 d5)/\U32s w' A5 n c5 (digs v)/\U32s w' B5 1 d5 (digs 1)/\Below w.heap.size w w':=by
 have HN1:=Hd hN1;have HN2:=Hd hN2;clear hN1 hN2;have LL:=li2 w (Zr true A n c B 1 d) 42 (Zr false none 0 0 none 0 0) 42
 go_enter func47,ntmps47
 go_wp2_with fail;replace LL:=Hd (LL.out.loose1 rfl);refine regL LL (fun hHeld=>?_);clear LL;generalize World.drew _=wk at hHeld  ⊢;refine tks 0 ?_;refine tkb 1 (fun _ h=>(h.blk 0 rfl).c3) ?_;refine tks 2 ?_;refine tks 3 ?_;refine tkns 4 ?_;refine tkns 5 ?_;refine tkns 6 ?_;refine tkns 7 ?_;refine tks 8 ?_;refine tks 9 ?_;refine tkb 10 (fun _ h=>(h.blk 0 rfl).c3) ?_;refine tks 12 ?_;refine tkb 13 (fun _ h=>(h.blk 0 rfl).c3) ?_;refine rdy 11 fun KK hKK=>?_;go_simp;refine (HN1.out _ hHeld.b).mono ?_;rintro e wk ⟨A5,c5,rfl,hu5,hb5⟩;go_wp2_with fail;refine hKK.out _ _ (hHeld.keep hb5) (fun _=>?_);clear hKK KK hHeld;rename_i hHeld;(try simp only [Act.put,lay]);(try replace HU6:=Hd (HU6.out.below hb5));have HU5:=Hd hu5;clear hu5;clear hb5;refine rdy 14 fun KK hKK=>?_;go_simp;refine (HN2.out _ hHeld.b).mono ?_;rintro e wk ⟨B5,d5,rfl,hu6,hb6⟩;go_wp2_with fail;refine hKK.out _ _ (hHeld.keep hb6) (fun _=>?_);clear hKK KK hHeld;rename_i hHeld;(try simp only [Act.put,lay]);(try replace HU5:=Hd (HU5.out.below hb6));have HU6:=Hd hu6;clear hu6;clear hb6;refine tks 15 ?_;refine rdy 16 fun KK hKK=>?_;obtain⟨ha0,hf0,ha1,hf1,ha2,hf2⟩:=(hHeld.has 0 rfl).sf3;obtain⟨csx,hbx,-,hcx⟩:=hHeld.has 0 rfl;replace HU5:=Hd (HU5.out.sets hbx hcx 0 [.bool false,.slice A5 n c5,.slice B5 1 d5]);replace HU6:=Hd (HU6.out.sets hbx hcx 0 [.bool false,.slice A5 n c5,.slice B5 1 d5]);clear hbx hcx;go_simp;have HS_0:=(hHeld.has 0 rfl).laid [.bool false,.slice A5 n c5,.slice B5 1 d5] rfl
 refine hKK.out _ _ (hHeld.over 0 rfl [.bool false,.slice A5 n c5,.slice B5 1 d5] rfl rfl (by first | omega | exact hHeld.le_of 0 rfl) (by simp<;>omega) (by simp<;>omega)) (fun _=>?_);clear hKK KK hHeld;rename_i hHeld;(try simp only [Act.put,lay]);refine wpAnyH_done (by kernel_rfl) ?_ _;have LB:=Hd hHeld.b;clear hHeld;obtain⟨hk2_0,hk2_1,hk2_2⟩:=HS_0.c3;clear HS_0
 simp [sets] at hk2_0 hk2_1 hk2_2
 go_wp2;refine bodyPost_ret (v:=Zg false A5 n c5 B5 1 d5) (by simp [results,results47,go_sem,hk2_0,hk2_1,hk2_2]) rfl ?_
 exact⟨A5,c5,B5,d5,rfl,HU5.out,HU6.out,LB.out⟩
theorem rnegi_any{g:Bool}{A:Option Addr}{n c:Nat}{B:Option Addr}{d:Nat}{z:Int}{w:World}(h:RatI w g A n c B d z)(hn:n<=1073741824):Calls prog 47 #[Zg g A n c B 1 d] w (NewI w (-z)):=by
 obtain⟨h1,h2,h3⟩:=h;have hl:=digs_len0 h1.len;have N1:=fun W (hW:Below w.heap.size w W)=>norm_i (h1.below hW) (by omega);have N2:=fun W (hW:Below w.heap.size w W)=>norm_i (h2.below hW) (by omega)
 cases g
 ·have hz:¬ z<0:=of_decide_eq_false h3.symm;refine (rnegi_false A n c B d z.natAbs (decide (0<n)) w N1 N2 rfl hn).mono ?_;rintro e w' ⟨A5,c5,B5,d5,rfl,h5,h6,hb⟩
  exact⟨_,A5,n,c5,B5,d5,rfl,⟨by rw [Int.natAbs_neg];exact h5,h6,by rw [decide_eq_decide];omega⟩,hb⟩
 ·have hz:z<0:=of_decide_eq_true h3.symm;refine (rnegi_true A n c B d z.natAbs w N1 N2).mono ?_;rintro e w' ⟨A5,c5,B5,d5,rfl,h5,h6,hb⟩
  exact⟨_,A5,n,c5,B5,d5,rfl,⟨by rw [Int.natAbs_neg];exact h5,h6,(decide_eq_false (by omega)).symm⟩,hb⟩
theorem integer_walk(g:Bool)(A:Option Addr)(n c:Nat)(B:Option Addr)(m d KZ:Nat)(Z:Int)(w:World)(hKZ:KZ<=31250)(hf:∀ W,Below w.heap.size w W->Calls prog 114 #[Zg g A n c B m d] W fun e w'=>∃ A' n' c',e=.returned (.tuple #[.bool (decide (Z<0)),.slice A' n' c'])/\U32s w' A' n' c' (digs Z.natAbs)/\Below W.heap.size W w')(hz:Z.natAbs<2 ^ (32*KZ)):
  Calls prog 46 #[Zg g A n c B m d] w (NewI w Z):=by
 have HFR:=Hd fun (A1:Option Addr) (n1 c1:Nat) (B1:Option Addr) (d1:Nat) W (h1:U32s W A1 n1 c1 (digs Z.natAbs)) (h2:U32s W B1 1 d1 (digs 1))=>(by
  have l:=h1.len;have l2:(digs Z.natAbs).length<=KZ:=digs_length_le (n:=Z.natAbs) (k:=KZ) hz;have h:=frac1_any (decide (Z<0)) A1 B1 n1 c1 1 d1 Z.natAbs _ _ W h1 h2 (by omega) (by omega) (num_digs _) (num_digs _)
  have e:(if decide (Z<0)=true then -((Z.natAbs:Nat):Int) else ((Z.natAbs:Nat):Int))=Z:=by
   by_cases k:Z<0
   ·rw [if_pos (decide_eq_true k)];omega
   ·rw [if_neg (by simpa using k)];omega
  rw [e] at h
  exact h:Calls prog 96 #[.bool (decide (Z<0)),.slice A1 n1 c1,.slice B1 1 d1,.int .i64 0] W (NewI W Z))
 obtain⟨zn,hzn⟩:∃ b,decide (Z<0)=b:=⟨_,rfl⟩
 rw [hzn] at hf HFR;clear hz hzn;have HF:=Hd hf;clear hf;have LL:=li2 w (Zr g A n c B m d) 42 (Zr false none 0 0 none 0 0) 42
 go_enter func46,ntmps46
 obtain⟨q1_0,q1_1,q1_2⟩:=(LL.out.blk 0 rfl).c3;go_wp2_with fail;refine (HF.out _ LL.out.b).mono ?_;rintro e w1 ⟨A1,n1,c1,rfl,hu1,hb1⟩;replace LL:=stL LL hb1;have U1:=Hd hu1;clear hb1 hu1 HF q1_0 q1_1 q1_2;have HD1:=Hd (show U32s (w1.alloc (.cells #[.int .u32 1] 117)) (some ⟨w1.heap.size,0,none⟩) 1 1 (digs 1) from by rw [digs_one];exact U32s.lit1 w1 117 (a:=1) (by omega));have HQ:=Hd (HFR.out A1 n1 c1 _ 1 (w1.alloc (.cells #[.int .u32 1] 117)) (U1.out.alloc _) HD1.out);replace LL:=Hd (LL.out.alloc (.cells #[.int .u32 1] 117));clear HD1 HFR U1;go_wp2_with fail;refine HQ.out.mono ?_;rintro e w2 ⟨g2,A2,n2,c2,B2,d2,rfl,hr,hb2⟩;replace LL:=stL LL hb2;have HR:=Hd hr;clear hr hb2 HQ;replace LL:=Hd (LL.out.loose1 rfl);obtain⟨ha2_0,hf2_0,ha2_1,hf2_1,ha2_2,hf2_2⟩:=(LL.out.has 0 rfl).sf3;have LF:=Hd (LL.out.wr [.bool g2,.slice A2 n2 c2,.slice B2 1 d2]);obtain⟨hk2_0,hk2_1,hk2_2⟩:=(LF.out.blk 1 rfl).c3
 simp [sets] at hk2_0 hk2_1 hk2_2
 have FR:=Hd ((LL.out.has 0 rfl).ratI HR.out [.bool g2,.slice A2 n2 c2,.slice B2 1 d2]);clear LL;go_wp2;refine bodyPost_ret (v:=Zg g2 A2 n2 c2 B2 1 d2) (by simp [results,results46,go_sem,hk2_0,hk2_1,hk2_2]) rfl ?_
 exact⟨g2,A2,n2,c2,B2,d2,rfl,FR.out,LF.out.b⟩
theorem integer_w(K:Nat)(g:Bool)(A:Option Addr)(n c:Nat)(B:Option Addr)(m d:Nat)(x:Rat)(w:World)(h:RatW w K g (.slice A n c) (.slice B m d) x)(hK:K<=31000):Calls prog 46 #[Zg g A n c B m d] w (NewI w x.floor):=by
 obtain⟨p,q,A',n',c',B',m',d',e1,e2,⟨xs,u,up⟩,⟨ys,v,vq⟩,hq,⟨l1,l2⟩,kp,kq,rfl⟩:=h
 cases e1;cases e2
 have hb:blen p<=32*K:=blen_le_iff.2 kp;have hdiv:p / q<=p:=Nat.div_le_self _ _;have hz:fz g p q=(rv g p q).floor:=fz_floor hq
 obtain⟨KZ,hKZ⟩:∃ k,k=31250:=⟨_,rfl⟩
 refine integer_walk g A n c B m d KZ _ w (by omega) (fun W hW=>rfloor_walk g A n c B m d p q _ W (fun W2 h2=>?_) hz ?_) ?_
 ·have:=by_w A B n c m d _ _ W2 ((u.below hW).below h2) ((v.below hW).below h2) (by omega) (by omega) (by rw [vq];exact hq);rw [up,vq] at this
  exact this
 ·have:=blen_mono hdiv;omega
 ·rw [<- hz]
  have h1:(fz g p q).natAbs<=p+1:=by
   unfold fz
   split
   ·rw [Int.natAbs_neg,Int.natAbs_natCast];split<;>omega
   ·rw [Int.natAbs_natCast];omega
  have h2:2 ^ (32*K)+1<=2 ^ (32*K+1):=by rw [Nat.pow_succ];have:=Nat.two_pow_pos (32*K);omega
  have h3:2 ^ (32*K+1)<=2 ^ (32*KZ):=Nat.pow_le_pow_right (by omega) (by omega)
  omega
theorem above_walk(K:Nat)(g:Bool)(A:Option Addr)(n c:Nat)(B:Option Addr)(m d:Nat)(y:Rat)(Z:Int)(w:World)(hN:∀ W,Below w.heap.size w W->Calls prog 47 #[Zg g A n c B m d] W (NewRatW W K y))(hF:∀ g A n c B m d W,RatW W K g (.slice A n c) (.slice B m d) y->Calls prog 46 #[Zg g A n c B m d] W (NewI W Z))(hM:∀ g A n c B d W,RatI W g A n c B d Z->Calls prog 47 #[Zg g A n c B 1 d] W (NewI W (-Z))):
  Calls prog 48 #[Zg g A n c B m d] w (NewI w (-Z)):=by
 have HN:=Hd hN;have HF:=Hd hF;have HM:=Hd hM;clear hN hF hM;have LL:=li2 w (Zr g A n c B m d) 42 (Zr false none 0 0 none 0 0) 42
 go_enter func48,ntmps48
 obtain⟨q1_0,q1_1,q1_2⟩:=(LL.out.blk 0 rfl).c3;go_wp2_with fail;refine (HN.out _ LL.out.b).mono ?_;rintro e wk ⟨g1,A1,n1,c1,B1,m1,d1,rfl,hr1,hb⟩;replace LL:=stL LL hb;clear hb q1_0 q1_1 q1_2 HN;have HR1:=Hd hr1;clear hr1;go_wp2_with fail;refine (HF.out _ _ _ _ _ _ _ _ HR1.out).mono ?_;rintro e wk ⟨g2,A2,n2,c2,B2,d2,rfl,hr2,hb⟩;replace LL:=stL LL hb;have HR2:=Hd hr2;clear hb hr2 HR1 HF;go_wp2_with fail;refine (HM.out _ _ _ _ _ _ _ HR2.out).mono ?_;rintro e wk ⟨g3,A3,n3,c3,B3,d3,rfl,hr3,hb⟩;replace LL:=stL LL hb;have HR3:=Hd hr3;clear hb hr3 HR2 HM;replace LL:=Hd (LL.out.loose1 rfl);obtain⟨ha2_0,hf2_0,ha2_1,hf2_1,ha2_2,hf2_2⟩:=(LL.out.has 0 rfl).sf3;have LF:=Hd (LL.out.wr [.bool g3,.slice A3 n3 c3,.slice B3 1 d3]);obtain⟨hk2_0,hk2_1,hk2_2⟩:=(LF.out.blk 1 rfl).c3
 simp [sets] at hk2_0 hk2_1 hk2_2
 have FR:=Hd ((LL.out.has 0 rfl).ratI HR3.out [.bool g3,.slice A3 n3 c3,.slice B3 1 d3]);clear LL;go_wp2;refine bodyPost_ret (v:=Zg g3 A3 n3 c3 B3 1 d3) (by simp [results,results48,go_sem,hk2_0,hk2_1,hk2_2]) rfl ?_
 exact⟨g3,A3,n3,c3,B3,d3,rfl,FR.out,LF.out.b⟩
theorem RatI.len{w:World}{g:Bool}{A:Option Addr}{n c:Nat}{B:Option Addr}{d:Nat}{z:Int}(h:RatI w g A n c B d z):n<=34359738368:=h.1.small
theorem floor_abs(K:Nat)(neg:Bool)(p q:Nat)(hq:0<q)(hp:p<2^(32*K)):(rv neg p q).floor.natAbs<2^(32*(K+1)):=by
 rw [<- fz_floor hq];have hdiv:p / q<=p:=Nat.div_le_self _ _
 have h1:(fz neg p q).natAbs<=p+1:=by
  unfold fz
  split
  ·rw [Int.natAbs_neg,Int.natAbs_natCast];split<;>omega
  ·rw [Int.natAbs_natCast];omega
 have h2:2 ^ (32*K)+1<=2 ^ (32*K+1):=by rw [Nat.pow_succ];have:=Nat.two_pow_pos (32*K);omega
 have h3:2 ^ (32*K+1)<=2 ^ (32*(K+1)):=Nat.pow_le_pow_right (by omega) (by omega)
 omega
theorem RatW.floor_abs{w:World}{K:Nat}{g:Bool}{vn vd:Value}{x:Rat}(h:RatW w K g vn vd x):x.floor.natAbs<2^(32*(K+1)):=by
 obtain⟨p,q,A',n',c',B',m',d',e1,e2,-,-,hq,-,kp,kq,rfl⟩:=h
 exact Go.Proofs.YthlmlmfebpjgdaaGreatDoor.floor_abs K g p q hq kp
theorem above_w(K:Nat)(g:Bool)(A:Option Addr)(n c:Nat)(B:Option Addr)(m d:Nat)(x:Rat)(w:World)(h:RatW w K g (.slice A n c) (.slice B m d) x)(hK:K<=31000):Calls prog 48 #[Zg g A n c B m d] w (NewI w x.ceil):=by
 have hf:(-x).floor.natAbs<2^(32*(K+1)):=by
  obtain⟨p,q,A',n',c',B',m',d',e1,e2,-,-,hq,-,kp,kq,rfl⟩:=h;rw [show -rv g p q=rv (!g) p q from by unfold rv;cases g<;>simp<;>grind]
  exact Go.Proofs.YthlmlmfebpjgdaaGreatDoor.floor_abs K (!g) p q hq kp
 rw [show x.ceil=-((-x).floor) from Rat.ceil_eq_neg_floor_neg x]
 exact above_walk K g A n c B m d _ _ w (fun W hW=>rneg_w K g _ _ x W (h.below hW) (by omega)) (fun g A n c B m d W h=>integer_w K g A n c B m d _ W h hK)
  (fun g A n c B d W h=>rnegi_any h (by
   obtain⟨k,hk⟩:∃ k,k=K+1:=⟨_,rfl⟩
   rw [<- hk] at hf;have l:=h.1.len;have l2:(digs (-x).floor.natAbs).length<=k:=digs_length_le (n:=(-x).floor.natAbs) (k:=k) hf
   omega))
theorem oddl_walk(g:Bool)(A:Option Addr)(n c:Nat)(B:Option Addr)(d:Nat)(b:Nat)(r:Bool)(w:World)(hb:∀ W,Below w.heap.size w W->Rt 200 #[.slice A n c,.int .i64 0] (.int .u32 (b:Int)) W)(hr:(b=1/\r=true)\/(b=0/\r=false)):
  Rt 134 #[Zg g A n c B 1 d] (.bool r) w:=by
 have HB:=Hd hb;clear hb
 rcases hr with ⟨rfl,rfl⟩ | ⟨rfl,rfl⟩
 all_goals
  have LL:=li1 w (Zr g A n c B 1 d) 42
  go_enter func134,ntmps134
  obtain⟨q1_0,q1_1,q1_2⟩:=(LL.out.blk 0 rfl).c3;go_wp2_with fail;refine cx (HB.out _ LL.out.b) fun w2 hb2=>?_;replace LL:=stL LL hb2;clear hb2 HB q1_0 q1_1 q1_2;go_wp2
  go_ret
  exact⟨rfl,LL.out.b⟩
theorem oddl_any{g:Bool}{A:Option Addr}{n c:Nat}{B:Option Addr}{d:Nat}{z:Int}{w:World}(h:RatI w g A n c B d z):Rt 134 #[Zg g A n c B 1 d] (.bool (decide (z % 2=1))) w:=by
 have hb:∀ W,Below w.heap.size w W->Rt 200 #[.slice A n c,.int .i64 0] (.int .u32 ((z.natAbs % 2:Nat):Int)) W:=fun W hW=>by
  refine (bit_any A n c 0 _ W (h.1.below hW) (by omega)).mono ?_;rintro e w' ⟨he,rfl⟩;rw [num_digs,Nat.pow_zero,Nat.div_one] at he
  exact⟨he,Below.refl _ _⟩
 refine oddl_walk g A n c B d _ _ w hb ?_
 rcases Nat.mod_two_eq_zero_or_one z.natAbs with k | k
 ·exact .inr ⟨k,decide_eq_false (by omega)⟩
 ·exact .inl ⟨k,decide_eq_true (by omega)⟩
theorem half_walk(K1 K2:Nat)(g:Bool)(A:Option Addr)(n c:Nat)(B:Option Addr)(m d:Nat)(Z s:Int)(y y2:Rat)(w:World)
  (hF:∀ W,Below w.heap.size w W->Calls prog 46 #[Zg g A n c B m d] W (NewI W Z))(hS:∀ g1 A1 n1 c1 B1 d1 W,Below w.heap.size w W->RatI W g1 A1 n1 c1 B1 d1 Z->Calls prog 41 #[Zg g A n c B m d,Zg g1 A1 n1 c1 B1 1 d1] W (NewRatS W K1 y))
  (hT:∀ W,Calls prog 51 #[.int .i64 2] W (NewRatS W 1 2))(hO:∀ W,Calls prog 51 #[.int .i64 1] W (NewRatS W 1 1))
  (hM:∀ g1 A1 n1 c1 B1 m1 d1 g2 A2 n2 c2 B2 m2 d2 W,RatV W K1 g1 (.slice A1 n1 c1) (.slice B1 m1 d1) y->RatV W 1 g2 (.slice A2 n2 c2) (.slice B2 m2 d2) 2->Calls prog 36 #[Zg g1 A1 n1 c1 B1 m1 d1,Zg g2 A2 n2 c2 B2 m2 d2] W (NewRatS W K2 y2))
  (hC:∀ g1 A1 n1 c1 B1 m1 d1 g2 A2 n2 c2 B2 m2 d2 W,RatV W K2 g1 (.slice A1 n1 c1) (.slice B1 m1 d1) y2->RatV W 1 g2 (.slice A2 n2 c2) (.slice B2 m2 d2) 1->Rt 113 #[Zg g1 A1 n1 c1 B1 m1 d1,Zg g2 A2 n2 c2 B2 m2 d2] (.int .i64 s) W):
  Rt 133 #[Zg g A n c B m d] (.int .i64 s) w:=by
 have HF:=Hd hF;have HS:=Hd hS;have HT:=Hd hT;have HO:=Hd hO;have HM:=Hd hM;have HC:=Hd hC;clear hF hS hT hO hM hC;have LL:=li1 w (Zr g A n c B m d) 42
 go_enter func133,ntmps133
 go_upto_region 1 with fail
 go_cut [3] (fun s3 wx=>∃ (j3:Nat) (g5:Bool) (A5:Option Addr) (n5 c5:Nat) (B5:Option Addr) (m5 d5:Nat),s3=.pointer (some ⟨j3,0,none⟩)/\Lies w wx [(w.heap.size,42,(Zr g A n c B m d)),(j3,42,(Zr g5 A5 n5 c5 B5 m5 d5))] []/\RatV wx K1 g5 (.slice A5 n5 c5) (.slice B5 m5 d5) y)
 case first=>
  refine regL LL (fun hHeld=>?_);clear LL;generalize World.drew _=wk at hHeld  ⊢;refine tkb 0 (fun _ h=>(h.blk 0 rfl).c3) ?_;refine tkb 1 (fun _ h=>(h.blk 0 rfl).c3) ?_
  repeat' first
   | (have hx:=hC2;clear hx;go_simp;refine (HF.out _ hHeld.b).mono ?_;rintro e wk ⟨g4,A4,n4,c4,B4,d4,rfl,hr4,hb1⟩;go_wp2_with fail;refine hC2.out _ _ (hHeld.keep hb1) (fun _=>?_);clear hC2 KK hHeld;rename_i hHeld;(try simp only [Act.put,lay]);(try replace HR5:=Hd (HR5.out.below hb1));(try replace B_j3:=B_j3.keep hb1);have HR4:=Hd hr4;clear hr4;clear hb1;have mk2:=True.intro)
   | (have hx:=hC3;clear hx;go_simp;refine (HS.out _ _ _ _ _ _ _ hHeld.b HR4.out).mono ?_;rintro e wk ⟨g5,A5,n5,c5,B5,m5,d5,rfl,hr5,hb2⟩;go_wp2_with fail;refine hC3.out _ _ (hHeld.keep hb2) (fun _=>?_);clear hC3 KK hHeld;rename_i hHeld;(try simp only [Act.put,lay]);(try replace HR4:=Hd (HR4.out.below hb2));(try replace B_j3:=B_j3.keep hb2);have HR5:=Hd hr5;clear hr5;clear hb2;have mk3:=True.intro)
   | (have hx:=hA4;clear hx;go_simp;have hl_j3:=hHeld.lts;refine hA4.out _ _ (hHeld.alloc _) (fun _=>?_);clear hA4 KK hHeld;rename_i hHeld;(try simp only [Act.put,lay]);generalize hwn:World.alloc wk _=wn at hHeld ⊢;have B_j3:=Blk.newE hwn;(try replace HR4:=Hd (HR4.out.below (below_allocE hwn)));(try replace HR5:=Hd (HR5.out.below (below_allocE hwn)));simp only [List.mem_cons,List.not_mem_nil,or_false,forall_eq_or_imp,forall_eq,false_imp_iff,implies_true,and_true] at hl_j3;clear hwn;generalize hg:wk.heap.size=j3 at B_j3 hl_j3 ⊢;clear hg;obtain⟨wk,rfl⟩:∃ X,X=wn:=⟨_,rfl⟩;have mk4:=True.intro)
   | (have hx:=hS5;clear hx;have qz0:=B_j3.ce 0 rfl;have fz0:=B_j3.frozen 0;have qz1:=B_j3.ce 1 rfl;have fz1:=B_j3.frozen 1;have qz2:=B_j3.ce 2 rfl;have fz2:=B_j3.frozen 2;go_simp;have hsx:=hHeld.far [.bool g5,.slice A5 n5 c5,.slice B5 m5 d5] 0 (g:=j3) (by omega) (by simp<;>omega) (by simp<;>omega);generalize hwn:sets wk j3 0 _=wn at hsx;refine hS5.out _ _ (by have e:=hwn;simp only [sets,Nat.reduceAdd] at e;rw [e];exact hsx) (fun _=>?_);clear hS5 KK hHeld hsx;rename_i hHeld;(try simp only [Act.put,lay]);(try replace HR4:=Hd (HR4.out.dropE B_j3 (nowd rfl) hwn));(try replace HR5:=Hd (HR5.out.setsE B_j3 (nowd rfl) hwn));replace B_j3:=B_j3.setsE hwn;simp only [laid,lay,Nat.reduceAdd] at B_j3;simp only [sets,Nat.reduceAdd] at hwn;rw [hwn] at hHeld ⊢;clear hwn qz0 fz0 qz1 fz1 qz2 fz2;obtain⟨wk,rfl⟩:∃ X,X=wn:=⟨_,rfl⟩;have mk5:=True.intro)
   | (have hx:=mk2;have hx:=mk3;have hx:=mk4;have hx:=mk5;refine wpAnyH_done (by kernel_rfl) ?_ _;clear hx mk2 mk3 mk4 mk5;go_wp2_with fail;go_meet;exact⟨j3,g5,A5,n5,c5,B5,m5,d5,rfl,hHeld.put B_j3,HR5.out⟩)
   | (have hx:=mk2;have hx:=mk3;have hx:=mk4;refine rdy 5 (fun KK hS5=>?_))
   | (have hx:=mk2;have hx:=mk4;refine rdy 3 (fun KK hC3=>?_))
   | (have hx:=mk2;have hx:=mk3;refine rdy 4 (fun KK hA4=>?_))
   | (have hx:=mk4;refine rdy 2 (fun KK hC2=>?_))
   | (have hx:=mk2;refine rd2 3 4 (fun KK hC3=>?_) (fun KK hA4=>?_))
   | (refine rd2 2 4 (fun KK hC2=>?_) (fun KK hA4=>?_))
 case rest=>
 obtain⟨j3,g5,A5,n5,c5,B5,m5,d5,rfl,hcl,hr5⟩:=hcut;rename World=>wx;clear LL HF HS;have LL:=Hd hcl;clear hcl;have HR5:=Hd hr5;clear hr5
 go_upto_region 2 with fail
 refine regL LL (fun hHeld=>?_);clear LL;replace HR5:=Hd (HR5.out.below (Below.refl _ _).drew);generalize World.drew _=wk at hHeld HR5 ⊢;refine tkb 0 (fun _ h=>(h.blk 1 rfl).c3) ?_;refine rcn 1 (HT.out _) ?_;clear hHeld;intro wk g6 A6 n6 c6 B6 m6 d6 hr6 hb1 hHeld;(try replace HR5:=Hd (HR5.out.below hb1));(try replace HR7:=Hd (HR7.out.below hb1));(try replace HR8:=Hd (HR8.out.below hb1));have HR6:=Hd hr6;clear hr6;clear hb1;refine rcn 2 (HM.out _ _ _ _ _ _ _ _ _ _ _ _ _ _ _ HR5.out HR6.out) ?_;clear hHeld;intro wk g7 A7 n7 c7 B7 m7 d7 hr7 hb2 hHeld;(try replace HR5:=Hd (HR5.out.below hb2));(try replace HR6:=Hd (HR6.out.below hb2));(try replace HR8:=Hd (HR8.out.below hb2));have HR7:=Hd hr7;clear hr7;clear hb2;refine rcn 3 (HO.out _) ?_;clear hHeld;intro wk g8 A8 n8 c8 B8 m8 d8 hr8 hb3 hHeld;(try replace HR5:=Hd (HR5.out.below hb3));(try replace HR6:=Hd (HR6.out.below hb3));(try replace HR7:=Hd (HR7.out.below hb3));have HR8:=Hd hr8;clear hr8;clear hb3;refine rcs 4 (HC.out _ _ _ _ _ _ _ _ _ _ _ _ _ _ _ HR7.out HR8.out) ?_;clear hHeld;intro wk hb4 hHeld;(try replace HR5:=Hd (HR5.out.below hb4));(try replace HR6:=Hd (HR6.out.below hb4));(try replace HR7:=Hd (HR7.out.below hb4));(try replace HR8:=Hd (HR8.out.below hb4));clear hb4;refine tks 5 ?_;refine wpAnyH_done (by kernel_rfl) ?_ _;have LL:=Hd hHeld;clear hHeld;go_wp2
 go_ret
 exact⟨rfl,LL.out.b⟩
theorem half_w(K:Nat)(g:Bool)(A:Option Addr)(n c:Nat)(B:Option Addr)(m d:Nat)(x:Rat)(w:World)(h:RatW w K g (.slice A n c) (.slice B m d) x)(hK:K<=30000):Rt 133 #[Zg g A n c B m d] (.int .i64 (rc ((x - x.floor)*2) 1)) w:=by
 have hf:=h.floor_abs
 exact half_walk _ _ g A n c B m d _ _ _ _ w (fun W hW=>integer_w K g A n c B m d x W (h.below hW) (by omega))
  (fun g1 A1 n1 c1 B1 d1 W hW hr=>rsub_w (K+1) g A n c B m d x g1 A1 n1 c1 B1 1 d1 _ W ((h.below hW).mono (by omega)) (hr.rat (by omega) hf).w (by omega))
  (fun W=>(int_nat 2 W (by omega)).mono fun _ _ h=>h.s) (fun W=>(int_nat 1 W (by omega)).mono fun _ _ h=>h.s)
  (fun g1 A1 n1 c1 B1 m1 d1 g2 A2 n2 c2 B2 m2 d2 W h1 h2=>(rmul_w (2*(K+1)+1) g1 _ _ _ g2 _ _ _ W h1.w (h2.w.mono (by omega)) (by omega) (by omega)).mono fun _ _ h=>h.s)
  (fun g1 A1 n1 c1 B1 m1 d1 g2 A2 n2 c2 B2 m2 d2 W h1 h2=>rcmp_w (2*(2*(K+1)+1)) g1 _ _ _ g2 _ _ _ W h1.w (h2.w.mono (by omega)) (by omega))
section
open Go.RowKit
end
theorem rsg_zero_iff{x:Rat}:rsg x=0↔x=0:=by
 unfold rsg
 constructor
 ·intro h
  split at h
  ·assumption
  ·split at h<;>cases h
 ·rintro rfl;rfl
def SameSign(r c:Int):Prop:=(r<0↔c<0)/\(0<r↔0<c)
theorem SameSign.refl(c:Int):SameSign c c:=⟨Iff.rfl,Iff.rfl⟩
def Ag(w:World)(c:Int)(e:Ending)(w':World):Prop:=∃ r:Int,e=.returned (.int .i64 r)/\SameSign r c/\Below w.heap.size w w'
theorem ec_idx{i b:Int}(h1:-(M:Int)<=i)(h2:i<=M)(h3:-(M:Int)<=b)(h4:b<=M):SameSign (ec (es i) (ex i) (es b) (ex b)) (i - b):=by
 have hM:M=9218868437227405312:=rfl
 have ei:es i=if i=M then 1 else if i=-(M:Int) then -1 else 0:=rfl
 have eb:es b=if b=M then 1 else if b=-(M:Int) then -1 else 0:=rfl
 rcases Int.lt_trichotomy (es i) (es b) with h | h | h
 ·rw [ec_lt _ _ h];rw [ei,eb] at h;unfold SameSign
  split at h<;>split at h<;>(try split at h)<;>(try split at h)<;>omega
 ·by_cases h0:es i=0
  ·have h0':es b=0:=by omega
   rw [h0,h0',ec_zero,ex_zero h0,ex_zero h0'];unfold rc SameSign
   by_cases hc:i<b
   ·rw [if_pos (fl_lt_iff.2 hc)];omega
   ·rw [if_neg (fun h=>hc (fl_lt_iff.1 h))]
    by_cases hd:b<i
    ·rw [if_pos (fl_lt_iff.2 hd)];omega
    ·rw [if_neg (fun h=>hd (fl_lt_iff.1 h))];omega
  ·rw [ec_inf _ _ h h0];rw [ei,eb] at h;rw [ei] at h0;unfold SameSign
   split at h0<;>(try split at h0)<;>split at h<;>(try split at h)<;>(try split at h)<;>(try split at h)<;>omega
 ·rw [ec_gt _ _ h];rw [ei,eb] at h;unfold SameSign
  split at h<;>split at h<;>(try split at h)<;>(try split at h)<;>omega
theorem SameSign.trans{a b c:Int}(h:SameSign a b)(h':SameSign b c):SameSign a c:=⟨h.1.trans h'.1,h.2.trans h'.2⟩
theorem Ag.trans{w w':World}{a b:Int}{e:Ending}(h:Ag w a e w')(h':SameSign a b):Ag w b e w':=by
 obtain⟨r,h1,h2,h3⟩:=h
 exact⟨r,h1,h2.trans h',h3⟩
def wi(i j a b:Int):Int × Int:=if i<=j/\i<=b/\a<=j then (max i a,min j b) else ((M:Int),-(M:Int))
def wg(i j c1 c2 c3 c4 a b:Int)(o1 o2:Bool):Int × Int:=if 0<c1\/(c1=0/\o2=true)\/c2<0\/(c2=0/\o1=true) then ((M:Int),-(M:Int)) else (if c3<0 then a else i,if 0<c4 then b else j)
def SetOf(w:World)(v:Value)(i j:Int):Prop:=
 (i=M/\j=-(M:Int)/\∃ s x t y g A n c B m d g' A' n' c' B' m' d',v=.agg #[.bool true,.int .i64 s,.bool g,.slice A n c,.slice B m d,.int .i64 t,.bool g',.slice A' n' c',.slice B' m' d'] /\
   RatV w 34 g (.slice A n c) (.slice B m d) x/\RatV w 34 g' (.slice A' n' c') (.slice B' m' d') y) \/
 ((-(M:Int)<=i/\i<=j/\j<=M/\i<M/\-(M:Int)<j)/\∃ g A n c B m d g' A' n' c' B' m' d',v=.agg #[.bool false,.int .i64 (es i),.bool g,.slice A n c,.slice B m d,.int .i64 (es j),.bool g',.slice A' n' c',.slice B' m' d'] /\
   RatV w 34 g (.slice A n c) (.slice B m d) (ex i)/\RatV w 34 g' (.slice A' n' c') (.slice B' m' d') (ex j))
theorem SetOf.below{w w':World}{v:Value}{i j:Int}(h:SetOf w v i j)(hb:Below w.heap.size w w'):SetOf w' v i j:=by
 rcases h with ⟨h1,h2,s,x,t,y,g,A,n,c,B,m,d,g',A',n',c',B',m',d',h3,h4,h5⟩ | ⟨h1,g,A,n,c,B,m,d,g',A',n',c',B',m',d',h3,h4,h5⟩
 ·exact .inl ⟨h1,h2,s,x,t,y,g,A,n,c,B,m,d,g',A',n',c',B',m',d',h3,h4.below hb,h5.below hb⟩
 ·exact .inr ⟨h1,g,A,n,c,B,m,d,g',A',n',c',B',m',d',h3,h4.below hb,h5.below hb⟩
theorem SetOf.iv{w:World}{v:Value}{i j:Int}(h:SetOf w v i j):Iv i j:=by
 rcases h with ⟨h1,h2,-⟩ | ⟨h1,-⟩
 ·exact .inr ⟨h1,h2⟩
 ·exact .inl h1
theorem of_idx(x y:Nat)(w:World)(hx:L64 x)(hy:L64 y):
  Calls prog 83 #[.agg #[.int .u64 (x:Int),.int .u64 (y:Int)]] w fun e w'=>∃ v,e=.returned v/\SetOf w' v (rd x y).1 (rd x y).2/\Below w.heap.size w w':=by
 cases h:snd x y
 ·refine (of_none x y w hx hy h).mono ?_;rintro e w' ⟨g,A,n,c,B,m,d,g',A',n',c',B',m',d',rfl,h1,h2,hb⟩;refine⟨_,rfl,.inl ?_,hb⟩;unfold rd;rw [h]
  exact⟨rfl,rfl,_,_,_,_,g,A,n,c,B,m,d,g',A',n',c',B',m',d',rfl,h1.k34,h2.k34⟩
 ·refine (of_full x y w hx hy h).mono ?_;rintro e w' ⟨g,A,n,c,B,m,d,g',A',n',c',B',m',d',rfl,h1,h2,hb⟩;refine⟨_,rfl,.inr ?_,hb⟩;have hd:=of_decide_eq_true h;have hi:=idx_bounds hd.1;have hj:=idx_bounds hd.2.1;unfold rd;rw [h]
  exact⟨⟨hi.1,hd.2.2.1,hj.2,hd.2.2.2.1,hd.2.2.2.2⟩,g,A,n,c,B,m,d,g',A',n',c',B',m',d',rfl,h1,h2⟩
def hl(i j i' j':Int):Int × Int:=if j<i then (i',j') else if j'<i' then (i,j) else (min i i',max j j')
section
open Go.RowKit
end
def PcW(w:World)(o:Bool)(s1:Int)(g1:Bool)(A1:Option Addr)(n1 c1:Nat)(B1:Option Addr)(m1 d1:Nat)(N1:Int)(o1:Bool)(s2:Int)(g2:Bool)(A2:Option Addr)(n2 c2:Nat)(B2:Option Addr)(m2 d2:Nat)(N2:Int)(o2:Bool)(F:Int->Int->Int × Int):Prop:=
 (∀ i j,Iv i j->Iv (F i j).1 (F i j).2)/\∀ W i j,Below w.heap.size w W->Iv i j ->
  Calls prog 147 #[.agg #[.int .u64 (pat i:Int),.int .u64 (pat j:Int)],.agg #[.bool o,.int .i64 s1,.bool g1,.slice A1 n1 c1,.slice B1 m1 d1,.int .i64 N1,.bool o1,.int .i64 s2,.bool g2,.slice A2 n2 c2,.slice B2 m2 d2,.int .i64 N2,.bool o2]] W
   fun e w'=>e=.returned (.agg #[.int .u64 (pat (F i j).1:Int),.int .u64 (pat (F i j).2:Int)])/\Below W.heap.size W w'
def PcG(W:World)(ad:Addr)(k:Nat)(F:Int->Int->Int × Int):Prop:=
 ∃ o s1 g1 A1 n1 c1 B1 m1 d1 N1 o1 s2 g2 A2 n2 c2 B2 m2 d2 N2 o2,
  W.cell? (ad.add (k*13))=some (.bool o)/\W.cell? ⟨(ad.add (k*13)).block,(ad.add (k*13)).off+1,none⟩=some (.int .i64 s1)/\W.cell? ⟨(ad.add (k*13)).block,(ad.add (k*13)).off+2,none⟩=some (.bool g1) /\
  W.cell? ⟨(ad.add (k*13)).block,(ad.add (k*13)).off+3,none⟩=some (.slice A1 n1 c1)/\W.cell? ⟨(ad.add (k*13)).block,(ad.add (k*13)).off+4,none⟩=some (.slice B1 m1 d1)/\W.cell? ⟨(ad.add (k*13)).block,(ad.add (k*13)).off+5,none⟩=some (.int .i64 N1) /\
  W.cell? ⟨(ad.add (k*13)).block,(ad.add (k*13)).off+6,none⟩=some (.bool o1)/\W.cell? ⟨(ad.add (k*13)).block,(ad.add (k*13)).off+7,none⟩=some (.int .i64 s2)/\W.cell? ⟨(ad.add (k*13)).block,(ad.add (k*13)).off+8,none⟩=some (.bool g2) /\
  W.cell? ⟨(ad.add (k*13)).block,(ad.add (k*13)).off+9,none⟩=some (.slice A2 n2 c2)/\W.cell? ⟨(ad.add (k*13)).block,(ad.add (k*13)).off+10,none⟩=some (.slice B2 m2 d2)/\W.cell? ⟨(ad.add (k*13)).block,(ad.add (k*13)).off+11,none⟩=some (.int .i64 N2) /\
  W.cell? ⟨(ad.add (k*13)).block,(ad.add (k*13)).off+12,none⟩=some (.bool o2)/\PcW W o s1 g1 A1 n1 c1 B1 m1 d1 N1 o1 s2 g2 A2 n2 c2 B2 m2 d2 N2 o2 F
theorem PcG.of{W:World}{g:Nat}{t:TypeId}{cs:Array Value}{k:Nat}{F:Int->Int->Int × Int}(hb:Blk W g t cs){o:Bool}{s1:Int}{g1:Bool}{A1:Option Addr}{n1 c1:Nat}{B1:Option Addr}{m1 d1:Nat}{N1:Int}{o1:Bool}{s2:Int}{g2:Bool}{A2:Option Addr}{n2 c2:Nat}{B2:Option Addr}{m2 d2:Nat}{N2:Int}{o2:Bool}
  (h:PcW W o s1 g1 A1 n1 c1 B1 m1 d1 N1 o1 s2 g2 A2 n2 c2 B2 m2 d2 N2 o2 F)
  (hc:∀ i:Nat,i<13->cs[k*13+i]?=(#[.bool o,.int .i64 s1,.bool g1,.slice A1 n1 c1,.slice B1 m1 d1,.int .i64 N1,.bool o1,.int .i64 s2,.bool g2,.slice A2 n2 c2,.slice B2 m2 d2,.int .i64 N2,.bool o2]:Array Value)[i]?):PcG W ⟨g,0,none⟩ k F:=by
 have e:(⟨g,0,none⟩:Addr).add (k*13)=⟨g,k*13,none⟩:=by unfold Addr.add;split<;>simp_all
 have c:∀ i:Nat,i<13->W.cell? ⟨g,k*13+i,none⟩=(#[.bool o,.int .i64 s1,.bool g1,.slice A1 n1 c1,.slice B1 m1 d1,.int .i64 N1,.bool o1,.int .i64 s2,.bool g2,.slice A2 n2 c2,.slice B2 m2 d2,.int .i64 N2,.bool o2]:Array Value)[i]?:=fun i hi=>(hb.cell _).trans (hc i hi);refine⟨o,s1,g1,A1,n1,c1,B1,m1,d1,N1,o1,s2,g2,A2,n2,c2,B2,m2,d2,N2,o2,?_,?_,?_,?_,?_,?_,?_,?_,?_,?_,?_,?_,?_,h⟩
 ·rw [e];exact c 0 (by omega)
 ·rw [e];exact c 1 (by omega)
 ·rw [e];exact c 2 (by omega)
 ·rw [e];exact c 3 (by omega)
 ·rw [e];exact c 4 (by omega)
 ·rw [e];exact c 5 (by omega)
 ·rw [e];exact c 6 (by omega)
 ·rw [e];exact c 7 (by omega)
 ·rw [e];exact c 8 (by omega)
 ·rw [e];exact c 9 (by omega)
 ·rw [e];exact c 10 (by omega)
 ·rw [e];exact c 11 (by omega)
 ·rw [e];exact c 12 (by omega)
theorem SetOf.setB{w:World}{v:Value}{i j:Int}(h:SetOf w v i j){g:Nat}{t:TypeId}{cs:Array Value}(hb:Blk w g t cs)(hc:NoWd cs)(k:Nat)(vs:List Value):SetOf (sets w g k vs) v i j:=by
 rcases h with ⟨rfl,rfl,s,x,t,y,g,A,n,c,B,m,d,g',A',n',c',B',m',d',rfl,h4,h5⟩ | ⟨h1,g,A,n,c,B,m,d,g',A',n',c',B',m',d',rfl,h4,h5⟩
 ·exact .inl ⟨rfl,rfl,s,x,t,y,g,A,n,c,B,m,d,g',A',n',c',B',m',d',rfl,h4.sets hb hc k vs,h5.sets hb hc k vs⟩
 ·exact .inr ⟨h1,g,A,n,c,B,m,d,g',A',n',c',B',m',d',rfl,h4.sets hb hc k vs,h5.sets hb hc k vs⟩
theorem SetOf.setsE{w W':World}{v:Value}{i j:Int}(h:SetOf w v i j){g:Nat}{t:TypeId}{cs:Array Value}{k:Nat}{vs:List Value}(hb:Blk w g t cs)(hc:NoWd cs)(e:sets w g k vs=W'):SetOf W' v i j:=e ▸ h.setB hb hc k vs
def NewSetI(w:World)(i j:Int)(e:Ending)(w':World):Prop:=
 ∃ o s g A n c B m d t g' A' n' c' B' m' d',e=.returned (.agg #[.bool o,.int .i64 s,.bool g,.slice A n c,.slice B m d,.int .i64 t,.bool g',.slice A' n' c',.slice B' m' d']) /\
  SetOf w' (.agg #[.bool o,.int .i64 s,.bool g,.slice A n c,.slice B m d,.int .i64 t,.bool g',.slice A' n' c',.slice B' m' d']) i j/\Below w.heap.size w w'
theorem SetOf.cells{w:World}{v:Value}{i j:Int}(h:SetOf w v i j):∃ o s g A n c B m d t g' A' n' c' B' m' d',v=.agg #[.bool o,.int .i64 s,.bool g,.slice A n c,.slice B m d,.int .i64 t,.bool g',.slice A' n' c',.slice B' m' d']:=by
 rcases h with ⟨-,-,s,x,t,y,g,A,n,c,B,m,d,g',A',n',c',B',m',d',rfl,-,-⟩ | ⟨-,g,A,n,c,B,m,d,g',A',n',c',B',m',d',rfl,-,-⟩
 ·exact⟨_,_,_,_,_,_,_,_,_,_,_,_,_,_,_,_,_,rfl⟩
 ·exact⟨_,_,_,_,_,_,_,_,_,_,_,_,_,_,_,_,_,rfl⟩
theorem of_i(x y:Nat)(w:World)(hx:L64 x)(hy:L64 y):
  Calls prog 83 #[.agg #[.int .u64 (x:Int),.int .u64 (y:Int)]] w (NewSetI w (rd x y).1 (rd x y).2):=
 (of_idx x y w hx hy).mono fun e w' ⟨v,he,hs,hb⟩=>by
  obtain⟨o,s,g,A,n,c,B,m,d,t,g',A',n',c',B',m',d',rfl⟩:=hs.cells
  exact⟨o,s,g,A,n,c,B,m,d,t,g',A',n',c',B',m',d',he,hs,hb⟩
theorem PcG.at{W:World}{g:Nat}{t:TypeId}{cs:Array Value}(hb:Blk W g t cs)(k:Nat){o:Bool}{s1:Int}{g1:Bool}{A1:Option Addr}{n1 c1:Nat}{B1:Option Addr}{m1 d1:Nat}{N1:Int}{o1:Bool}{s2:Int}{g2:Bool}{A2:Option Addr}{n2 c2:Nat}{B2:Option Addr}{m2 d2:Nat}{N2:Int}{o2:Bool}{F:Int->Int->Int × Int}
  (h:PcW W o s1 g1 A1 n1 c1 B1 m1 d1 N1 o1 s2 g2 A2 n2 c2 B2 m2 d2 N2 o2 F)
  (hc:cs[k*13]?=some (.bool o)/\cs[k*13+1]?=some (.int .i64 s1)/\cs[k*13+2]?=some (.bool g1)/\cs[k*13+3]?=some (.slice A1 n1 c1)/\cs[k*13+4]?=some (.slice B1 m1 d1)/\cs[k*13+5]?=some (.int .i64 N1)/\cs[k*13+6]?=some (.bool o1)/\cs[k*13+7]?=some (.int .i64 s2)/\cs[k*13+8]?=some (.bool g2)/\cs[k*13+9]?=some (.slice A2 n2 c2)/\cs[k*13+10]?=some (.slice B2 m2 d2)/\cs[k*13+11]?=some (.int .i64 N2)/\cs[k*13+12]?=some (.bool o2)):PcG W ⟨g,0,none⟩ k F:=
 PcG.of hb h fun i hi=>by
  obtain⟨c0,c1,c2,c3,c4,c5,c6,c7,c8,c9,c10,c11,c12⟩:=hc
  match i,hi with
  | 0,_=>exact c0 | 1,_=>exact c1 | 2,_=>exact c2 | 3,_=>exact c3 | 4,_=>exact c4 | 5,_=>exact c5 | 6,_=>exact c6 | 7,_=>exact c7 | 8,_=>exact c8 | 9,_=>exact c9 | 10,_=>exact c10 | 11,_=>exact c11 | 12,_=>exact c12
section
open Go.RowKit
end
section
open Go.RowKit
end
def pf(s1:Int)(x1:Rat)(o1:Bool)(s2:Int)(x2:Rat)(o2:Bool)(i j:Int):Int × Int:=
 if j<i then ((M:Int),-(M:Int)) else wg i j (ec (es i) (ex i) s2 x2) (ec (es j) (ex j) s1 x1) (ec (es i) (ex i) s1 x1) (ec (es j) (ex j) s2 x2) (rndI (-1) x1) (rndI 1 x2) o1 o2
theorem dn_le_up(s:Int)(x:Rat):dn s x<=up s x:=by
 unfold dn up
 split
 ·exact rndI_le x
 ·omega
theorem dn_lt{s:Int}{x:Rat}(h:s=0\/s=-1):-(M:Int)<=dn s x/\dn s x<M:=by
 have hM:M=9218868437227405312:=rfl
 rcases h with rfl | rfl
 ·have:=rndI_down x;rw [dn_zero];omega
 ·unfold dn;rw [if_neg (by omega)];omega
theorem up_gt{s:Int}{x:Rat}(h:s=0\/s=1):-(M:Int)<up s x/\up s x<=M:=by
 have hM:M=9218868437227405312:=rfl
 rcases h with rfl | rfl
 ·have:=rndI_up x;rw [up_zero];omega
 ·unfold up;rw [if_neg (by omega)];omega
theorem pf_iv{s1:Int}{x1:Rat}{o1:Bool}{s2:Int}{x2:Rat}{o2:Bool}(hs1:s1=0\/s1=-1)(hs2:s2=0\/s2=1)(hle:dn s1 x1<=up s2 x2)(i j:Int)(h:Iv i j):Iv (pf s1 x1 o1 s2 x2 o2 i j).1 (pf s1 x1 o1 s2 x2 o2 i j).2:=by
 rcases h with h | ⟨rfl,rfl⟩
 ·unfold pf;rw [if_neg (by omega)];unfold wg
  split
  ·exact Iv.none
  ·rename_i hn;rw [ec_lo_at (by omega) hs1,ec_hi_at (by omega) hs2];have e1:¬ dn s2 x2<i:=fun h'=>hn (.inl ((ec_hi (by omega) hs2).2 h'));have e2:¬ j<up s1 x1:=fun h'=>hn (.inr (.inr (.inl ((ec_lo (by omega) hs1).2 h'))));have e3:=dn_le_up s1 x1;have e4:=dn_le_up s2 x2;have e5:=dn_lt (x:=x1) hs1;have e6:=up_gt (x:=x2) hs2;unfold Iv
   dsimp only
   omega
 ·unfold pf;have hM:M=9218868437227405312:=rfl;rw [if_pos (by omega)];exact Iv.none
theorem PcW.below{w w0:World}{o:Bool}{s1:Int}{g1:Bool}{A1:Option Addr}{n1 c1:Nat}{B1:Option Addr}{m1 d1:Nat}{N1:Int}{o1:Bool}{s2:Int}{g2:Bool}{A2:Option Addr}{n2 c2:Nat}{B2:Option Addr}{m2 d2:Nat}{N2:Int}{o2:Bool}{F:Int->Int->Int × Int}
  (h:PcW w0 o s1 g1 A1 n1 c1 B1 m1 d1 N1 o1 s2 g2 A2 n2 c2 B2 m2 d2 N2 o2 F)(hb:Below w0.heap.size w0 w):PcW w o s1 g1 A1 n1 c1 B1 m1 d1 N1 o1 s2 g2 A2 n2 c2 B2 m2 d2 N2 o2 F:=
 ⟨h.1,fun W i j hW hij=>h.2 W i j (hb.trans (hW.mono hb.size)) hij⟩
section
open Go.RowKit
end
def Ne(i j:Int):Prop:=-(M:Int)<=i/\i<=j/\j<=M/\i<M/\-(M:Int)<j
theorem Ne.iv{i j:Int}(h:Ne i j):Iv i j:=.inl h
theorem Ne.neg{i j:Int}(h:Ne i j):Ne (-j) (-i):=by unfold Ne at *;omega
theorem ne_or{i j:Int}(h:Iv i j)(h2:¬ j<i):Ne i j:=by
 rcases h with h | ⟨rfl,rfl⟩
 ·exact h
 ·have hM:=M_val
  omega
section
attribute [local go_sem] run_store_float
theorem run_eqf(p q:Nat)(W:World):(Op.equalIn 9999 26 (.float .f64 p) (.float .f64 q)).run prog W=.ok (FloatKind.f64.format.order p q == some .eq) W:=by
 rw [show (9999:Nat)=9998+1 from rfl,Op.equalIn]
 simp only [Sem.run_bind,run_underlying Tryz.underlying26,Result.andThen_ok,if_true,Sem.run_pure]
 rfl
attribute [local go_sem] run_eqf
theorem readf_idx(i j:Int)(w:World)(h:Iv i j):Rt 102 #[Zf (pat i) (pat j)] (Zf (pat i) (pat j)) w:=by
 have h2:=readf (pat i) (pat j) w (pat_lt h.lo.1 h.lo.2) (pat_lt h.hi.1 h.hi.2);rw [rd_pat h] at h2
 exact h2
def Em(a:Bool)(p1 p2:Nat):Prop:=(a=true->FloatKind.f64.format.order p1 9218868437227405312=some .eq/\FloatKind.f64.format.order p2 18442240474082181120=some .eq)/\(a=false->FloatKind.f64.format.order p1 9218868437227405312=some .lt)
end
section
attribute [local go_sem] run_store_float run_eqf
theorem run_maxf{i j:Int}(h1:-(M:Int)<=i/\i<=M)(h2:-(M:Int)<=j/\j<=M)(W:World)(ts:Array TypeId)(t:TypeId):(Builtin.max_ ts t (Zv (pat i) (pat j))).run prog W=.ok (.float .f64 (pat (max i j))) W:=by
 have ho:=order_pat h1.1 h1.2 h2.1 h2.2
 have e:(Builtin.max_ ts t (Zv (pat i) (pat j)))=Builtin.max2 (.float .f64 (pat i)) (.float .f64 (pat j)):=by simp [Builtin.max_]
 rw [e];unfold Builtin.max2
 dsimp only
 rw [ho]
 rcases Int.lt_trichotomy i j with h | h | h
 ·rw [show compare i j=.lt from Int.compare_eq_lt.2 h,show max i j=j from by omega];rfl
 ·subst h;rw [show compare i i=.eq from Int.compare_eq_eq.2 rfl,show max i i=i from by omega]
  simp
 ·rw [show compare i j=.gt from Int.compare_eq_gt.2 h,show max i j=i from by omega];rfl
theorem run_minf{i j:Int}(h1:-(M:Int)<=i/\i<=M)(h2:-(M:Int)<=j/\j<=M)(W:World)(ts:Array TypeId)(t:TypeId):(Builtin.min_ ts t (Zv (pat i) (pat j))).run prog W=.ok (.float .f64 (pat (min i j))) W:=by
 have ho:=order_pat h1.1 h1.2 h2.1 h2.2
 have e:(Builtin.min_ ts t (Zv (pat i) (pat j)))=Builtin.min2 (.float .f64 (pat i)) (.float .f64 (pat j)):=by simp [Builtin.min_]
 rw [e];unfold Builtin.min2
 dsimp only
 rw [ho]
 rcases Int.lt_trichotomy i j with h | h | h
 ·rw [show compare i j=.lt from Int.compare_eq_lt.2 h,show min i j=i from by omega];rfl
 ·subst h;rw [show compare i i=.eq from Int.compare_eq_eq.2 rfl,show min i i=i from by omega]
  simp
 ·rw [show compare i j=.gt from Int.compare_eq_gt.2 h,show min i j=j from by omega];rfl
theorem em_idx{i j:Int}(h:Iv i j):Em (decide (j<i)) (pat i) (pat j):=by
 have hM:M=9218868437227405312:=rfl;have o1:=order_pat h.lo.1 h.lo.2 (show -(M:Int)<=(M:Int) by omega) (Int.le_refl _);have o2:=order_pat h.hi.1 h.hi.2 (Int.le_refl _) (show -(M:Int)<=(M:Int) by omega);rw [pat_max] at o1;rw [pat_min] at o2;unfold Iv at h;refine⟨fun e=>?_,fun e=>?_⟩
 ·have e:=of_decide_eq_true e;rw [o1,o2]
  exact⟨by rw [show compare i (M:Int)=.eq from Int.compare_eq_eq.2 (by omega)],by rw [show compare j (-(M:Int))=.eq from Int.compare_eq_eq.2 (by omega)]⟩
 ·have e:=of_decide_eq_false e;rw [o1,show compare i (M:Int)=.lt from Int.compare_eq_lt.2 (by omega)]
def it(i j i' j':Int):Int × Int:=if j<i\/j'<i'\/min j j'<max i i' then ((M:Int),-(M:Int)) else (max i i',min j j')
theorem it_iv{i j i' j':Int}(h:Iv i j)(h':Iv i' j'):Iv (it i j i' j').1 (it i j i' j').2:=by
 unfold it
 split
 ·exact Iv.none
 ·unfold Iv at *;rw [M_val] at *
  dsimp only
  omega
end
section
attribute [local go_sem] run_store_float run_eqf
theorem not_gt2{i j:Int}(hi:-(M:Int)<=i/\i<=M)(hj:-(M:Int)<=j/\j<=M)(h:¬ j<i):(FloatKind.f64.format.order (pat i) (pat j) == some Ordering.gt)=false:=by
 rw [order_pat hi.1 hi.2 hj.1 hj.2]
 rcases Int.lt_trichotomy i j with h2 | h2 | h2
 ·rw [Int.compare_eq_lt.2 h2];rfl
 ·rw [Int.compare_eq_eq.2 h2];rfl
 ·exact absurd h2 h
theorem not_lt2{i j:Int}(hi:-(M:Int)<=i/\i<=M)(hj:-(M:Int)<=j/\j<=M)(h:¬ i<j):(FloatKind.f64.format.order (pat i) (pat j) == some Ordering.lt)=false:=by
 rw [order_pat hi.1 hi.2 hj.1 hj.2]
 rcases Int.lt_trichotomy i j with h2 | h2 | h2
 ·exact absurd h2 h
 ·rw [Int.compare_eq_eq.2 h2];rfl
 ·rw [Int.compare_eq_gt.2 h2];rfl
theorem rcut2_gt(op:Bool)(i j pd pu qd qu:Nat)(w:World)(o1:FloatKind.f64.format.order i qd=some .gt):
  Rt 77 #[Zf i j,Zf pd pu,Zf qd qu,.bool op] (Zf 9218868437227405312 18442240474082181120) w:=by
 obtain⟨LB0,LG0_0,LG1_0,LG2_0,LR⟩:=bx4 w (Zv i j) 28 (Zv pd pu) 78 (Zv qd qu) 78 (Zv 0 0) 28;have LR0:=Hd (HasBlk.of (n:=2) LR.out rfl rfl);clear LR;have HE:=Hd emptyf
 go_enter func77,ntmps77
 obtain⟨q0_0,q0_1⟩:=LG0_0.out.c2;obtain⟨q1_0,q1_1⟩:=LG1_0.out.c2;obtain⟨q2_0,q2_1⟩:=LG2_0.out.c2;go_wp2_with fail;refine cx (HE.out _) fun w1 hb1=>?_;have LB1:=stB LB0 hb1 LB0.out.size;have LR1:=stR LR0 hb1;have LG0_1:=stG LG0_0 hb1;have LG1_1:=stG LG1_0 hb1;have LG2_1:=stG LG2_0 hb1;clear LB0 LR0 LG0_0 LG1_0 LG2_0;clear hb1 HE;obtain⟨ha0,hf0,ha1,hf1⟩:=LR1.out.sf2;obtain⟨hk0,hk1⟩:=LR1.out.sc2 (.float .f64 9218868437227405312) (.float .f64 18442240474082181120);have F:=Hd (below_sets (w0:=w) (r:=(w.heap.size+3)) (by omega) [.float .f64 9218868437227405312,.float .f64 18442240474082181120] 0 _ LB1.out)
 simp [sets] at hk0 hk1
 go_wp2;refine bodyPost_ret (v:=Zf 9218868437227405312 18442240474082181120) (by simp [results,results77,go_sem,hk0,hk1]) rfl ?_
 exact⟨rfl,F.out⟩
theorem rcut2_lt(op:Bool)(i j pd pu qd qu:Nat)(w:World)(o1:(FloatKind.f64.format.order i qd == some Ordering.gt)=false)(o2:FloatKind.f64.format.order j pu=some .lt):
  Rt 77 #[Zf i j,Zf pd pu,Zf qd qu,.bool op] (Zf 9218868437227405312 18442240474082181120) w:=by
 obtain⟨LB0,LG0_0,LG1_0,LG2_0,LR⟩:=bx4 w (Zv i j) 28 (Zv pd pu) 78 (Zv qd qu) 78 (Zv 0 0) 28;have LR0:=Hd (HasBlk.of (n:=2) LR.out rfl rfl);clear LR;have HE:=Hd emptyf
 go_enter func77,ntmps77
 obtain⟨q0_0,q0_1⟩:=LG0_0.out.c2;obtain⟨q1_0,q1_1⟩:=LG1_0.out.c2;obtain⟨q2_0,q2_1⟩:=LG2_0.out.c2;go_wp2_with fail;refine cx (HE.out _) fun w1 hb1=>?_;have LB1:=stB LB0 hb1 LB0.out.size;have LR1:=stR LR0 hb1;have LG0_1:=stG LG0_0 hb1;have LG1_1:=stG LG1_0 hb1;have LG2_1:=stG LG2_0 hb1;clear LB0 LR0 LG0_0 LG1_0 LG2_0;clear hb1 HE;obtain⟨ha0,hf0,ha1,hf1⟩:=LR1.out.sf2;obtain⟨hk0,hk1⟩:=LR1.out.sc2 (.float .f64 9218868437227405312) (.float .f64 18442240474082181120);have F:=Hd (below_sets (w0:=w) (r:=(w.heap.size+3)) (by omega) [.float .f64 9218868437227405312,.float .f64 18442240474082181120] 0 _ LB1.out)
 simp [sets] at hk0 hk1
 go_wp2;refine bodyPost_ret (v:=Zf 9218868437227405312 18442240474082181120) (by simp [results,results77,go_sem,hk0,hk1]) rfl ?_
 exact⟨rfl,F.out⟩
def CutC(op:Bool)(i j pd pu qd qu:Nat)(cc:Bool):Prop:=
 (op=false/\cc=false)\/(op=true/\cc=true/\(FloatKind.f64.format.order pd 0=some .eq/\FloatKind.f64.format.order pu 0=some .eq)/\(FloatKind.f64.format.order j 0=some .lt\/FloatKind.f64.format.order j 0=some .eq))\/(op=true/\((FloatKind.f64.format.order pd 0 == some Ordering.eq)=false\/(FloatKind.f64.format.order pd 0=some .eq/\(FloatKind.f64.format.order pu 0 == some Ordering.eq)=false)\/(FloatKind.f64.format.order pd 0=some .eq/\FloatKind.f64.format.order pu 0=some .eq/\FloatKind.f64.format.order j 0=some .gt))/\cc=true/\(FloatKind.f64.format.order qd 0=some .eq/\FloatKind.f64.format.order qu 0=some .eq)/\(FloatKind.f64.format.order i 0=some .gt\/FloatKind.f64.format.order i 0=some .eq))\/(op=true/\((FloatKind.f64.format.order pd 0 == some Ordering.eq)=false\/(FloatKind.f64.format.order pd 0=some .eq/\(FloatKind.f64.format.order pu 0 == some Ordering.eq)=false)\/(FloatKind.f64.format.order pd 0=some .eq/\FloatKind.f64.format.order pu 0=some .eq/\FloatKind.f64.format.order j 0=some .gt))/\cc=false/\((FloatKind.f64.format.order qd 0 == some Ordering.eq)=false\/(FloatKind.f64.format.order qd 0=some .eq/\(FloatKind.f64.format.order qu 0 == some Ordering.eq)=false)\/(FloatKind.f64.format.order qd 0=some .eq/\FloatKind.f64.format.order qu 0=some .eq/\FloatKind.f64.format.order i 0=some .lt)))
theorem rcut2_in(op:Bool)(i j pd pu qd qu a b:Nat)(w:World)(o1:(FloatKind.f64.format.order i qd == some Ordering.gt)=false)(o2:(FloatKind.f64.format.order j pu == some Ordering.lt)=false)(cc:Bool)(hc:CutC op i j pd pu qd qu cc)(m1:∀ W ts t,(Builtin.max_ ts t (Zv i pd)).run prog W=.ok (.float .f64 a) W)(m2:∀ W ts t,(Builtin.min_ ts t (Zv j qu)).run prog W=.ok (.float .f64 b) W):
  Rt 77 #[Zf i j,Zf pd pu,Zf qd qu,.bool op] (.agg #[.float .f64 (if cc then 9218868437227405312 else a),.float .f64 (if cc then 18442240474082181120 else b)]) w:=by
 obtain⟨LB0,LG0_0,LG1_0,LG2_0,LR⟩:=bx4 w (Zv i j) 28 (Zv pd pu) 78 (Zv qd qu) 78 (Zv 0 0) 28;have LR0:=Hd (HasBlk.of (n:=2) LR.out rfl rfl);clear LR;have HA:=Hd fun W=>at_any 0 W;have HE:=Hd emptyf;have HC:=Hd hc;have M1:=Hd m1;have M2:=Hd m2;clear hc m1 m2
 go_enter func77,ntmps77
 obtain⟨q0_0,q0_1⟩:=LG0_0.out.c2;obtain⟨q1_0,q1_1⟩:=LG1_0.out.c2;obtain⟨q2_0,q2_1⟩:=LG2_0.out.c2
 go_upto_region 3 with fail
 clear o1 o2 q0_0 q0_1 q1_0 q1_1 q2_0 q2_1
 obtain⟨W0,hW0⟩:∃ X,((((w.alloc (.cells (Zv i j) 28)).alloc (.cells (Zv pd pu) 78)).alloc (.cells (Zv qd qu) 78)).alloc (.cells (Zv 0 0) 28))=X:=⟨_,rfl⟩
 rw [hW0] at LB0 LR0 LG0_0 LG1_0 LG2_0 ⊢;clear hW0
 go_cut [42] (fun s42 wx=>s42=.bool cc/\Blk wx (w.heap.size) 28 (Zv i j)/\Blk wx (w.heap.size+1) 78 (Zv pd pu)/\Blk wx (w.heap.size+2) 78 (Zv qd qu)/\HasBlk wx (w.heap.size+3) 28 2/\Below w.heap.size w wx)
 case first=>
  have hc:=HC.out;clear HC HE M1 M2
  rcases hc with ⟨rfl,rfl⟩ | ⟨rfl,rfl,⟨z1,z2⟩,(z3 | z3)⟩ | ⟨rfl,(z1 | ⟨z1,z2⟩ | ⟨z1,z2,z3⟩),rfl,⟨z4,z5⟩,(z6 | z6)⟩ | ⟨rfl,(z1 | ⟨z1,z2⟩ | ⟨z1,z2,z3⟩),rfl,(z4 | ⟨z4,z5⟩ | ⟨z4,z5,z6⟩)⟩
  all_goals
   refine wp_region_held_drew (S:=fun W'=>Blk W' w.heap.size 28 (Zv i j)/\Blk W' (w.heap.size+1) 78 (Zv pd pu)/\Blk W' (w.heap.size+2) 78 (Zv qd qu)/\HasBlk W' (w.heap.size+3) 28 2/\Below w.heap.size w W') (by kernel_rfl) (by exact⟨LG0_0.out.drew,LG1_0.out.drew,LG2_0.out.drew,LR0.out.drew,LB0.out.drew⟩) (fun hHeld=>?_)
   (refine tk 0 ?_)
   (try simp only [Act.put,lay])
   (refine tk 1 ?_)
   (try simp only [Act.put,lay])
   first | (refine tkn 2 ?_) | (refine tk 2 ?_ (hv:=by intro W2 hSw;(try dsimp only at hSw);have q0:_=some (.float .f64 pd:Value):=hSw.2.1.cell 0;have q1:_=some (.float .f64 pu:Value):=hSw.2.1.cell 1;go_simp;(try with_reducible rfl)))
   (try simp only [Act.put,lay])
   first | (refine tkn 3 ?_) | (refine rdy 3 fun KK hKK=>?_;go_simp;refine (HA.out _).mono ?_;rintro e w1 ⟨rfl,hbA⟩;go_wp2_with fail;refine hKK.out _ _ (⟨hHeld.1.keep hbA,hHeld.2.1.keep hbA,hHeld.2.2.1.keep hbA,hHeld.2.2.2.1.keep hbA,hHeld.2.2.2.2.trans (hbA.mono hHeld.2.2.2.2.size)⟩) (fun _=>?_);clear hKK KK hHeld;rename_i hHeld)
   (try simp only [Act.put,lay])
   first | (refine tkn 4 ?_) | (refine tk 4 ?_)
   (try simp only [Act.put,lay])
   first | (refine tkn 5 ?_) | (refine tk 5 ?_)
   (try simp only [Act.put,lay])
   first | (refine tkn 6 ?_) | (refine tk 6 ?_)
   (try simp only [Act.put,lay])
   first | (refine tkn 7 ?_) | (refine tk 7 ?_ (hv:=by intro W2 hSw;(try dsimp only at hSw);have q0:_=some (.float .f64 i:Value):=hSw.1.cell 0;have q1:_=some (.float .f64 j:Value):=hSw.1.cell 1;go_simp;(try with_reducible rfl)))
   (try simp only [Act.put,lay])
   first | (refine tkn 8 ?_) | (refine tk 8 ?_)
   (try simp only [Act.put,lay])
   first | (refine tkn 9 ?_) | (refine tk 9 ?_)
   (try simp only [Act.put,lay])
   first | (refine tkn 10 ?_) | (refine tk 10 ?_)
   (try simp only [Act.put,lay])
   first | (refine tkn 11 ?_) | (refine tk 11 ?_ (hv:=by intro W2 hSw;(try dsimp only at hSw);have q0:_=some (.float .f64 qd:Value):=hSw.2.2.1.cell 0;have q1:_=some (.float .f64 qu:Value):=hSw.2.2.1.cell 1;go_simp;(try with_reducible rfl)))
   (try simp only [Act.put,lay])
   first | (refine tkn 12 ?_) | (refine rdy 12 fun KK hKK=>?_;go_simp;refine (HA.out _).mono ?_;rintro e w2 ⟨rfl,hbB⟩;go_wp2_with fail;refine hKK.out _ _ (⟨hHeld.1.keep hbB,hHeld.2.1.keep hbB,hHeld.2.2.1.keep hbB,hHeld.2.2.2.1.keep hbB,hHeld.2.2.2.2.trans (hbB.mono hHeld.2.2.2.2.size)⟩) (fun _=>?_);clear hKK KK hHeld;rename_i hHeld)
   (try simp only [Act.put,lay])
   first | (refine tkn 13 ?_) | (refine tk 13 ?_)
   (try simp only [Act.put,lay])
   first | (refine tkn 14 ?_) | (refine tk 14 ?_)
   (try simp only [Act.put,lay])
   first | (refine tkn 15 ?_) | (refine tk 15 ?_)
   (try simp only [Act.put,lay])
   first | (refine tkn 16 ?_) | (refine tk 16 ?_ (hv:=by intro W2 hSw;(try dsimp only at hSw);have q0:_=some (.float .f64 i:Value):=hSw.1.cell 0;have q1:_=some (.float .f64 j:Value):=hSw.1.cell 1;go_simp;(try with_reducible rfl)))
   (try simp only [Act.put,lay])
   first | (refine tkn 17 ?_) | (refine tk 17 ?_)
   (try simp only [Act.put,lay])
   first | (refine tkn 18 ?_) | (refine tk 18 ?_)
   (try simp only [Act.put,lay])
   first | (refine tkn 19 ?_) | (refine tk 19 ?_)
   (try simp only [Act.put,lay])
   (refine tk 20 ?_)
   (try simp only [Act.put,lay]);refine wpAnyH_done (by kernel_rfl) ?_ _;go_wp2_with fail
   go_meet
   case rel=>exact⟨rfl,hHeld⟩
 case rest=>
  obtain⟨rfl,g0,g1,g2,gr,gb⟩:=hcut;clear HC HA LB0 LR0 LG0_0 LG1_0 LG2_0;have LB1:=Hd gb;have LR1:=Hd gr;have LG0_1:=Hd g0;have LG1_1:=Hd g1;have LG2_1:=Hd g2;clear g0 g1 g2 gr gb
  cases cc
  ·have m1:=M1.out;have m2:=M2.out;clear HE M1 M2;obtain⟨q0_0,q0_1⟩:=LG0_1.out.c2;obtain⟨q1_0,q1_1⟩:=LG1_1.out.c2;obtain⟨q2_0,q2_1⟩:=LG2_1.out.c2;obtain⟨ha0,hf0,ha1,hf1⟩:=LR1.out.sf2;obtain⟨hk0,hk1⟩:=LR1.out.sc2 (.float .f64 a) (.float .f64 b);have F:=Hd (below_sets (w0:=w) (r:=(w.heap.size+3)) (by omega) [.float .f64 a,.float .f64 b] 0 _ LB1.out)
   simp [sets] at hk0 hk1
   go_wp2;refine bodyPost_ret (v:=Zf a b) (by simp [results,results77,go_sem,hk0,hk1]) rfl ?_
   exact⟨rfl,F.out⟩
  ·clear M1 M2;go_wp2_with fail;refine cx (HE.out _) fun w1 hb1=>?_;have LB2:=stB LB1 hb1 LB1.out.size;have LR2:=stR LR1 hb1;have LG0_2:=stG LG0_1 hb1;have LG1_2:=stG LG1_1 hb1;have LG2_2:=stG LG2_1 hb1;clear LB1 LR1 LG0_1 LG1_1 LG2_1;clear hb1 HE;obtain⟨ha0,hf0,ha1,hf1⟩:=LR2.out.sf2;obtain⟨hk0,hk1⟩:=LR2.out.sc2 (.float .f64 9218868437227405312) (.float .f64 18442240474082181120);have F:=Hd (below_sets (w0:=w) (r:=(w.heap.size+3)) (by omega) [.float .f64 9218868437227405312,.float .f64 18442240474082181120] 0 _ LB2.out)
   simp [sets] at hk0 hk1
   go_wp2;refine bodyPost_ret (v:=Zf 9218868437227405312 18442240474082181120) (by simp [results,results77,go_sem,hk0,hk1]) rfl ?_
   exact⟨rfl,F.out⟩
def ctO(op:Bool)(i j pd pu qd qu:Int):Int × Int:=if qd<i\/j<pu then ((M:Int),-(M:Int)) else if op=true/\((pd=0/\pu=0/\j<=0)\/(qd=0/\qu=0/\0<=i)) then ((M:Int),-(M:Int)) else (max i pd,min j qu)
theorem ord0{i:Int}(hi:-(M:Int)<=i/\i<=M):FloatKind.f64.format.order (pat i) 0=some (compare i 0):=by
 have h:=order_pat hi.1 hi.2 (j:=0) (by omega) (by omega)
 rwa [pat_zero] at h
theorem ord0_eq{i:Int}(h:i=0):FloatKind.f64.format.order (pat i) 0=some .eq:=by rw [ord0 (by rw [h];omega),Int.compare_eq_eq.2 h]
theorem ord0_lt{i:Int}(hi:-(M:Int)<=i/\i<=M)(h:i<0):FloatKind.f64.format.order (pat i) 0=some .lt:=by rw [ord0 hi,Int.compare_eq_lt.2 h]
theorem ord0_gt{i:Int}(hi:-(M:Int)<=i/\i<=M)(h:0<i):FloatKind.f64.format.order (pat i) 0=some .gt:=by rw [ord0 hi,Int.compare_eq_gt.2 h]
theorem ord0_ne{i:Int}(hi:-(M:Int)<=i/\i<=M)(h:i≠0):(FloatKind.f64.format.order (pat i) 0 == some Ordering.eq)=false:=by
 rcases Int.lt_or_gt_of_ne h with h1 | h1
 ·rw [ord0_lt hi h1];rfl
 ·rw [ord0_gt hi h1];rfl
theorem rcut2_any(op:Bool)(i j pd pu qd qu:Int)(w:World)(hi:-(M:Int)<=i/\i<=M)(hj:-(M:Int)<=j/\j<=M)(h1:-(M:Int)<=pd/\pd<=M)(h2:-(M:Int)<=pu/\pu<=M)(h3:-(M:Int)<=qd/\qd<=M)(h4:-(M:Int)<=qu/\qu<=M):
  Calls prog 77 #[Zf (pat i) (pat j),Zf (pat pd) (pat pu),Zf (pat qd) (pat qu),.bool op] w
   fun e w'=>e=.returned (Zf (pat (ctO op i j pd pu qd qu).1) (pat (ctO op i j pd pu qd qu).2))/\Below w.heap.size w w':=by
 unfold ctO
 by_cases c1:qd<i
 ·rw [if_pos (.inl c1),pat_max,pat_min]
  exact rcut2_gt op _ _ _ _ _ _ w (by rw [order_pat hi.1 hi.2 h3.1 h3.2,Int.compare_eq_gt.2 c1])
 ·by_cases c2:j<pu
  ·rw [if_pos (.inr c2),pat_max,pat_min]
   exact rcut2_lt op _ _ _ _ _ _ w (not_gt2 hi h3 c1) (by rw [order_pat hj.1 hj.2 h2.1 h2.2,Int.compare_eq_lt.2 c2])
  ·rw [if_neg (by omega)];have K:=fun cc hc=>rcut2_in op _ _ _ _ _ _ _ _ w (not_gt2 hi h3 c1) (not_lt2 hj h2 c2) cc hc (fun W ts t=>run_maxf hi h1 W ts t) (fun W ts t=>run_minf hj h4 W ts t)
   have hPN:¬ (pd=0/\pu=0/\j<=0)->(FloatKind.f64.format.order (pat pd) 0 == some Ordering.eq)=false\/(FloatKind.f64.format.order (pat pd) 0=some .eq/\(FloatKind.f64.format.order (pat pu) 0 == some Ordering.eq)=false)\/(FloatKind.f64.format.order (pat pd) 0=some .eq/\FloatKind.f64.format.order (pat pu) 0=some .eq/\FloatKind.f64.format.order (pat j) 0=some .gt):=fun h=>by
    by_cases a1:pd=0
    ·by_cases a2:pu=0
     ·exact .inr (.inr ⟨ord0_eq a1,ord0_eq a2,ord0_gt hj (by omega)⟩)
     ·exact .inr (.inl ⟨ord0_eq a1,ord0_ne h2 a2⟩)
    ·exact .inl (ord0_ne h1 a1)
   have hQN:¬ (qd=0/\qu=0/\0<=i)->(FloatKind.f64.format.order (pat qd) 0 == some Ordering.eq)=false\/(FloatKind.f64.format.order (pat qd) 0=some .eq/\(FloatKind.f64.format.order (pat qu) 0 == some Ordering.eq)=false)\/(FloatKind.f64.format.order (pat qd) 0=some .eq/\FloatKind.f64.format.order (pat qu) 0=some .eq/\FloatKind.f64.format.order (pat i) 0=some .lt):=fun h=>by
    by_cases a1:qd=0
    ·by_cases a2:qu=0
     ·exact .inr (.inr ⟨ord0_eq a1,ord0_eq a2,ord0_lt hi (by omega)⟩)
     ·exact .inr (.inl ⟨ord0_eq a1,ord0_ne h4 a2⟩)
    ·exact .inl (ord0_ne h3 a1)
   cases op
   ·rw [if_neg (by simp)]
    exact K false (.inl ⟨rfl,rfl⟩)
   ·by_cases c3:pd=0/\pu=0/\j<=0
    ·rw [if_pos ⟨rfl,.inl c3⟩,pat_max,pat_min];refine K true (.inr (.inl ⟨rfl,rfl,⟨ord0_eq c3.1,ord0_eq c3.2.1⟩,?_⟩))
     by_cases h0:j=0
     ·exact .inr (ord0_eq h0)
     ·exact .inl (ord0_lt hj (by omega))
    ·by_cases c4:qd=0/\qu=0/\0<=i
     ·rw [if_pos ⟨rfl,.inr c4⟩,pat_max,pat_min];refine K true (.inr (.inr (.inl ⟨rfl,hPN c3,rfl,⟨ord0_eq c4.1,ord0_eq c4.2.1⟩,?_⟩)))
      by_cases h0:i=0
      ·exact .inr (ord0_eq h0)
      ·exact .inl (ord0_gt hi (by omega))
     ·rw [if_neg (by rintro⟨-,h | h⟩;exact c3 h;exact c4 h)]
      exact K false (.inr (.inr (.inr ⟨rfl,hPN c3,rfl,hQN c4⟩)))
end
theorem fl_pos{j:Int}(h:0<j):0<fl j:=by have:=fl_lt_iff.2 h;rwa [fl_zero] at this
def qA(s:Int)(x:Rat)(b1 b2:Int):Int × Rat × Bool:=if 0<esx s x then rt s x (es b2) (ex b2) else rt s x (es (max b1 0)) (ex (max b1 0))
def pA(s:Int)(x:Rat)(b1 b2:Int):Int × Int:=if 0<=esx s x then ov s x b2 else if 0<b1 then ov s x b1 else (-(M:Int),-(M:Int))
def qB(s:Int)(x:Rat)(b1 b2:Int):Int × Rat × Bool:=if esx s x<0 then rt s x (es b2) (ex b2) else rt s x (es (max b1 0)) (ex (max b1 0))
def pB(s:Int)(x:Rat)(b1 b2:Int):Int × Int:=if esx s x<=0 then ov s x b2 else if 0<b1 then ov s x b1 else ((M:Int),(M:Int))
theorem es_nought:es 0=0:=by decide
theorem ex_nought:ex 0=0:=by unfold ex;rw [if_pos es_nought,fl_zero]
theorem div_le_div{x y c d:Rat}(hc:0<c)(hd:0<d)(h:x*d<=y*c):x / c<=y / d:=by
 have hk:0<c*d:=Rat.mul_pos hc hd;refine (mul_le_pos hk).1 ?_
 have e1:x / c*(c*d)=x*d:=by rw [<- Rat.mul_assoc,Rat.div_mul_cancel (by grind)]
 have e2:y / d*(c*d)=y*c:=by rw [Rat.mul_comm c d,<- Rat.mul_assoc,Rat.div_mul_cancel (by grind)]
 rw [e1,e2];exact h
theorem div_pos'{x c:Rat}(hx:0<x)(hc:0<c):0<x / c:=by
 have h1:=Rat.inv_pos.2 hc;rw [Rat.div_def];exact Rat.mul_pos hx h1
theorem rndI_pos{x:Rat}(h:0<x):0<rndI 1 x:=by
 have hM:=M_val;have h1:=mt ((rndI_up x).2.2 0 (by omega) (by omega)).1 (by rw [fl_zero];grind)
 omega
theorem ct_tail{op:Bool}{sa:Int}{xa:Rat}{fa:Bool}{sb:Int}{xb:Rat}{fb:Bool}{i j:Int}(h:-(M:Int)<=i/\i<=j/\j<=M/\i<M/\-(M:Int)<j)(ka:sa=0\/sa=-1)(kb:sb=0\/sb=1)
  (wa:fa=true->sa=-1\/sa=0/\xa=0)(wb:fb=true->sb=1\/sb=0/\xb=0)(oa:(op=true/\dn sa xa=0/\up sa xa=0)↔(sa=0/\xa=0/\fa=true))(ob:(op=true/\dn sb xb=0/\up sb xb=0)↔(sb=0/\xb=0/\fb=true)):
  ctO op i j (dn sa xa) (up sa xa) (dn sb xb) (up sb xb)=pf sa xa fa sb xb fb i j:=by
 have hM:=M_val;unfold pf;rw [if_neg (by omega)];unfold wg ctO;rw [ec_lo_at (by omega) ka,ec_hi_at (by omega) kb];have e1:=ec_hi (i:=i) (s:=sb) (x:=xb) (by omega) kb;have e2:=ec_lo (j:=j) (s:=sa) (x:=xa) (by omega) ka
 have z0:∀ k:Int,-(M:Int)<=k->k<=M->(ec (es k) (ex k) 0 0=0↔k=0):=fun k k1 k2=>by
  have h:=ec_idx (i:=k) (b:=0) k1 k2 (by omega) (by omega);rw [es_nought,ex_nought] at h;unfold SameSign at h
  omega
 have e3:(ec (es i) (ex i) sb xb=0/\fb=true)↔(op=true/\dn sb xb=0/\up sb xb=0/\i=0):=by
  constructor
  ·rintro⟨a,b⟩
   rcases wb b with k | k
   ·exact absurd a (ec_hi_open (by omega) k)
   ·have q:=ob.2 ⟨k.1,k.2,b⟩;rw [k.1,k.2] at a
    exact⟨q.1,q.2.1,q.2.2,(z0 i (by omega) (by omega)).1 a⟩
  ·rintro⟨a,b,c,d⟩;have q:=ob.1 ⟨a,b,c⟩;rw [q.1,q.2.1]
   exact⟨(z0 i (by omega) (by omega)).2 d,q.2.2⟩
 have e4:(ec (es j) (ex j) sa xa=0/\fa=true)↔(op=true/\dn sa xa=0/\up sa xa=0/\j=0):=by
  constructor
  ·rintro⟨a,b⟩
   rcases wa b with k | k
   ·exact absurd a (ec_lo_open (by omega) k)
   ·have q:=oa.2 ⟨k.1,k.2,b⟩;rw [k.1,k.2] at a
    exact⟨q.1,q.2.1,q.2.2,(z0 j (by omega) (by omega)).1 a⟩
  ·rintro⟨a,b,c,d⟩;have q:=oa.1 ⟨a,b,c⟩;rw [q.1,q.2.1]
   exact⟨(z0 j (by omega) (by omega)).2 d,q.2.2⟩
 by_cases hc:dn sb xb<i\/j<up sa xa
 ·rw [if_pos hc,if_pos]
  rcases hc with h1 | h1
  ·exact .inl (e1.2 h1)
  ·exact .inr (.inr (.inl (e2.2 h1)))
 ·rw [if_neg hc]
  by_cases hd:op=true/\((dn sa xa=0/\up sa xa=0/\j<=0)\/(dn sb xb=0/\up sb xb=0/\0<=i))
  ·rw [if_pos hd,if_pos];obtain⟨ho,hd | hd⟩:=hd
   ·exact .inr (.inr (.inr (e4.2 ⟨ho,hd.1,hd.2.1,by omega⟩)))
   ·exact .inr (.inl (e3.2 ⟨ho,hd.1,hd.2.1,by omega⟩))
  ·rw [if_neg hd,if_neg];rintro (h1 | h1 | h1 | h1)
   ·exact hc (.inl (e1.1 h1))
   ·have q:=e3.1 h1
    exact hd ⟨q.1,.inr ⟨q.2.1,q.2.2.1,by omega⟩⟩
   ·exact hc (.inr (e2.1 h1))
   ·have q:=e4.1 h1
    exact hd ⟨q.1,.inl ⟨q.2.1,q.2.2.1,by omega⟩⟩
def Bx(w:World)(g p q:Nat):Prop:=Blk w g 28 (Zv p q)
theorem Bx.keep{w w':World}{g p q:Nat}(h:Bx w g p q)(hb:Below w.heap.size w w'):Bx w' g p q:=Blk.keep h hb
theorem Bx.set{w:World}{g p q:Nat}(h:Bx w g p q)(a b:Nat):Bx ((w.setCell ⟨g,0,none⟩ (.float .f64 a)).setCell ⟨g,1,none⟩ (.float .f64 b)) g a b:=by
 have h1:=Blk.sets [.float .f64 a,.float .f64 b] 0 _ _ h;unfold Bx
 simpa [laid,sets] using h1
theorem Bx.far{w:World}{g p q r:Nat}(h:Bx w g p q)(hr:g≠r)(a b:Value):Bx ((w.setCell ⟨r,0,none⟩ a).setCell ⟨r,1,none⟩ b) g p q:=Blk.other h hr 0 [a,b]
structure Kp (g0 g1 g2:Nat) (w w':World):Prop where
 os:w'.os=w.os
 tape:w'.tape=w.tape
 output:w'.output=w.output
 size:w.heap.size<=w'.heap.size
 block:∀ k,k<w.heap.size->k≠g0->k≠g1->k≠g2->w'.heap[k]?=w.heap[k]?
theorem Kp.refl(g0 g1 g2:Nat)(w:World):Kp g0 g1 g2 w w:=⟨rfl,rfl,rfl,Nat.le_refl _,fun _ _ _ _ _=>rfl⟩
theorem Kp.below{g0 g1 g2:Nat}{w w1 w2:World}(h:Kp g0 g1 g2 w w1)(hb:Below w1.heap.size w1 w2):Kp g0 g1 g2 w w2:=
 ⟨hb.os.trans h.os,hb.tape.trans h.tape,hb.output.trans h.output,Nat.le_trans h.size hb.size,fun k hk a b c=>(hb.block k (Nat.lt_of_lt_of_le hk h.size)).trans (h.block k hk a b c)⟩
theorem Kp.set{g0 g1 g2 r:Nat}{w w1:World}(h:Kp g0 g1 g2 w w1)(hr:r=g0\/r=g1\/r=g2)(a b:Value):Kp g0 g1 g2 w ((w1.setCell ⟨r,0,none⟩ a).setCell ⟨r,1,none⟩ b):=
 ⟨h.os,h.tape,h.output,by have:=size_sets (r:=r) [a,b] 0 w1;have:=h.size;show w.heap.size<=(sets w1 r 0 [a,b]).heap.size;omega,
  fun k hk x y z=>(heap_sets (r:=r) (k:=k) (by rintro rfl;rcases hr with e | e | e<;>contradiction) [a,b] 0 w1).trans (h.block k hk x y z)⟩
theorem Kp.cell{g0 g1 g2:Nat}{w w1:World}(h:Kp g0 g1 g2 w w1){ad:Addr}{v:Value}(hc:w.cell? ad=some v)(h0:ad.block≠g0)(h1:ad.block≠g1)(h2:ad.block≠g2):w1.cell? ad=some v:=by
 have hlt:ad.block<w.heap.size:=by
  unfold World.cell? at hc
  split at hc
  ·rename_i e
   exact (Array.getElem?_eq_some_iff.1 e).1
  ·cases hc
 rw [World.cell?_of_block (w:=w)]
 ·exact hc
 ·exact h.block _ hlt h0 h1 h2
theorem Kp.toBl{g0 g1 g2 B:Nat}{w0 w w':World}(h:Kp g0 g1 g2 w w')(hb:Below B w0 w)(hB:B<=w.heap.size)(h0:B<=g0)(h1:B<=g1)(h2:B<=g2):Below B w0 w':=
 ⟨h.os.trans hb.os,h.tape.trans hb.tape,h.output.trans hb.output,Nat.le_trans hb.size h.size,fun k hk=>(h.block k (by omega) (by omega) (by omega) (by omega)).trans (hb.block k hk)⟩
theorem Iv.negg{i j:Int}(h:Iv i j):Iv (-j) (-i):=by
 unfold Iv at *;rw [M_val] at *
 omega
section
attribute [local go_sem] run_store_float run_eqf
def anyB(f:Nat->Bool):Nat->Bool
 | 0=>false
 | n+1=>anyB f n || f n
structure KeepN (G n:Nat) (w w':World):Prop where
 os:w'.os=w.os
 tape:w'.tape=w.tape
 output:w'.output=w.output
 size:w.heap.size<=w'.heap.size
 block:∀ k,k<w.heap.size->(k<G\/G+n<=k)->w'.heap[k]?=w.heap[k]?
theorem KeepN.refl(G n:Nat)(w:World):KeepN G n w w:=⟨rfl,rfl,rfl,Nat.le_refl _,fun _ _ _=>rfl⟩
theorem KeepN.below{G n:Nat}{w w1 w2:World}(h:KeepN G n w w1)(hb:Below w1.heap.size w1 w2):KeepN G n w w2:=
 ⟨hb.os.trans h.os,hb.tape.trans h.tape,hb.output.trans h.output,Nat.le_trans h.size hb.size,fun k hk a=>(hb.block k (Nat.lt_of_lt_of_le hk h.size)).trans (h.block k hk a)⟩
theorem KeepN.drew{G n:Nat}{w w1:World}(h:KeepN G n w w1):KeepN G n w w1.drew:=⟨h.os,h.tape,h.output,h.size,h.block⟩
theorem KeepN.set{G n t:Nat}{w w1:World}(h:KeepN G n w w1)(ht:t<n)(a b:Value):KeepN G n w ((w1.setCell ⟨G+t,0,none⟩ a).setCell ⟨G+t,1,none⟩ b):=
 ⟨h.os,h.tape,h.output,by have:=size_sets (r:=G+t) [a,b] 0 w1;have:=h.size;show w.heap.size<=(sets w1 (G+t) 0 [a,b]).heap.size;omega,
  fun k hk x=>(heap_sets (r:=G+t) (k:=k) (by omega) [a,b] 0 w1).trans (h.block k hk x)⟩
theorem KeepN.cell{G n:Nat}{w w1:World}(h:KeepN G n w w1){ad:Addr}{v:Value}(hc:w.cell? ad=some v)(h0:ad.block<G\/G+n<=ad.block):w1.cell? ad=some v:=by
 have hlt:ad.block<w.heap.size:=by
  unfold World.cell? at hc
  split at hc
  ·rename_i e
   exact (Array.getElem?_eq_some_iff.1 e).1
  ·cases hc
 rw [World.cell?_of_block (w:=w)]
 ·exact hc
 ·exact h.block _ hlt h0
theorem KeepN.toBl{G n B:Nat}{w0 w w':World}(h:KeepN G n w w')(hb:Below B w0 w)(hB:B<=w.heap.size)(h0:B<=G):Below B w0 w':=
 ⟨h.os.trans hb.os,h.tape.trans hb.tape,h.output.trans hb.output,Nat.le_trans hb.size h.size,fun k hk=>(h.block k (by omega) (by omega)).trans (hb.block k hk)⟩
theorem read_n(G n gl cap:Nat)(xs ps:Nat->Nat × Nat)(em:Nat->Bool)(w:World)(hn:n<=100)(hgl:G+n<=gl)
  (hc:∀ k:Nat,k<n->w.cell? ⟨gl,k,none⟩=some (.pointer (some ⟨G+k,0,none⟩)))(hb:∀ k:Nat,k<n->Bx w (G+k) (xs k).1 (xs k).2)
  (hr:∀ k:Nat,k<n->∀ W,Rt 102 #[.agg #[.float .f64 (xs k).1,.float .f64 (xs k).2]] (.agg #[.float .f64 (ps k).1,.float .f64 (ps k).2]) W)
  (he:∀ k:Nat,k<n->Em (em k) (ps k).1 (ps k).2):
  Calls prog 75 #[.slice (some ⟨gl,0,none⟩) n cap] w fun e w'=>e=.returned (.bool (anyB em n))/\(∀ k:Nat,k<n->Bx w' (G+k) (ps k).1 (ps k).2)/\KeepN G n w w':=by
 have HC:=Hd hc;have HB:=Hd hb;have HR:=Hd hr;have HE:=Hd he;have HEM:=Hd emptyf;clear hc hb hr he
 go_enter func75,ntmps75
 go_wp2
 go_loopw [3,5,8] (fun nv _ iv wr=>∃ k:Nat,iv=.int .i64 k/\nv=.bool (anyB em k)/\k<=n/\(∀ t:Nat,t<k->Bx wr (G+t) (ps t).1 (ps t).2)/\(∀ t:Nat,k<=t->t<n->Bx wr (G+t) (xs t).1 (xs t).2)/\KeepN G n w wr) (fun _ _ iv _=>n - (intOf iv).toNat)
 case atStart=>exact⟨0,rfl,rfl,Nat.zero_le _,fun t h=>absurd h (by omega),fun t _ h=>HB.out t h,KeepN.refl _ _ _⟩
 case round=>
  obtain⟨k,rfl,rfl,hk,hd,hl,hkp⟩:=hrel;have HD:=Hd hd;have HL:=Hd hl;have HK:=Hd hkp;clear hd hl hkp
  by_cases hlt:k<n
  ·have hc:=HK.out.cell (HC.out k hlt) (.inr hgl);have hbx:=HL.out k (Nat.le_refl _) hlt;have hem:=HE.out k hlt;have hrd:=HR.out k hlt;have hS:anyB em (k+1)=(anyB em k || em k):=rfl
   obtain⟨p,hp⟩:∃ p,(ps k).1=p:=⟨_,rfl⟩
   obtain⟨q,hq⟩:∃ p,(ps k).2=p:=⟨_,rfl⟩
   obtain⟨x,hx⟩:∃ p,(xs k).1=p:=⟨_,rfl⟩
   obtain⟨y,hy⟩:∃ p,(xs k).2=p:=⟨_,rfl⟩
   rw [hp,hq] at hem hrd;rw [hx,hy] at hrd hbx
   obtain⟨na,hna⟩:∃ b,anyB em k=b:=⟨_,rfl⟩
   obtain⟨ea,hea⟩:∃ b,em k=b:=⟨_,rfl⟩
   rw [hna,hea] at hS;rw [hea] at hem;rw [hna];have HRD:=Hd hrd;have HMM:=Hd hem;have HP:=Hd hp;have HQ:=Hd hq;have HS:=Hd hS;clear hem hrd hp hq hx hy hna hea hS;have q0:_=some (.float .f64 x:Value):=Blk.cell hbx 0;have q1:_=some (.float .f64 y:Value):=Blk.cell hbx 1;go_wp2_with fail;refine cx (HRD.out _) fun w1 hb1=>?_;have hb2:=Bx.keep hbx hb1;have HD1:=Hd fun t h=>(HD.out t h).keep hb1;have HL1:=Hd fun t h h'=>(HL.out t h h').keep hb1;have HK1:=Hd (HK.out.below hb1);clear hb1 q0 q1 HRD HD HL HK hc hbx;have q0:_=some (.float .f64 x:Value):=Blk.cell hb2 0;have q1:_=some (.float .f64 y:Value):=Blk.cell hb2 1;have f0:=Blk.frozen hb2 0;have f1:=Blk.frozen hb2 1;have HB2:=Hd (hb2.set p q)
   go_upto_region 6 with fail
   have HS6:=Hd (show (∀ t:Nat,t<k+1->Bx ((w1.setCell ⟨G+k,0,none⟩ (.float .f64 p)).setCell ⟨G+k,1,none⟩ (.float .f64 q)) (G+t) (ps t).1 (ps t).2)/\(∀ t:Nat,k+1<=t->t<n->Bx ((w1.setCell ⟨G+k,0,none⟩ (.float .f64 p)).setCell ⟨G+k,1,none⟩ (.float .f64 q)) (G+t) (xs t).1 (xs t).2)/\KeepN G n w ((w1.setCell ⟨G+k,0,none⟩ (.float .f64 p)).setCell ⟨G+k,1,none⟩ (.float .f64 q)) from
    ⟨fun t h=>by
      by_cases e:t=k
      ·subst e;rw [HP.out,HQ.out];exact HB2.out
      ·exact (HD1.out t (by omega)).far (by omega) _ _,fun t h h'=>(HL1.out t (by omega) h').far (by omega) _ _,HK1.out.set hlt _ _⟩)
   obtain⟨W2,hW2⟩:∃ W,(w1.setCell ⟨G+k,0,none⟩ (.float .f64 p)).setCell ⟨G+k,1,none⟩ (.float .f64 q)=W:=⟨_,rfl⟩
   rw [hW2] at HS6 ⊢;clear hW2 q0 q1 f0 f1 hb2 HB2 HD1 HL1 HK1
   cases na
   ·obtain⟨hm1,hm2⟩:=HMM.out;clear HMM
    cases ea
    ·have m1:=hm2 rfl;clear hm1 hm2;refine wp_region_held_drew (S:=fun W'=>(∀ t:Nat,t<k+1->Bx W' (G+t) (ps t).1 (ps t).2)/\(∀ t:Nat,k+1<=t->t<n->Bx W' (G+t) (xs t).1 (xs t).2)/\KeepN G n w W') (by kernel_rfl) (by exact⟨fun t h=>HS6.out.1 t h,fun t h h2=>HS6.out.2.1 t h h2,HS6.out.2.2.drew⟩) (fun hHeld=>?_);refine tks 0 ?_;refine tks 1 ?_;refine tks 2 ?_;refine tks 3 ?_;refine tks 4 ?_ (hv:=by intro W2 hSw;have hbx:=hSw.1 k (by omega);rw [HP.out,HQ.out] at hbx;have q0:_=some (.float .f64 p:Value):=Blk.cell hbx 0;have q1:_=some (.float .f64 q:Value):=Blk.cell hbx 1;go_simp;(try with_reducible rfl));refine rdy 5 fun KK hKK=>?_;go_simp;refine cx (HEM.out _) fun w3 hbE=>?_;go_wp2_with fail;refine hKK.out _ _ (⟨fun t h=>(hHeld.1 t h).keep hbE,fun t h h2=>(hHeld.2.1 t h h2).keep hbE,hHeld.2.2.below hbE⟩) (fun _=>?_);clear hKK KK hHeld;rename_i hHeld;(try simp only [Act.put,lay]);refine tks 6 ?_;refine tks 7 ?_;refine tks 8 ?_;refine wpAnyH_done (by kernel_rfl) ?_ _;go_wp2
     go_roundw
     case rel=>exact⟨k+1,by go_num,by rw [HS.out];rfl,by omega,hHeld.1,hHeld.2.1,hHeld.2.2⟩
     case measure=>simp [intOf];omega
    ·obtain⟨m1,m2⟩:=hm1 rfl;clear hm1 hm2;refine wp_region_held_drew (S:=fun W'=>(∀ t:Nat,t<k+1->Bx W' (G+t) (ps t).1 (ps t).2)/\(∀ t:Nat,k+1<=t->t<n->Bx W' (G+t) (xs t).1 (xs t).2)/\KeepN G n w W') (by kernel_rfl) (by exact⟨fun t h=>HS6.out.1 t h,fun t h h2=>HS6.out.2.1 t h h2,HS6.out.2.2.drew⟩) (fun hHeld=>?_);refine tks 0 ?_;refine tks 1 ?_;refine tks 2 ?_;refine tks 3 ?_;refine tks 4 ?_ (hv:=by intro W2 hSw;have hbx:=hSw.1 k (by omega);rw [HP.out,HQ.out] at hbx;have q0:_=some (.float .f64 p:Value):=Blk.cell hbx 0;have q1:_=some (.float .f64 q:Value):=Blk.cell hbx 1;go_simp;(try with_reducible rfl));refine rdy 5 fun KK hKK=>?_;go_simp;refine cx (HEM.out _) fun w3 hbE=>?_;go_wp2_with fail;refine hKK.out _ _ (⟨fun t h=>(hHeld.1 t h).keep hbE,fun t h h2=>(hHeld.2.1 t h h2).keep hbE,hHeld.2.2.below hbE⟩) (fun _=>?_);clear hKK KK hHeld;rename_i hHeld;(try simp only [Act.put,lay]);refine tks 6 ?_;refine tks 7 ?_;refine tks 8 ?_;refine wpAnyH_done (by kernel_rfl) ?_ _;go_wp2
     go_roundw
     case rel=>exact⟨k+1,by go_num,by rw [HS.out];rfl,by omega,hHeld.1,hHeld.2.1,hHeld.2.2⟩
     case measure=>simp [intOf];omega
   ·skip;refine wp_region_held_drew (S:=fun W'=>(∀ t:Nat,t<k+1->Bx W' (G+t) (ps t).1 (ps t).2)/\(∀ t:Nat,k+1<=t->t<n->Bx W' (G+t) (xs t).1 (xs t).2)/\KeepN G n w W') (by kernel_rfl) (by exact⟨fun t h=>HS6.out.1 t h,fun t h h2=>HS6.out.2.1 t h h2,HS6.out.2.2.drew⟩) (fun hHeld=>?_);refine tks 0 ?_;refine tks 1 ?_;refine tkns 2 ?_;refine tkns 3 ?_;refine tkns 4 ?_;refine tkns 5 ?_;refine tkns 6 ?_;refine tks 7 ?_;refine tks 8 ?_;refine wpAnyH_done (by kernel_rfl) ?_ _;go_wp2
    go_roundw
    case rel=>exact⟨k+1,by go_num,by rw [HS.out];rfl,by omega,hHeld.1,hHeld.2.1,hHeld.2.2⟩
    case measure=>simp [intOf];omega
  ·obtain rfl:k=n:=by omega
   go_wp2
   go_ret
   exact⟨rfl,HD.out,HK.out⟩
end
theorem KeepN.blk{G n r:Nat}{t:TypeId}{cs:Array Value}{w w':World}(h:KeepN G n w w')(hr:Blk w r t cs)(h0:r<G\/G+n<=r):Blk w' r t cs:=(h.block r hr.lt h0).trans hr
theorem readL32(w:World){b1 c1 b2 c2 p1 q1 p2 q2:Nat}{d1 d2 d:Bool}(e3:Array Value)(t3:TypeId)(s1:∀ W,Rt 102 #[Zf b1 c1] (Zf p1 q1) W)(m1:Em d1 p1 q1)(s2:∀ W,Rt 102 #[Zf b2 c2] (Zf p2 q2) W)(m2:Em d2 p2 q2)(hnn:(d1 || d2)=d):
  Hid (Calls prog 75 #[.slice (some ⟨w.heap.size+1+1+1,0,none⟩) 2 2] ((((w.alloc (.cells (Zv b1 c1) 28)).alloc (.cells (Zv b2 c2) 28)).alloc (.cells e3 t3)).alloc (.cells #[.pointer (some ⟨w.heap.size,0,none⟩),.pointer (some ⟨w.heap.size+1,0,none⟩)] 75)) fun e wk=>e=.returned (.bool d)/\Lies w wk [(w.heap.size,28,(Zv p1 q1)),((w.heap.size+1),28,(Zv p2 q2)),((w.heap.size+2),t3,e3)] []):=by
 have LL:=li3 w (Zv b1 c1) 28 (Zv b2 c2) 28 e3 t3;have hrow:=Blk.at (W:=(((w.alloc (.cells (Zv b1 c1) 28)).alloc (.cells (Zv b2 c2) 28)).alloc (.cells e3 t3))) (g:=w.heap.size+1+1+1) (by simp) 75 #[.pointer (some ⟨w.heap.size,0,none⟩),.pointer (some ⟨w.heap.size+1,0,none⟩)]
 have HRD:=read_n w.heap.size 2 (w.heap.size+1+1+1) 2 (fun k:Nat=>if k=0 then (b1,c1) else (b2,c2)) (fun k:Nat=>if k=0 then (p1,q1) else (p2,q2)) (fun k:Nat=>if k=0 then d1 else d2) _ (by omega) (by omega)
  (fun k hk=>by match k,hk with | 0,_=>exact hrow.cell 0 | 1,_=>exact hrow.cell 1) (fun k hk=>by match k,hk with | 0,_=>exact (LL.out.blk 0 rfl).alloc (.cells #[.pointer (some ⟨w.heap.size,0,none⟩),.pointer (some ⟨w.heap.size+1,0,none⟩)] 75) | 1,_=>exact (LL.out.blk 1 rfl).alloc (.cells #[.pointer (some ⟨w.heap.size,0,none⟩),.pointer (some ⟨w.heap.size+1,0,none⟩)] 75)) (fun k hk=>by match k,hk with | 0,_=>exact s1 | 1,_=>exact s2) (fun k hk=>by match k,hk with | 0,_=>exact m1 | 1,_=>exact m2)
 rw [show anyB (fun k:Nat=>if k=0 then d1 else d2) 2=(d1 || d2) from by simp [anyB],hnn] at HRD;have LLR:=LL.out.alloc (.cells #[.pointer (some ⟨w.heap.size,0,none⟩),.pointer (some ⟨w.heap.size+1,0,none⟩)] 75)
 have HSZ:w.heap.size<=((((w.alloc (.cells (Zv b1 c1) 28)).alloc (.cells (Zv b2 c2) 28)).alloc (.cells e3 t3)).alloc (.cells #[.pointer (some ⟨w.heap.size,0,none⟩),.pointer (some ⟨w.heap.size+1,0,none⟩)] 75)).heap.size:=by simp;omega
 refine Hd (HRD.mono ?_);rintro e wk ⟨rfl,hd,kp⟩
 exact⟨rfl,kp.toBl LLR.b HSZ (Nat.le_refl _),by simp only [List.mem_cons,List.not_mem_nil,or_false,forall_eq_or_imp,forall_eq];exact⟨show Blk wk w.heap.size 28 (Zv p1 q1) from hd 0 (by omega),show Blk wk (w.heap.size+1) 28 (Zv p2 q2) from hd 1 (by omega),kp.blk (LLR.blk 2 rfl) (by omega)⟩,by simp⟩
theorem readL43(w:World){b1 c1 b2 c2 b3 c3 p1 q1 p2 q2 p3 q3:Nat}{d1 d2 d3 d:Bool}(e4:Array Value)(t4:TypeId)(s1:∀ W,Rt 102 #[Zf b1 c1] (Zf p1 q1) W)(m1:Em d1 p1 q1)(s2:∀ W,Rt 102 #[Zf b2 c2] (Zf p2 q2) W)(m2:Em d2 p2 q2)(s3:∀ W,Rt 102 #[Zf b3 c3] (Zf p3 q3) W)(m3:Em d3 p3 q3)(hnn:(d1 || d2 || d3)=d):
  Hid (Calls prog 75 #[.slice (some ⟨w.heap.size+1+1+1+1,0,none⟩) 3 3] (((((w.alloc (.cells (Zv b1 c1) 28)).alloc (.cells (Zv b2 c2) 28)).alloc (.cells (Zv b3 c3) 28)).alloc (.cells e4 t4)).alloc (.cells #[.pointer (some ⟨w.heap.size,0,none⟩),.pointer (some ⟨w.heap.size+1,0,none⟩),.pointer (some ⟨w.heap.size+2,0,none⟩)] 75)) fun e wk=>e=.returned (.bool d)/\Lies w wk [(w.heap.size,28,(Zv p1 q1)),((w.heap.size+1),28,(Zv p2 q2)),((w.heap.size+2),28,(Zv p3 q3)),((w.heap.size+3),t4,e4)] []):=by
 have LL:=li4 w (Zv b1 c1) 28 (Zv b2 c2) 28 (Zv b3 c3) 28 e4 t4;have hrow:=Blk.at (W:=((((w.alloc (.cells (Zv b1 c1) 28)).alloc (.cells (Zv b2 c2) 28)).alloc (.cells (Zv b3 c3) 28)).alloc (.cells e4 t4))) (g:=w.heap.size+1+1+1+1) (by simp) 75 #[.pointer (some ⟨w.heap.size,0,none⟩),.pointer (some ⟨w.heap.size+1,0,none⟩),.pointer (some ⟨w.heap.size+2,0,none⟩)]
 have HRD:=read_n w.heap.size 3 (w.heap.size+1+1+1+1) 3 (fun k:Nat=>if k=0 then (b1,c1) else if k=1 then (b2,c2) else (b3,c3)) (fun k:Nat=>if k=0 then (p1,q1) else if k=1 then (p2,q2) else (p3,q3)) (fun k:Nat=>if k=0 then d1 else if k=1 then d2 else d3) _ (by omega) (by omega)
  (fun k hk=>by match k,hk with | 0,_=>exact hrow.cell 0 | 1,_=>exact hrow.cell 1 | 2,_=>exact hrow.cell 2) (fun k hk=>by match k,hk with | 0,_=>exact (LL.out.blk 0 rfl).alloc (.cells #[.pointer (some ⟨w.heap.size,0,none⟩),.pointer (some ⟨w.heap.size+1,0,none⟩),.pointer (some ⟨w.heap.size+2,0,none⟩)] 75) | 1,_=>exact (LL.out.blk 1 rfl).alloc (.cells #[.pointer (some ⟨w.heap.size,0,none⟩),.pointer (some ⟨w.heap.size+1,0,none⟩),.pointer (some ⟨w.heap.size+2,0,none⟩)] 75) | 2,_=>exact (LL.out.blk 2 rfl).alloc (.cells #[.pointer (some ⟨w.heap.size,0,none⟩),.pointer (some ⟨w.heap.size+1,0,none⟩),.pointer (some ⟨w.heap.size+2,0,none⟩)] 75)) (fun k hk=>by match k,hk with | 0,_=>exact s1 | 1,_=>exact s2 | 2,_=>exact s3) (fun k hk=>by match k,hk with | 0,_=>exact m1 | 1,_=>exact m2 | 2,_=>exact m3)
 rw [show anyB (fun k:Nat=>if k=0 then d1 else if k=1 then d2 else d3) 3=(d1 || d2 || d3) from by simp [anyB],hnn] at HRD;have LLR:=LL.out.alloc (.cells #[.pointer (some ⟨w.heap.size,0,none⟩),.pointer (some ⟨w.heap.size+1,0,none⟩),.pointer (some ⟨w.heap.size+2,0,none⟩)] 75)
 have HSZ:w.heap.size<=(((((w.alloc (.cells (Zv b1 c1) 28)).alloc (.cells (Zv b2 c2) 28)).alloc (.cells (Zv b3 c3) 28)).alloc (.cells e4 t4)).alloc (.cells #[.pointer (some ⟨w.heap.size,0,none⟩),.pointer (some ⟨w.heap.size+1,0,none⟩),.pointer (some ⟨w.heap.size+2,0,none⟩)] 75)).heap.size:=by simp;omega
 refine Hd (HRD.mono ?_);rintro e wk ⟨rfl,hd,kp⟩
 exact⟨rfl,kp.toBl LLR.b HSZ (Nat.le_refl _),by simp only [List.mem_cons,List.not_mem_nil,or_false,forall_eq_or_imp,forall_eq];exact⟨show Blk wk w.heap.size 28 (Zv p1 q1) from hd 0 (by omega),show Blk wk (w.heap.size+1) 28 (Zv p2 q2) from hd 1 (by omega),show Blk wk (w.heap.size+2) 28 (Zv p3 q3) from hd 2 (by omega),kp.blk (LLR.blk 3 rfl) (by omega)⟩,by simp⟩
end Go.Proofs.YthlmlmfebpjgdaaGreatDoor
