/-
Lemmas for the statement: DigD SubT GuessT ByT ByMT WordT RoundT BitsT Pow10T OfT MinT WhfT LeastT Neg6T AgT WiT WigT SetOfT AllT AllgT Bnd PieceG PcgT SetT MnsT MiP PieceT MpT NeP PlusT MinusT DsP RaT QuoT Ar Rn AddP MathT.
-/
import Derived.Test.YthlmlmfebpjgdaaGreatDoorM01
import Derived.Test.YthlmlmfebpjgdaaGreatDoorM02
import Derived.Deep.DeepCutAuto
set_option linter.unusedSimpArgs false
set_option linter.unusedVariables false
set_option maxHeartbeats 12800000
namespace Go.Proofs.YthlmlmfebpjgdaaGreatDoor
def SubInv(rs ys cur:List Nat)(x i c b:Nat):Prop:=
 W32 cur/\cur.length=rs.length/\(∀ j:Nat,i<=j->cur[j]?.getD 0=rs[j]?.getD 0)/\c<4294967296/\b<=1 /\
  num (cur.take i)+x*num (ys.take i)=num (rs.take i)+2^(32*i)*(b+c)
theorem SubInv.start{rs ys:List Nat}(x:Nat)(h:W32 rs):SubInv rs ys rs x 0 0 0:=
 ⟨h,rfl,fun _ _=>rfl,by omega,by omega,by simp [num]⟩
theorem SubInv.step{rs ys cur:List Nat}{x i c b t d b':Nat}(h:SubInv rs ys cur x i c b)(hi:i<rs.length)(hx:x<4294967296)(hy:W32 ys)
  (ht:t=c+ys[i]?.getD 0*x)(hd:d<4294967296)(hb':b'<=1)(he:d+(t % 4294967296+b)=rs[i]?.getD 0+4294967296*b'):
  SubInv rs ys (cur.set i d) x (i+1) (t / 4294967296) b':=by
 obtain⟨hw,hl,hr,hc,hb,hs⟩:=h;have h1:=hy.get i;have h2:ys[i]?.getD 0*x<=4294967295*4294967295:=Nat.mul_le_mul (by omega) (by omega);refine⟨hw.set _ hd,by simp [hl],fun j hj=>?_,by omega,hb',?_⟩
 ·rw [List.getElem?_set_ne (by omega)];exact hr j (by omega)
 ·have e1:num ((cur.set i d).take (i+1))=num (cur.take i)+2^(32*i)*d:=by
   rw [num_take_next,List.take_set_of_le (Nat.le_refl _),List.getElem?_set_self (by omega)];rfl
  rw [e1,num_take_next,num_take_next,pow32,Nat.mul_add x]
  have e2:x*(2^(32*i)*ys[i]?.getD 0)=2^(32*i)*(ys[i]?.getD 0*x):=by
   rw [Nat.mul_left_comm,Nat.mul_comm x]
  rw [e2];generalize ys[i]?.getD 0*x=z at *;generalize 2^(32*i)=p at *
  have e3:p*(b+c)+p*d+p*z=p*rs[i]?.getD 0+2^32*p*(b'+t / 4294967296):=by
   rw [Nat.mul_comm (2^32) p,Nat.mul_assoc,<- Nat.mul_add,<- Nat.mul_add,<- Nat.mul_add]
   congr 1;omega
  omega
theorem SubInv.done{rs ys cur:List Nat}{x c b:Nat}(h:SubInv rs ys cur x rs.length c b)(hr:W32 rs)(hm:ys.length<=rs.length)(hle:x*num ys<=num rs):
  num cur=num rs - x*num ys:=by
 obtain⟨hw,hl,_,hc,hb,hs⟩:=h;rw [List.take_of_length_le (by omega),List.take_of_length_le (Nat.le_refl _),List.take_of_length_le hm] at hs;have h1:=num_lt hw;have h2:=num_lt hr;rw [hl] at h1
 have h3:b+c=0:=by
  rcases Nat.eq_zero_or_pos (b+c) with h3 | h3
  ·exact h3
  ·exfalso
   have:=Nat.mul_le_mul_left (2^(32*rs.length)) h3
   omega
 rw [h3] at hs
 omega
theorem num_shift_up{rs:List Nat}(h:rs≠[])(hz:rs[rs.length - 1]?.getD 0=0)(u:Nat):num (u :: rs.take (rs.length - 1))=u+4294967296*num rs:=by
 rw [num_cons];have hl:0<rs.length:=List.length_pos_iff.2 h
 have e:num rs=num (rs.take (rs.length - 1)):=by
  have:=num_take_next rs (rs.length - 1);rw [Nat.sub_add_cancel hl,List.take_of_length_le (Nat.le_refl _),hz] at this
  omega
 rw [<- e]
def ByInv(us qs:List Nat)(V R i:Nat):Prop:=W32 qs/\qs.length=us.length/\num (us.drop i)=num (qs.drop i)*V+R/\R<V
theorem ByInv.start(us:List Nat){V:Nat}(hV:0<V):ByInv us (List.replicate us.length 0) V 0 us.length:=
 ⟨W32.replicate _,by simp,by simp [num],hV⟩
theorem num_drop_cons(l:List Nat)(i:Nat):num (l.drop i)=l[i]?.getD 0+4294967296*num (l.drop (i+1)):=by
 rw [num_tail (l.drop i),List.getElem?_drop,List.tail_drop];rfl
theorem ByInv.step{us qs:List Nat}{V R i d R':Nat}(h:ByInv us qs V R (i+1))(hi:i<us.length)(hd:d<4294967296)(he:us[i]?.getD 0+4294967296*R=d*V+R')(hR:R'<V):
  ByInv us (qs.set i d) V R' i:=by
 obtain⟨hw,hl,hs,_⟩:=h;refine⟨hw.set _ hd,by simp [hl],?_,hR⟩;rw [num_drop_cons us,hs,num_drop_cons (qs.set i d),List.getElem?_set_self (by omega)];rw [List.drop_set_of_lt (by omega)]
 show _=(d+4294967296*num (qs.drop (i+1)))*V+R'
 rw [Nat.mul_add,Nat.add_mul,Nat.mul_assoc];generalize num (qs.drop (i+1))*V=z at *
 omega
theorem ByInv.done{us qs:List Nat}{V R:Nat}(h:ByInv us qs V R 0):num us / V=num qs/\num us % V=R:=by
 obtain⟨_,_,hs,hR⟩:=h;rw [List.drop_zero,List.drop_zero] at hs;rw [hs,Nat.mul_comm]
 constructor
 ·rw [Nat.mul_add_div (by omega),Nat.div_eq_of_lt hR,Nat.add_zero]
 ·rw [Nat.mul_add_mod,Nat.mod_eq_of_lt hR]
section
open Go.RowKit
end
section
open Go.RowKit
end
section
open Go.RowKit
def Moved(rs cur:List Nat)(j:Nat):Prop:=cur.length=rs.length/\∀ t:Nat,t<rs.length->cur[t]?.getD 0=if j<t then rs[t - 1]?.getD 0 else rs[t]?.getD 0
theorem Moved.start(rs:List Nat):Moved rs rs (rs.length - 1):=⟨rfl,fun t ht=>by rw [if_neg (by omega)]⟩
theorem Moved.step{rs cur:List Nat}{j:Nat}(h:Moved rs cur (j+1))(hj:j+1<rs.length):Moved rs (cur.set (j+1) (rs[j]?.getD 0)) j:=by
 obtain⟨hl,hm⟩:=h;refine⟨by simp [hl],fun t ht=>?_⟩
 by_cases h1:t=j+1
 ·subst h1;rw [List.getElem?_set_self (by omega),if_pos (by omega)];rfl
 ·rw [List.getElem?_set_ne (by omega),hm t ht]
  by_cases h2:j<t
  ·rw [if_pos h2,if_pos (by omega)]
  ·rw [if_neg h2,if_neg (by omega)]
theorem Moved.done{rs cur:List Nat}(h:Moved rs cur 0)(h0:rs≠[])(hz:rs[rs.length - 1]?.getD 0=0)(u:Nat):num (cur.set 0 u)=u+4294967296*num rs:=by
 rw [<- num_shift_up h0 hz];have hl:0<rs.length:=List.length_pos_iff.2 h0;refine num_ext fun t=>?_
 rcases Nat.eq_zero_or_pos t with h1 | h1
 ·subst h1;rw [List.getElem?_set_self (by rw [h.1];exact hl)];rfl
 ·rw [List.getElem?_set_ne (by omega)]
  obtain⟨t,rfl⟩:∃ i,t=i+1:=⟨t - 1,by omega⟩
  rw [List.getElem?_cons_succ]
  rcases Nat.lt_or_ge (t+1) rs.length with h2 | h2
  ·rw [h.2 _ h2,if_pos (by omega),List.getElem?_take_of_lt (by omega)];rfl
  ·rw [List.getElem?_eq_none (by rw [h.1];exact h2),List.getElem?_eq_none (by rw [List.length_take];omega)]
end
section
open Go.RowKit
end
section
open Go.RowKit
end
section
open Go.RowKit
def fdec(p q:Nat)(f:Int):Bool:=if 0<=f then decide (p<q*2^f.toNat) else decide (p*2^(-f).toNat<q)
def fout(p q:Nat)(f:Int):Int:=if fdec p q f then f - 1 else f
theorem fout_sc{p q:Nat}{f:Int}(hp:0<p)(hq:0<q)(hf:f=(blen p:Int) - blen q):Sc p q (fout p q f):=by
 unfold fout
 by_cases h:fdec p q f=true
 ·rw [if_pos h];unfold fdec at h;refine scale_down hp hq hf (fun h0=>?_) (fun h0=>?_)
  ·rw [if_pos h0] at h;exact of_decide_eq_true h
  ·rw [if_neg (by omega)] at h;exact of_decide_eq_true h
 ·rw [if_neg h];unfold fdec at h;refine scale_keep hp hq hf (fun h0=>?_) (fun h0=>?_)
  ·rw [if_pos h0] at h;simp at h;exact h
  ·rw [if_neg (by omega)] at h;simp at h;exact h
end
section
open Go.RowKit
end
section
open Go.RowKit
end
section
open Go.RowKit
end
section
open Go.RowKit
end
section
open Go.RowKit
def NewBd(w:World)(K:Nat)(s:Int)(x:Rat)(N:Int)(op:Bool)(e:Ending)(w':World):Prop:=
 ∃ neg A n c B m d,e=.returned (.agg #[.int .i64 s,.bool neg,.slice A n c,.slice B m d,.int .i64 N,.bool op])/\RatV w' K neg (.slice A n c) (.slice B m d) x/\Below w.heap.size w w'
def NewPiece(w:World)(K:Nat)(none:Bool)(s:Int)(x:Rat)(N:Int)(o:Bool)(s':Int)(x':Rat)(N':Int)(o':Bool)(e:Ending)(w':World):Prop:=
 ∃ neg A n c B m d neg' A' n' c' B' m' d',e=.returned (.agg #[.bool none,.int .i64 s,.bool neg,.slice A n c,.slice B m d,.int .i64 N,.bool o,.int .i64 s',.bool neg',.slice A' n' c',.slice B' m' d',.int .i64 N',.bool o']) /\
  RatV w' K neg (.slice A n c) (.slice B m d) x/\RatV w' K neg' (.slice A' n' c') (.slice B' m' d') x'/\Below w.heap.size w w'
end
section
open Go.RowKit
end
section
open Go.RowKit
theorem es_bounds(i:Int):-1<=es i/\es i<=1:=by unfold es;split<;>(try split)<;>omega
theorem es_zero{i:Int}(h:es i=0):i≠M/\i≠-(M:Int):=by
 unfold es at h
 split at h
 ·cases h
 ·split at h
  ·cases h
  ·exact⟨by assumption,by assumption⟩
theorem ex_zero{i:Int}(h:es i=0):ex i=fl i:=by unfold ex;rw [if_pos h]
end
section
open Go.RowKit
def SameSign(r c:Int):Prop:=(r<0↔c<0)/\(0<r↔0<c)
theorem SameSign.refl(c:Int):SameSign c c:=⟨Iff.rfl,Iff.rfl⟩
def Ag(w:World)(c:Int)(e:Ending)(w':World):Prop:=∃ r:Int,e=.returned (.int .i64 r)/\SameSign r c/\Below w.heap.size w w'
end
section
open Go.RowKit
theorem ec_idx{i b:Int}(h1:-(M:Int)<=i)(h2:i<=M)(h3:-(M:Int)<=b)(h4:b<=M):SameSign (ec (es i) (ex i) (es b) (ex b)) (i - b):=by
 have hM:M=9218868437227405312:=rfl
 have ei:es i=if i=M then 1 else if i=-(M:Int) then -1 else 0:=rfl
 have eb:es b=if b=M then 1 else if b=-(M:Int) then -1 else 0:=rfl
 rcases Int.lt_trichotomy (es i) (es b) with h | h | h
 ·rw [ec_lt _ _ h];rw [ei,eb] at h;unfold SameSign
  split at h<;>split at h<;>(try split at h)<;>(try split at h)<;>omega
 ·by_cases h0:es i=0
  ·have h0':es b=0:=by omega
   rw [h0,h0',ec_zero,ex_zero h0,ex_zero h0'];unfold rc SameSign
   by_cases hc:i<b
   ·rw [if_pos (fl_lt_iff.2 hc)];omega
   ·rw [if_neg (fun h=>hc (fl_lt_iff.1 h))]
    by_cases hd:b<i
    ·rw [if_pos (fl_lt_iff.2 hd)];omega
    ·rw [if_neg (fun h=>hd (fl_lt_iff.1 h))];omega
  ·rw [ec_inf _ _ h h0];rw [ei,eb] at h;rw [ei] at h0;unfold SameSign
   split at h0<;>(try split at h0)<;>split at h<;>(try split at h)<;>(try split at h)<;>(try split at h)<;>omega
 ·rw [ec_gt _ _ h];rw [ei,eb] at h;unfold SameSign
  split at h<;>split at h<;>(try split at h)<;>(try split at h)<;>omega
theorem SameSign.trans{a b c:Int}(h:SameSign a b)(h':SameSign b c):SameSign a c:=⟨h.1.trans h'.1,h.2.trans h'.2⟩
theorem Ag.trans{w w':World}{a b:Int}{e:Ending}(h:Ag w a e w')(h':SameSign a b):Ag w b e w':=by
 obtain⟨r,h1,h2,h3⟩:=h
 exact⟨r,h1,h2.trans h',h3⟩
def wi(i j a b:Int):Int × Int:=if i<=j/\i<=b/\a<=j then (max i a,min j b) else ((M:Int),-(M:Int))
end
section
open Go.RowKit
def wg(i j c1 c2 c3 c4 a b:Int)(o1 o2:Bool):Int × Int:=if 0<c1\/(c1=0/\o2=true)\/c2<0\/(c2=0/\o1=true) then ((M:Int),-(M:Int)) else (if c3<0 then a else i,if 0<c4 then b else j)
end
section
open Go.RowKit
def SetOf(w:World)(v:Value)(i j:Int):Prop:=
 (i=M/\j=-(M:Int)/\∃ s x t y g A n c B m d g' A' n' c' B' m' d',v=.agg #[.bool true,.int .i64 s,.bool g,.slice A n c,.slice B m d,.int .i64 t,.bool g',.slice A' n' c',.slice B' m' d'] /\
   RatV w 34 g (.slice A n c) (.slice B m d) x/\RatV w 34 g' (.slice A' n' c') (.slice B' m' d') y) \/
 ((-(M:Int)<=i/\i<=j/\j<=M/\i<M/\-(M:Int)<j)/\∃ g A n c B m d g' A' n' c' B' m' d',v=.agg #[.bool false,.int .i64 (es i),.bool g,.slice A n c,.slice B m d,.int .i64 (es j),.bool g',.slice A' n' c',.slice B' m' d'] /\
   RatV w 34 g (.slice A n c) (.slice B m d) (ex i)/\RatV w 34 g' (.slice A' n' c') (.slice B' m' d') (ex j))
theorem SetOf.below{w w':World}{v:Value}{i j:Int}(h:SetOf w v i j)(hb:Below w.heap.size w w'):SetOf w' v i j:=by
 rcases h with ⟨h1,h2,s,x,t,y,g,A,n,c,B,m,d,g',A',n',c',B',m',d',h3,h4,h5⟩ | ⟨h1,g,A,n,c,B,m,d,g',A',n',c',B',m',d',h3,h4,h5⟩
 ·exact .inl ⟨h1,h2,s,x,t,y,g,A,n,c,B,m,d,g',A',n',c',B',m',d',h3,h4.below hb,h5.below hb⟩
 ·exact .inr ⟨h1,g,A,n,c,B,m,d,g',A',n',c',B',m',d',h3,h4.below hb,h5.below hb⟩
theorem SetOf.iv{w:World}{v:Value}{i j:Int}(h:SetOf w v i j):Iv i j:=by
 rcases h with ⟨h1,h2,-⟩ | ⟨h1,-⟩
 ·exact .inr ⟨h1,h2⟩
 ·exact .inl h1
def hl(i j i' j':Int):Int × Int:=if j<i then (i',j') else if j'<i' then (i,j) else (min i i',max j j')
end
section
open Go.RowKit
end
section
open Go.RowKit
def PcW(w:World)(o:Bool)(s1:Int)(g1:Bool)(A1:Option Addr)(n1 c1:Nat)(B1:Option Addr)(m1 d1:Nat)(N1:Int)(o1:Bool)(s2:Int)(g2:Bool)(A2:Option Addr)(n2 c2:Nat)(B2:Option Addr)(m2 d2:Nat)(N2:Int)(o2:Bool)(F:Int->Int->Int × Int):Prop:=
 (∀ i j,Iv i j->Iv (F i j).1 (F i j).2)/\∀ W i j,Below w.heap.size w W->Iv i j ->
  Calls Tryz.prog 147 #[.agg #[.int .u64 (pat i:Int),.int .u64 (pat j:Int)],.agg #[.bool o,.int .i64 s1,.bool g1,.slice A1 n1 c1,.slice B1 m1 d1,.int .i64 N1,.bool o1,.int .i64 s2,.bool g2,.slice A2 n2 c2,.slice B2 m2 d2,.int .i64 N2,.bool o2]] W
   fun e w'=>e=.returned (.agg #[.int .u64 (pat (F i j).1:Int),.int .u64 (pat (F i j).2:Int)])/\Below W.heap.size W w'
def PcG(W:World)(ad:Addr)(k:Nat)(F:Int->Int->Int × Int):Prop:=
 ∃ o s1 g1 A1 n1 c1 B1 m1 d1 N1 o1 s2 g2 A2 n2 c2 B2 m2 d2 N2 o2,
  W.cell? (ad.add (k*13))=some (.bool o)/\W.cell? ⟨(ad.add (k*13)).block,(ad.add (k*13)).off+1,none⟩=some (.int .i64 s1)/\W.cell? ⟨(ad.add (k*13)).block,(ad.add (k*13)).off+2,none⟩=some (.bool g1) /\
  W.cell? ⟨(ad.add (k*13)).block,(ad.add (k*13)).off+3,none⟩=some (.slice A1 n1 c1)/\W.cell? ⟨(ad.add (k*13)).block,(ad.add (k*13)).off+4,none⟩=some (.slice B1 m1 d1)/\W.cell? ⟨(ad.add (k*13)).block,(ad.add (k*13)).off+5,none⟩=some (.int .i64 N1) /\
  W.cell? ⟨(ad.add (k*13)).block,(ad.add (k*13)).off+6,none⟩=some (.bool o1)/\W.cell? ⟨(ad.add (k*13)).block,(ad.add (k*13)).off+7,none⟩=some (.int .i64 s2)/\W.cell? ⟨(ad.add (k*13)).block,(ad.add (k*13)).off+8,none⟩=some (.bool g2) /\
  W.cell? ⟨(ad.add (k*13)).block,(ad.add (k*13)).off+9,none⟩=some (.slice A2 n2 c2)/\W.cell? ⟨(ad.add (k*13)).block,(ad.add (k*13)).off+10,none⟩=some (.slice B2 m2 d2)/\W.cell? ⟨(ad.add (k*13)).block,(ad.add (k*13)).off+11,none⟩=some (.int .i64 N2) /\
  W.cell? ⟨(ad.add (k*13)).block,(ad.add (k*13)).off+12,none⟩=some (.bool o2)/\PcW W o s1 g1 A1 n1 c1 B1 m1 d1 N1 o1 s2 g2 A2 n2 c2 B2 m2 d2 N2 o2 F
end
section
open Go.RowKit
theorem num_neg_iff{x:Rat}:x.num<0↔x<0:=by rw [<- Int.not_le,Rat.num_nonneg,Rat.not_le]
theorem rat_rv(x:Rat):rv (decide (x<0)) x.num.natAbs x.den=x:=by
 have h:(x.num:Rat) / (x.den:Rat)=x:=by rw [<- Rat.mkRat_eq_div,Rat.mkRat_self]
 unfold rv
 by_cases h0:x<0
 ·have h1:x.num<0:=num_neg_iff.2 h0
  have h2:((x.num.natAbs:Nat):Int)=-x.num:=by omega
  have h3:((x.num.natAbs:Nat):Rat)=-(x.num:Rat):=by rw [<- Rat.intCast_natCast,h2,Rat.intCast_neg]
  simp only [h0,decide_true,if_true,h3,Rat.neg_neg]
  exact h
 ·have h1:¬ x.num<0:=fun h=>h0 (num_neg_iff.1 h)
  have h2:((x.num.natAbs:Nat):Int)=x.num:=by omega
  have h3:((x.num.natAbs:Nat):Rat)=(x.num:Rat):=by rw [<- Rat.intCast_natCast,h2]
  simp only [h0,decide_false,h3]
  exact h
theorem Rnd.dir{d:Int}{x:Rat}{i:Int}(h:Rnd d x i):d=-1\/d=1:=by
 rcases h with ⟨h,_⟩ | ⟨h,_⟩
 ·exact .inl h
 ·exact .inr h
theorem Rnd.unique{d:Int}{x:Rat}{i j:Int}(h:Rnd d x i)(h':Rnd d x j):i=j:=by
 rcases h with ⟨rfl,a1,a2,a3⟩ | ⟨rfl,a1,a2,a3⟩
 ·rcases h' with ⟨-,b1,b2,b3⟩ | ⟨h,_⟩
  ·rcases Int.lt_trichotomy i j with h | h | h
   ·have:=(a3 j (by omega) b2).2 ((b3 j (by omega) b2).1 (Int.le_refl _));omega
   ·exact h
   ·have:=(b3 i (by omega) a2).2 ((a3 i (by omega) a2).1 (Int.le_refl _));omega
  ·omega
 ·rcases h' with ⟨h,_⟩ | ⟨-,b1,b2,b3⟩
  ·omega
  ·rcases Int.lt_trichotomy i j with h | h | h
   ·have:=(b3 i a1 (by omega)).2 ((a3 i a1 (by omega)).1 (Int.le_refl _));omega
   ·exact h
   ·have:=(a3 j b1 (by omega)).2 ((b3 j b1 (by omega)).1 (Int.le_refl _));omega
def rndI(d:Int)(x:Rat):Int:=
 if x=0 then 0 else sg (decide (x<0)) (ansT x.num.natAbs x.den (fout x.num.natAbs x.den ((blen x.num.natAbs:Int) - blen x.den)) (decide (d=1) != decide (x<0)))
theorem rnd_rndI{d:Int}(hd:d=-1\/d=1)(x:Rat):Rnd d x (rndI d x):=by
 unfold rndI
 by_cases h0:x=0
 ·rw [if_pos h0,h0];exact rnd_zero hd
 ·rw [if_neg h0]
  have hp:0<x.num.natAbs:=by
   have:x.num≠0:=fun h=>h0 (Rat.num_eq_zero.1 h)
   omega
  have h:=rnd_ans (neg:=decide (x<0)) hp x.den_pos (fout_sc hp x.den_pos rfl) hd;rw [rat_rv] at h
  exact h
theorem Rnd.eq{d:Int}{x:Rat}{i:Int}(h:Rnd d x i):i=rndI d x:=h.unique (rnd_rndI h.dir x)
theorem rndI_neg{d:Int}(hd:d=-1\/d=1)(x:Rat):rndI (-d) (-x)=- rndI d x:=((rnd_rndI hd x).neg.eq).symm
theorem rndI_fl{d a:Int}(hd:d=-1\/d=1)(h0:-(M:Int)<a)(h1:a<M):rndI d (fl a)=a:=(rnd_rndI hd (fl a)).exact h0 h1
theorem rndI_zero{d:Int}(hd:d=-1\/d=1):rndI d 0=0:=(rnd_zero hd).eq.symm
theorem rndI_down(x:Rat):-(M:Int)<=rndI (-1) x/\rndI (-1) x<M/\∀ j:Int,-(M:Int)<j->j<M->(j<=rndI (-1) x↔fl j<=x):=by
 rcases rnd_rndI (.inl rfl) x with ⟨-,h⟩ | ⟨h,_⟩
 ·exact h
 ·omega
theorem rndI_up(x:Rat):-(M:Int)<rndI 1 x/\rndI 1 x<=M/\∀ j:Int,-(M:Int)<j->j<M->(rndI 1 x<=j↔x<=fl j):=by
 rcases rnd_rndI (.inr rfl) x with ⟨h,_⟩ | ⟨-,h⟩
 ·omega
 ·exact h
theorem rndI_mono{d:Int}(hd:d=-1\/d=1){x y:Rat}(h:x<=y):rndI d x<=rndI d y:=by
 rcases hd with rfl | rfl
 ·have h1:=rndI_down x;have h2:=rndI_down y
  by_cases hc:rndI (-1) x<=rndI (-1) y
  ·exact hc
  ·have h3:=(h1.2.2 (rndI (-1) x) (by omega) h1.2.1).1 (Int.le_refl _)
   exact (h2.2.2 _ (by omega) h1.2.1).2 (Rat.le_trans h3 h)
 ·have h1:=rndI_up x;have h2:=rndI_up y
  by_cases hc:rndI 1 x<=rndI 1 y
  ·exact hc
  ·have h3:=(h2.2.2 (rndI 1 y) h2.1 (by omega)).1 (Int.le_refl _)
   exact (h1.2.2 _ h2.1 (by omega)).2 (Rat.le_trans h h3)
theorem rndI_le(x:Rat):rndI (-1) x<=rndI 1 x:=by
 have h1:=rndI_down x;have h2:=rndI_up x
 by_cases hc:rndI (-1) x<=rndI 1 x
 ·exact hc
 ·have h3:=(h2.2.2 (rndI 1 x) h2.1 (by omega)).1 (Int.le_refl _)
  by_cases h4:rndI 1 x<rndI (-1) x
  ·have h5:=(h1.2.2 (rndI (-1) x) (by omega) h1.2.1).1 (Int.le_refl _);have:=fl_lt_iff.2 h4
   grind
  ·omega
def dn(s:Int)(x:Rat):Int:=if s=0 then rndI (-1) x else s*M
def up(s:Int)(x:Rat):Int:=if s=0 then rndI 1 x else s*M
theorem dn_zero(x:Rat):dn 0 x=rndI (-1) x:=rfl
theorem up_zero(x:Rat):up 0 x=rndI 1 x:=rfl
theorem rc_neg_iff{x y:Rat}:rc x y<0↔x<y:=by
 unfold rc
 by_cases h:x<y
 ·simp [h]
 ·rw [if_neg h]
  by_cases h':y<x<;>simp [h,h']
theorem rc_pos_iff{x y:Rat}:0<rc x y↔y<x:=by
 unfold rc
 by_cases h:x<y
 ·have:¬ y<x:=by grind
  simp [h,this]
 ·rw [if_neg h]
  by_cases h':y<x<;>simp [h']
theorem rc_zero_iff{x y:Rat}:rc x y=0↔x=y:=by
 unfold rc
 by_cases h:x<y
 ·have:x≠y:=by grind
  simp [h,this]
 ·rw [if_neg h]
  by_cases h':y<x
  ·have:x≠y:=by grind
   simp [h',this]
  ·have:x=y:=by grind
   simp [this]
theorem ec_hi{i s:Int}{x:Rat}(hi:-(M:Int)<=i/\i<M)(hs:s=0\/s=1):0<ec (es i) (ex i) s x↔dn s x<i:=by
 have hM:M=9218868437227405312:=rfl
 rcases hs with rfl | rfl
 ·rw [dn_zero];have h:=rndI_down x
  by_cases h0:i=-(M:Int)
  ·subst h0;rw [es_min,ec_lt _ _ (by omega)];omega
  ·rw [es_mid (by omega) hi.2,ec_zero,ex_mid (by omega) hi.2,rc_pos_iff];have h1:=h.2.2 i (by omega) hi.2;rw [<- Int.not_le,h1];grind
 ·have h1:es i<1:=by have:=es_bounds i;unfold es;split<;>(try split)<;>omega
  rw [ec_lt _ _ h1];unfold dn;rw [if_neg (by omega)];omega
theorem ec_lo{j s:Int}{x:Rat}(hj:-(M:Int)<j/\j<=M)(hs:s=0\/s=-1):ec (es j) (ex j) s x<0↔j<up s x:=by
 have hM:M=9218868437227405312:=rfl
 rcases hs with rfl | rfl
 ·rw [up_zero];have h:=rndI_up x
  by_cases h0:j=(M:Int)
  ·subst h0;rw [es_max,ec_gt _ _ (by omega)];omega
  ·rw [es_mid (by omega) (by omega),ec_zero,ex_mid (by omega) (by omega),rc_neg_iff];have h1:=h.2.2 j hj.1 (by omega);rw [<- Int.not_le,h1];grind
 ·have h1:-1<es j:=by unfold es;split<;>(try split)<;>omega
  rw [ec_gt _ _ h1];unfold up;rw [if_neg (by omega)];omega
theorem ec_lo_at{i s:Int}{x:Rat}(hi:-(M:Int)<=i/\i<M)(hs:s=0\/s=-1):(if ec (es i) (ex i) s x<0 then rndI (-1) x else i)=max i (dn s x):=by
 have hM:M=9218868437227405312:=rfl
 rcases hs with rfl | rfl
 ·rw [dn_zero];have h:=rndI_down x
  by_cases h0:i=-(M:Int)
  ·subst h0;rw [es_min,ec_lt _ _ (by omega),if_pos (by omega)];omega
  ·rw [es_mid (by omega) hi.2,ec_zero,ex_mid (by omega) hi.2];have h1:=h.2.2 i (by omega) hi.2
   by_cases hc:fl i<x
   ·rw [if_pos (rc_neg_iff.2 hc)];have:=h1.2 (by grind);omega
   ·rw [if_neg (fun h=>hc (rc_neg_iff.1 h))]
    have:rndI (-1) x<=i:=by
     by_cases h2:rndI (-1) x=-(M:Int)
     ·omega
     ·have h3:=(h.2.2 (rndI (-1) x) (by omega) h.2.1).1 (Int.le_refl _);rw [<- fl_le_iff];grind
    omega
 ·have h1:-1<=es i:=(es_bounds i).1
  have h2:¬ ec (es i) (ex i) (-1) x<0:=by
   by_cases h3:es i=-1
   ·rw [ec_inf _ _ h3 (by omega)];omega
   ·rw [ec_gt _ _ (by omega)];omega
  rw [if_neg h2];unfold dn;rw [if_neg (by omega)];omega
theorem ec_hi_at{j s:Int}{x:Rat}(hj:-(M:Int)<j/\j<=M)(hs:s=0\/s=1):(if 0<ec (es j) (ex j) s x then rndI 1 x else j)=min j (up s x):=by
 have hM:M=9218868437227405312:=rfl
 rcases hs with rfl | rfl
 ·rw [up_zero];have h:=rndI_up x
  by_cases h0:j=(M:Int)
  ·subst h0;rw [es_max,ec_gt _ _ (by omega),if_pos (by omega)];omega
  ·rw [es_mid (by omega) (by omega),ec_zero,ex_mid (by omega) (by omega)];have h1:=h.2.2 j hj.1 (by omega)
   by_cases hc:x<fl j
   ·rw [if_pos (rc_pos_iff.2 hc)];have:=h1.2 (by grind);omega
   ·rw [if_neg (fun h=>hc (rc_pos_iff.1 h))]
    have:j<=rndI 1 x:=by
     by_cases h2:rndI 1 x=(M:Int)
     ·omega
     ·have h3:=(h.2.2 (rndI 1 x) h.1 (by omega)).1 (Int.le_refl _);rw [<- fl_le_iff];grind
    omega
 ·have h1:es j<=1:=(es_bounds j).2
  have h2:¬ 0<ec (es j) (ex j) 1 x:=by
   by_cases h3:es j=1
   ·rw [ec_inf _ _ h3 (by omega)];omega
   ·rw [ec_lt _ _ (by omega)];omega
  rw [if_neg h2];unfold up;rw [if_neg (by omega)];omega
theorem ec_hi_open{i s:Int}{x:Rat}(hi:-(M:Int)<=i/\i<M)(hs:s=1):ec (es i) (ex i) s x≠0:=by
 have h1:es i<s:=by unfold es;split<;>(try split)<;>omega
 rw [ec_lt _ _ h1];omega
theorem ec_lo_open{j s:Int}{x:Rat}(hj:-(M:Int)<j/\j<=M)(hs:s=-1):ec (es j) (ex j) s x≠0:=by
 have hM:M=9218868437227405312:=rfl
 have h1:s<es j:=by unfold es;split<;>(try split)<;>omega
 rw [ec_gt _ _ h1];omega
def ct(i j pd pu qd qu:Int):Int × Int:=if qd<i\/j<pu then ((M:Int),-(M:Int)) else (max i pd,min j qu)
end
section
open Go.RowKit
def pf(s1:Int)(x1:Rat)(o1:Bool)(s2:Int)(x2:Rat)(o2:Bool)(i j:Int):Int × Int:=
 if j<i then ((M:Int),-(M:Int)) else wg i j (ec (es i) (ex i) s2 x2) (ec (es j) (ex j) s1 x1) (ec (es i) (ex i) s1 x1) (ec (es j) (ex j) s2 x2) (rndI (-1) x1) (rndI 1 x2) o1 o2
theorem dn_le_up(s:Int)(x:Rat):dn s x<=up s x:=by
 unfold dn up
 split
 ·exact rndI_le x
 ·omega
theorem dn_lt{s:Int}{x:Rat}(h:s=0\/s=-1):-(M:Int)<=dn s x/\dn s x<M:=by
 have hM:M=9218868437227405312:=rfl
 rcases h with rfl | rfl
 ·have:=rndI_down x;rw [dn_zero];omega
 ·unfold dn;rw [if_neg (by omega)];omega
theorem up_gt{s:Int}{x:Rat}(h:s=0\/s=1):-(M:Int)<up s x/\up s x<=M:=by
 have hM:M=9218868437227405312:=rfl
 rcases h with rfl | rfl
 ·have:=rndI_up x;rw [up_zero];omega
 ·unfold up;rw [if_neg (by omega)];omega
theorem pf_iv{s1:Int}{x1:Rat}{o1:Bool}{s2:Int}{x2:Rat}{o2:Bool}(hs1:s1=0\/s1=-1)(hs2:s2=0\/s2=1)(hle:dn s1 x1<=up s2 x2)(i j:Int)(h:Iv i j):Iv (pf s1 x1 o1 s2 x2 o2 i j).1 (pf s1 x1 o1 s2 x2 o2 i j).2:=by
 rcases h with h | ⟨rfl,rfl⟩
 ·unfold pf;rw [if_neg (by omega)];unfold wg
  split
  ·exact Iv.none
  ·rename_i hn;rw [ec_lo_at (by omega) hs1,ec_hi_at (by omega) hs2];have e1:¬ dn s2 x2<i:=fun h'=>hn (.inl ((ec_hi (by omega) hs2).2 h'));have e2:¬ j<up s1 x1:=fun h'=>hn (.inr (.inr (.inl ((ec_lo (by omega) hs1).2 h'))));have e3:=dn_le_up s1 x1;have e4:=dn_le_up s2 x2;have e5:=dn_lt (x:=x1) hs1;have e6:=up_gt (x:=x2) hs2;unfold Iv
   dsimp only
   omega
 ·unfold pf;have hM:M=9218868437227405312:=rfl;rw [if_pos (by omega)];exact Iv.none
end
section
open Go.RowKit
theorem PcG.of{W:World}{g:Nat}{t:TypeId}{cs:Array Value}{k:Nat}{F:Int->Int->Int × Int}(hb:Blk W g t cs){o:Bool}{s1:Int}{g1:Bool}{A1:Option Addr}{n1 c1:Nat}{B1:Option Addr}{m1 d1:Nat}{N1:Int}{o1:Bool}{s2:Int}{g2:Bool}{A2:Option Addr}{n2 c2:Nat}{B2:Option Addr}{m2 d2:Nat}{N2:Int}{o2:Bool}
  (h:PcW W o s1 g1 A1 n1 c1 B1 m1 d1 N1 o1 s2 g2 A2 n2 c2 B2 m2 d2 N2 o2 F)
  (hc:∀ i:Nat,i<13->cs[k*13+i]?=(#[.bool o,.int .i64 s1,.bool g1,.slice A1 n1 c1,.slice B1 m1 d1,.int .i64 N1,.bool o1,.int .i64 s2,.bool g2,.slice A2 n2 c2,.slice B2 m2 d2,.int .i64 N2,.bool o2]:Array Value)[i]?):PcG W ⟨g,0,none⟩ k F:=by
 have e:(⟨g,0,none⟩:Addr).add (k*13)=⟨g,k*13,none⟩:=by unfold Addr.add;split<;>simp_all
 have c:∀ i:Nat,i<13->W.cell? ⟨g,k*13+i,none⟩=(#[.bool o,.int .i64 s1,.bool g1,.slice A1 n1 c1,.slice B1 m1 d1,.int .i64 N1,.bool o1,.int .i64 s2,.bool g2,.slice A2 n2 c2,.slice B2 m2 d2,.int .i64 N2,.bool o2]:Array Value)[i]?:=fun i hi=>(hb.cell _).trans (hc i hi);refine⟨o,s1,g1,A1,n1,c1,B1,m1,d1,N1,o1,s2,g2,A2,n2,c2,B2,m2,d2,N2,o2,?_,?_,?_,?_,?_,?_,?_,?_,?_,?_,?_,?_,?_,h⟩
 ·rw [e];exact c 0 (by omega)
 ·rw [e];exact c 1 (by omega)
 ·rw [e];exact c 2 (by omega)
 ·rw [e];exact c 3 (by omega)
 ·rw [e];exact c 4 (by omega)
 ·rw [e];exact c 5 (by omega)
 ·rw [e];exact c 6 (by omega)
 ·rw [e];exact c 7 (by omega)
 ·rw [e];exact c 8 (by omega)
 ·rw [e];exact c 9 (by omega)
 ·rw [e];exact c 10 (by omega)
 ·rw [e];exact c 11 (by omega)
 ·rw [e];exact c 12 (by omega)
theorem SetOf.setB{w:World}{v:Value}{i j:Int}(h:SetOf w v i j){g:Nat}{t:TypeId}{cs:Array Value}(hb:Blk w g t cs)(hc:NoWd cs)(k:Nat)(vs:List Value):SetOf (sets w g k vs) v i j:=by
 rcases h with ⟨rfl,rfl,s,x,t,y,g,A,n,c,B,m,d,g',A',n',c',B',m',d',rfl,h4,h5⟩ | ⟨h1,g,A,n,c,B,m,d,g',A',n',c',B',m',d',rfl,h4,h5⟩
 ·exact .inl ⟨rfl,rfl,s,x,t,y,g,A,n,c,B,m,d,g',A',n',c',B',m',d',rfl,h4.sets hb hc k vs,h5.sets hb hc k vs⟩
 ·exact .inr ⟨h1,g,A,n,c,B,m,d,g',A',n',c',B',m',d',rfl,h4.sets hb hc k vs,h5.sets hb hc k vs⟩
theorem SetOf.setsE{w W':World}{v:Value}{i j:Int}(h:SetOf w v i j){g:Nat}{t:TypeId}{cs:Array Value}{k:Nat}{vs:List Value}(hb:Blk w g t cs)(hc:NoWd cs)(e:sets w g k vs=W'):SetOf W' v i j:=e ▸ h.setB hb hc k vs
theorem SetOf.cells{w:World}{v:Value}{i j:Int}(h:SetOf w v i j):∃ o s g A n c B m d t g' A' n' c' B' m' d',v=.agg #[.bool o,.int .i64 s,.bool g,.slice A n c,.slice B m d,.int .i64 t,.bool g',.slice A' n' c',.slice B' m' d']:=by
 rcases h with ⟨-,-,s,x,t,y,g,A,n,c,B,m,d,g',A',n',c',B',m',d',rfl,-,-⟩ | ⟨-,g,A,n,c,B,m,d,g',A',n',c',B',m',d',rfl,-,-⟩
 ·exact⟨_,_,_,_,_,_,_,_,_,_,_,_,_,_,_,_,_,rfl⟩
 ·exact⟨_,_,_,_,_,_,_,_,_,_,_,_,_,_,_,_,_,rfl⟩
theorem PcG.at{W:World}{g:Nat}{t:TypeId}{cs:Array Value}(hb:Blk W g t cs)(k:Nat){o:Bool}{s1:Int}{g1:Bool}{A1:Option Addr}{n1 c1:Nat}{B1:Option Addr}{m1 d1:Nat}{N1:Int}{o1:Bool}{s2:Int}{g2:Bool}{A2:Option Addr}{n2 c2:Nat}{B2:Option Addr}{m2 d2:Nat}{N2:Int}{o2:Bool}{F:Int->Int->Int × Int}
  (h:PcW W o s1 g1 A1 n1 c1 B1 m1 d1 N1 o1 s2 g2 A2 n2 c2 B2 m2 d2 N2 o2 F)
  (hc:cs[k*13]?=some (.bool o)/\cs[k*13+1]?=some (.int .i64 s1)/\cs[k*13+2]?=some (.bool g1)/\cs[k*13+3]?=some (.slice A1 n1 c1)/\cs[k*13+4]?=some (.slice B1 m1 d1)/\cs[k*13+5]?=some (.int .i64 N1)/\cs[k*13+6]?=some (.bool o1)/\cs[k*13+7]?=some (.int .i64 s2)/\cs[k*13+8]?=some (.bool g2)/\cs[k*13+9]?=some (.slice A2 n2 c2)/\cs[k*13+10]?=some (.slice B2 m2 d2)/\cs[k*13+11]?=some (.int .i64 N2)/\cs[k*13+12]?=some (.bool o2)):PcG W ⟨g,0,none⟩ k F:=
 PcG.of hb h fun i hi=>by
  obtain⟨c0,c1,c2,c3,c4,c5,c6,c7,c8,c9,c10,c11,c12⟩:=hc
  match i,hi with
  | 0,_=>exact c0 | 1,_=>exact c1 | 2,_=>exact c2 | 3,_=>exact c3 | 4,_=>exact c4 | 5,_=>exact c5 | 6,_=>exact c6 | 7,_=>exact c7 | 8,_=>exact c8 | 9,_=>exact c9 | 10,_=>exact c10 | 11,_=>exact c11 | 12,_=>exact c12
end
section
open Go.RowKit
end
section
open Go.RowKit
end
section
open Go.RowKit
theorem PcW.below{w w0:World}{o:Bool}{s1:Int}{g1:Bool}{A1:Option Addr}{n1 c1:Nat}{B1:Option Addr}{m1 d1:Nat}{N1:Int}{o1:Bool}{s2:Int}{g2:Bool}{A2:Option Addr}{n2 c2:Nat}{B2:Option Addr}{m2 d2:Nat}{N2:Int}{o2:Bool}{F:Int->Int->Int × Int}
  (h:PcW w0 o s1 g1 A1 n1 c1 B1 m1 d1 N1 o1 s2 g2 A2 n2 c2 B2 m2 d2 N2 o2 F)(hb:Below w0.heap.size w0 w):PcW w o s1 g1 A1 n1 c1 B1 m1 d1 N1 o1 s2 g2 A2 n2 c2 B2 m2 d2 N2 o2 F:=
 ⟨h.1,fun W i j hW hij=>h.2 W i j (hb.trans (hW.mono hb.size)) hij⟩
end
section
open Go.RowKit
end
section
open Go.RowKit
end
def Ne(i j:Int):Prop:=-(M:Int)<=i/\i<=j/\j<=M/\i<M/\-(M:Int)<j
theorem Ne.iv{i j:Int}(h:Ne i j):Iv i j:=.inl h
theorem Ne.neg{i j:Int}(h:Ne i j):Ne (-j) (-i):=by unfold Ne at *;omega
theorem ne_or{i j:Int}(h:Iv i j)(h2:¬ j<i):Ne i j:=by
 rcases h with h | ⟨rfl,rfl⟩
 ·exact h
 ·have hM:=M_val
  omega
section
open Go.RowKit
end
section
open Go.RowKit
end
section
open Go.RowKit
theorem digs_len_pos{S:Nat}(h:0<S){n:Nat}(hl:(digs S).length=n):0<n:=by
 rcases Nat.eq_zero_or_pos n with h0 | h0
 ·rw [h0,digs_length_eq_zero] at hl;omega
 ·exact h0
theorem U32s.carry{W:World}{g:Nat}{t:TypeId}{cs:Array Value}{A:Option Addr}{n c:Nat}{xs:List Nat}(h:U32s W A n c xs)(hb:Blk W g t cs)(hc:cs.toList.all notWd=true)(i:Nat)(v:Value):U32s (W.setCell ⟨g,i,none⟩ v) A n c xs:=
 h.sets hb (NoWd.of (by rw [<- Array.all_toList];exact hc)) i [v]
theorem wlen_digs_le{S K:Nat}(h:blen S<=32*K):wlen (digs S)<=K:=by
 rw [wlen_digs];exact digs_length_le (blen_le_iff.1 h)
theorem blen_shl(S k:Nat)(h:0<S):blen (S*2^k)=blen S+k:=by
 have h1:=blen_high (hi:=S) (lo:=0) (k:=k) h (Nat.two_pow_pos k);rw [Nat.zero_add,Nat.mul_comm] at h1;rw [h1,Nat.add_comm]
def dsum(n1:Bool)(S1:Nat)(n2:Bool)(T2:Nat):Bool × Nat:=if n1=n2 then (n1,S1+T2) else if S1<T2 then (n2,T2 - S1) else (n1,S1 - T2)
theorem rv_int(n:Bool)(S:Nat):rv n S 1=((if n then -(S:Int) else (S:Int):Int):Rat):=by
 unfold rv
 cases n
 ·simp [Rat.div_def]
  rw [Rat.intCast_natCast];grind
 ·simp [Rat.div_def]
  rw [Rat.intCast_natCast];grind
theorem dsum_val(n1:Bool)(S1:Nat)(n2:Bool)(T2:Nat):rv (dsum n1 S1 n2 T2).1 (dsum n1 S1 n2 T2).2 1=rv n1 S1 1+rv n2 T2 1:=by
 rw [rv_int,rv_int,rv_int,<- Rat.intCast_add]
 congr 1
 unfold dsum
 by_cases h:n1=n2
 ·subst h;rw [if_pos rfl]
  cases n1<;>simp<;>omega
 ·rw [if_neg h]
  by_cases hlt:S1<T2
  ·rw [if_pos hlt]
   cases n1<;>cases n2<;>simp at h ⊢<;>omega
  ·rw [if_neg hlt]
   cases n1<;>cases n2<;>simp at h ⊢<;>omega
theorem rv_shift(n:Bool)(S k:Nat)(a b:Int)(h:b=a+k):rv n (S*2^k) 1*2^a=rv n S 1*2^b:=by
 rw [h,zpow_add,zpow_nat,rv_int,rv_int]
 cases n
 ·simp only [Bool.false_eq_true,if_false]
  rw [Rat.intCast_natCast,Rat.intCast_natCast,Rat.natCast_mul];grind
 ·simp only [if_true]
  rw [Rat.intCast_neg,Rat.intCast_neg,Rat.intCast_natCast,Rat.intCast_natCast,Rat.natCast_mul];grind
theorem blen_mono{a b:Nat}(h:a<=b):blen a<=blen b:=blen_le_iff.2 (Nat.lt_of_le_of_lt h (lt_pow_blen b))
theorem dsum_blen(n1:Bool)(S1:Nat)(n2:Bool)(T2 P:Nat)(h1:blen S1<=P)(h2:blen T2<=P):blen (dsum n1 S1 n2 T2).2<=P+1:=by
 have a1:=blen_le_iff.1 h1;have a2:=blen_le_iff.1 h2;refine blen_le_iff.2 ?_;rw [Nat.pow_succ];unfold dsum
 split
 ·dsimp only;omega
 ·split<;>(dsimp only;omega)
theorem wlen_blen{S:Nat}(h:blen S<=524288):wlen (digs S)<=16384:=wlen_digs_le (K:=16384) (by omega)
theorem HasBlk.u32s{W:World}{r:Nat}{t:TypeId}{n0:Nat}{A:Option Addr}{n c:Nat}{xs:List Nat}(h:HasBlk W r t n0)(hu:U32s W A n c xs)(vs:List Value):U32s (Proofs.YthlmlmfebpjgdaaGreatDoor.sets W r 0 vs) A n c xs:=by
 obtain⟨cs,h1,h2,h3⟩:=h
 exact hu.sets h1 h3 0 vs
theorem rv_over(n:Bool)(a D:Nat):rv n a D=rv n a 1*(D:Rat)⁻¹:=by
 unfold rv
 cases n<;>simp [Rat.div_def]<;>grind
end
section
open Go.RowKit
end
section
open Go.RowKit
theorem rv_mul(g1 g2:Bool)(p1 q1 p2 q2:Nat):rv g1 p1 q1*rv g2 p2 q2=rv (g1 != g2) (p1*p2) (q1*q2):=by
 unfold rv
 cases g1<;>cases g2<;>simp [Rat.div_def,Rat.natCast_mul,Rat.inv_mul_rev]<;>grind
end
section
open Ieee
def near(n:Int)(d:Nat):Int:=if n<0 then -((min (nearRung n.natAbs d) M:Nat):Int) else (min (nearRung n.natAbs d) M:Nat)
theorem near_natAbs(n:Int)(d:Nat):(near n d).natAbs=min (nearRung n.natAbs d) M:=by unfold near;split<;>omega
theorem near_neg(n:Int)(d:Nat):near (-n) d=-near n d:=by
 unfold near;rw [Int.natAbs_neg]
 rcases Int.lt_trichotomy n 0 with h | h | h
 ·rw [if_neg (by omega),if_pos h];omega
 ·subst h;have:nearRung 0 d=0:=Nat.le_zero.1 (nearRung_le (Nat.zero_le _))
  simp [this]
 ·rw [if_pos (by omega),if_neg (by omega)]
theorem near_range(n:Int)(d:Nat):-(M:Int)<=near n d/\near n d<=M:=by
 have:=near_natAbs n d;omega
theorem val_scale_nat(r d:Nat):val (r:Int)*2^d=((mag r*2^d:Nat):Int):=by rw [val_nat];simp
theorem le_near{i:Int}{n:Int}{d:Nat}(hi:i<=M)(h:val i*2^d<=n):i<=near n d:=by
 have hp:(0:Int)<2^d:=by exact_mod_cast Nat.two_pow_pos d
 rcases Int.lt_or_le i 0 with h0 | h0
 ·-- below 0
  unfold near
  split
  ·obtain⟨r,rfl⟩:∃ r:Nat,i=-(r:Int):=⟨i.natAbs,by omega⟩
   rw [val_neg,Int.neg_mul,val_scale_nat] at h;have:nearRung n.natAbs d<=r:=nearRung_le (by omega)
   omega
  ·omega
 ·obtain⟨r,rfl⟩:∃ r:Nat,i=(r:Int):=⟨i.natAbs,by omega⟩
  rw [val_scale_nat] at h
  have h2:(0:Int)<=n:=by omega
  unfold near;rw [if_neg (by omega)];have:r<=nearRung n.natAbs d:=le_nearRung (by omega)
  omega
theorem near_le{i:Int}{n:Int}{d:Nat}(hi:-(M:Int)<=i)(h:n<=val i*2^d):near n d<=i:=by
 have:=@le_near (-i) (-n) d (by omega) (by rw [val_neg,Int.neg_mul];omega);rw [near_neg] at this
 omega
theorem near_val{i:Int}(h1:-(M:Int)<=i)(h2:i<=M)(d:Nat):near (val i*2^d) d=i:=
 Int.le_antisymm (near_le h1 (Int.le_refl _)) (le_near h2 (Int.le_refl _))
theorem near_val_zero{i:Int}(h1:-(M:Int)<=i)(h2:i<=M):near (val i) 0=i:=by
 have:=near_val h1 h2 0
 simpa using this
theorem word_false(r:Nat):double.word false r=r:=rfl
theorem word_true(r:Nat):double.word true r=2^63+r:=by unfold Format.word;rw [signWeight_eq];rfl
theorem word_lt64(s:Bool){r:Nat}(h:r<2^63):double.word s r<2^64:=by
 cases s
 ·rw [word_false];omega
 ·rw [word_true];omega
theorem rungOf_word(s:Bool){r:Nat}(h:r<2^63):rungOf (double.word s r)=r:=by
 unfold rungOf
 cases s
 ·rw [word_false];omega
 ·rw [word_true];omega
theorem sgn_word(s:Bool){r:Nat}(h:r<2^63):sgn (double.word s r)=s:=by
 unfold sgn
 cases s
 ·rw [word_false,show r / 2^63=0 from by omega];rfl
 ·rw [word_true,show (2^63+r) / 2^63=1 from by omega];rfl
theorem idx_word(s:Bool){r:Nat}(h:r<2^63):idx (double.word s r)=if s then -(r:Int) else r:=by
 unfold idx;rw [sgn_word s h,rungOf_word s h]
theorem M_lt:M<2^63:=by decide
structure Is (b:Nat) (i:Int):Prop where
 lt:b<2^64
 real:real b
 idx:idx b=i
theorem Is.word(s:Bool){r:Nat}(h:r<=M):Is (double.word s r) (if s then -(r:Int) else r):=by
 have:=M_lt
 have h':r<2^63:=by omega
 exact⟨word_lt64 s h',by unfold Proofs.YthlmlmfebpjgdaaGreatDoor.real;rw [rungOf_word s h'];exact h,idx_word s h'⟩
theorem Is.near{s:Bool}{n:Int}{d:Nat}(h:n≠0->s=decide (n<0)):Is (double.word s (min (nearRung n.natAbs d) M)) (near n d):=by
 have h1:=Is.word s (r:=min (nearRung n.natAbs d) M) (Nat.min_le_right _ _)
 have e:(if s=true then -((min (nearRung n.natAbs d) M:Nat):Int) else ((min (nearRung n.natAbs d) M:Nat):Int))=Proofs.YthlmlmfebpjgdaaGreatDoor.near n d:=by
  unfold Proofs.YthlmlmfebpjgdaaGreatDoor.near
  by_cases h0:n=0
  ·subst h0;have:nearRung (0:Int).natAbs d=0:=Nat.le_zero.1 (nearRung_le (Nat.zero_le _))
   rw [this];cases s<;>simp
  ·rw [h h0]
   by_cases h2:n<0
   ·rw [if_pos h2,if_pos (by simpa using h2)]
   ·rw [if_neg h2,if_neg (by simpa using h2)]
 rw [e] at h1;exact h1
theorem write_num(s:Bool)(m:Nat)(p:Int):double.write (.number s m p)=double.nearest s m p:=rfl
theorem sum_fin{x y:Nat}{sy:Bool}{m n k l:Nat}(hm:m*2^k=mag (rungOf x))(hn:n*2^l=mag (rungOf y)):
  ∃ z:Bool,((Datum.number (sgn x) m (-1074+(k:Int))).sum (.number sy n (-1074+(l:Int)))).map double.write
   = some (double.word (if val (idx x)+signed sy (mag (rungOf y)) 0=0 then z else decide (val (idx x)+signed sy (mag (rungOf y)) 0<0)) (min (nearRung (val (idx x)+signed sy (mag (rungOf y)) 0).natAbs 0) M)):=by
 refine⟨sgn x && sy,?_⟩
 have key:∀ b:Nat,b<=k->b<=l->double.nearest (if signed (sgn x) m (k - b)+signed sy n (l - b)=0 then sgn x && sy else decide (signed (sgn x) m (k - b)+signed sy n (l - b)<0)) (signed (sgn x) m (k - b)+signed sy n (l - b)).natAbs (-1074+(b:Int))=double.word (if val (idx x)+signed sy (mag (rungOf y)) 0=0 then sgn x && sy else decide (val (idx x)+signed sy (mag (rungOf y)) 0<0)) (min (nearRung (val (idx x)+signed sy (mag (rungOf y)) 0).natAbs 0) M):=by
  intro b hk hl;rw [nearest_high]
  have hp:(0:Int)<2^b:=by exact_mod_cast Nat.two_pow_pos b
  have e1:signed (sgn x) m (k - b)*2^b=val (idx x):=by rw [<- signed_split,Nat.sub_add_cancel hk,read_val hm]
  have e2:signed sy n (l - b)*2^b=signed sy (mag (rungOf y)) 0:=by
   rw [<- signed_split,Nat.sub_add_cancel hl,signed_eq,signed_eq,hn,Nat.pow_zero,Nat.mul_one]
  have e3:val (idx x)+signed sy (mag (rungOf y)) 0=(signed (sgn x) m (k - b)+signed sy n (l - b))*2^b:=by rw [<- e1,<- e2,Int.add_mul]
  rw [e3];generalize signed (sgn x) m (k - b)+signed sy n (l - b)=t
  have e4:(t*2^b).natAbs=t.natAbs*2^b:=by rw [Int.natAbs_mul,Int.natAbs_pow];rfl
  have e5:(t*2^b=0)↔t=0:=by
   constructor
   ·intro h
    rcases Int.mul_eq_zero.1 h with h | h
    ·exact h
    ·omega
   ·rintro rfl;simp
  have e6:(t*2^b<0)↔t<0:=by
   constructor
   ·intro h
    rcases Int.lt_or_le t 0 with h2 | h2
    ·exact h2
    ·have:=Int.mul_nonneg h2 (Int.le_of_lt hp);omega
   ·intro h;exact Int.mul_neg_of_neg_of_pos h hp
  rw [e4]
  congr 1
  by_cases h0:t=0
  ·rw [if_pos h0,if_pos (e5.2 h0)]
  ·rw [if_neg h0,if_neg (fun h=>h0 (e5.1 h))]
   exact decide_eq_decide.2 e6.symm
 simp only [Datum.sum,Option.map_some,write_num]
 congr 1
 rcases Nat.le_total k l with h | h
 ·have:=key k (Nat.le_refl _) h;rw [show min (-1074+(k:Int)) (-1074+(l:Int))=-1074+(k:Int) from by omega,show (-1074+(k:Int) - (-1074+(k:Int))).toNat=k - k from by omega,show (-1074+(l:Int) - (-1074+(k:Int))).toNat=l - k from by omega];rw [<- this]
 ·have:=key l h (Nat.le_refl _);rw [show min (-1074+(k:Int)) (-1074+(l:Int))=-1074+(l:Int) from by omega,show (-1074+(l:Int) - (-1074+(l:Int))).toNat=l - l from by omega,show (-1074+(k:Int) - (-1074+(l:Int))).toNat=k - l from by omega];rw [<- this]
theorem add_fin{x y:Nat}(hx:fin x)(hy:fin y):∃ r,double.add x y=some r/\Is r (near (val (idx x)+val (idx y)) 0):=by
 obtain⟨m,k,e,hm,_⟩:=read_fin hx;obtain⟨n,l,e',hn,_⟩:=read_fin hy;obtain⟨z,h⟩:=sum_fin (sy:=sgn y) hm hn;rw [show signed (sgn y) (mag (rungOf y)) 0=val (idx y) from by rw [signed_eq,val_idx,Nat.pow_zero,Nat.mul_one]] at h;unfold Format.add;rw [e,e'];refine⟨_,h,Is.near ?_⟩;intro h0;rw [if_neg h0]
theorem sub_fin{x y:Nat}(hx:fin x)(hy:fin y):∃ r,double.sub x y=some r/\Is r (near (val (idx x) - val (idx y)) 0):=by
 obtain⟨m,k,e,hm,_⟩:=read_fin hx;obtain⟨n,l,e',hn,_⟩:=read_fin hy;obtain⟨z,h⟩:=sum_fin (sy:=!sgn y) hm hn
 have e2:signed (!sgn y) (mag (rungOf y)) 0=-val (idx y):=by
  rw [signed_eq,val_idx,Nat.pow_zero,Nat.mul_one]
  cases sgn y<;>simp
 rw [e2,<- Int.sub_eq_add_neg] at h;unfold Format.sub;rw [e,e'];refine⟨_,h,Is.near ?_⟩;intro h0;rw [if_neg h0]
theorem mul_fin{x y:Nat}(hx:fin x)(hy:fin y):∃ r,double.mul x y=some r/\Is r (near (val (idx x)*val (idx y)) 1074):=by
 obtain⟨m,k,e,hm,_⟩:=read_fin hx;obtain⟨n,l,e',hn,_⟩:=read_fin hy;unfold Format.mul;rw [e,e']
 simp only [Datum.product,Option.map_some,write_num]
 refine⟨_,rfl,?_⟩;rw [show (-1074+(k:Int)+(-1074+(l:Int)))=-1074 - ((1074:Nat):Int)+((k+l:Nat):Int) from by omega,nearest_shift,nearest_low]
 have e1:(val (idx x)*val (idx y)).natAbs=m*n*2^(k+l):=by
  rw [Int.natAbs_mul,val_natAbs,val_natAbs,idx_natAbs,idx_natAbs,<- hm,<- hn,Nat.pow_add];rw [Nat.mul_assoc,Nat.mul_assoc,Nat.mul_left_comm (2^k)]
 rw [<- e1];refine Is.near ?_;intro h0;rw [val_idx,val_idx] at h0 ⊢;generalize mag (rungOf x)=a at h0 ⊢;generalize mag (rungOf y)=b at h0 ⊢;have hab:(0:Int)<=(a:Int)*(b:Int):=Int.mul_nonneg (by omega) (by omega)
 cases sgn x<;>cases sgn y<;>simp [Int.neg_mul,Int.mul_neg] at h0 ⊢
 ·exact hab
 ·have:(0:Int)<(a:Int)*(b:Int):=Int.mul_pos (by omega) (by omega)
  omega
 ·have:(0:Int)<(a:Int)*(b:Int):=Int.mul_pos (by omega) (by omega)
  omega
 ·exact hab
end
section
open Ieee
def Rep(n:Int):Prop:=∃ i:Int,val i=n
theorem Rep.val(i:Int):Rep (val i):=⟨i,rfl⟩
theorem Rep.zero:Rep 0:=⟨0,rfl⟩
theorem Rep.neg{n:Int}(h:Rep n):Rep (-n):=by obtain⟨i,rfl⟩:=h;exact⟨-i,val_neg i⟩
theorem mag_of_le(q k:Nat)(hq:q<=2^53):∃ r,mag r=q*2^k:=by
 -- lower the power until the significand is full,or the power is spent
 induction k generalizing q with
 | zero=>
  exact⟨0*2^52+q,mag_form 0 q (.inl rfl) hq⟩
 | succ k ih=>
  rcases Nat.lt_or_ge q (2^52) with h | h
  ·obtain⟨r,hr⟩:=ih (q*2) (by omega)
   exact⟨r,by rw [hr,Nat.pow_succ,Nat.mul_assoc,Nat.mul_comm 2]⟩
  ·exact⟨(k+1)*2^52+q,mag_form (k+1) q (.inr h) hq⟩
theorem rep_iff{n:Int}:Rep n↔∃ q k:Nat,q<2^53/\n.natAbs=q*2^k:=by
 constructor
 ·rintro⟨i,rfl⟩;obtain⟨k,q,e,h,hq⟩:=rung_form i.natAbs
  exact⟨q,k,hq,by rw [val_natAbs,e,mag_form k q h (by omega)]⟩
 ·rintro⟨q,k,hq,h⟩;obtain⟨r,hr⟩:=mag_of_le q k (by omega)
  rcases Int.lt_or_le n 0 with h0 | h0
  ·exact⟨-(r:Int),by rw [val_neg,val_nat];omega⟩
  ·exact⟨(r:Int),by rw [val_nat];omega⟩
theorem rep_of_dvd{n:Int}(k:Nat)(hd:(2:Int)^k ∣ n)(hn:n.natAbs<=2^53*2^k):Rep n:=by
 obtain⟨m,rfl⟩:=hd;have hp:=Nat.two_pow_pos k
 have e:((2:Int)^k*m).natAbs=m.natAbs*2^k:=by rw [Int.natAbs_mul,Int.natAbs_pow,Nat.mul_comm];rfl
 rw [e] at hn;have hm:m.natAbs<=2^53:=Nat.le_of_mul_le_mul_right hn hp;obtain⟨r,hr⟩:=mag_of_le m.natAbs k hm;rw [<- e] at hr
 rcases Int.lt_or_le ((2:Int)^k*m) 0 with h0 | h0
 ·exact⟨-(r:Int),by rw [val_neg,val_nat];omega⟩
 ·exact⟨(r:Int),by rw [val_nat];omega⟩
theorem dvd_of_natAbs{n:Int}{k q:Nat}(h:n.natAbs=q*2^k):(2:Int)^k ∣ n:=by
 have:((2^k:Nat):Int) ∣ n:=Int.ofNat_dvd_left.2 ⟨q,by rw [h,Nat.mul_comm]⟩
 simpa using this
theorem pow_dvd_le{k l:Nat}(h:k<=l):(2:Int)^k ∣ 2^l:=⟨2^(l - k),by rw [<- Int.pow_add];congr 1;omega⟩
theorem Rep.two{n:Int}(h:Rep n):Rep (2*n):=by
 obtain⟨q,k,hq,e⟩:=rep_iff.1 h
 exact rep_iff.2 ⟨q,k+1,hq,by rw [Int.natAbs_mul,e,Nat.pow_succ];show 2*(q*2^k)=_;rw [Nat.mul_left_comm,Nat.mul_comm 2]⟩
theorem rep_add{x y:Int}(hx:Rep x)(hy:Rep y)(h1:(x+y).natAbs<=x.natAbs)(h2:(x+y).natAbs<=y.natAbs):Rep (x+y):=by
 obtain⟨p,a,hp,ex⟩:=rep_iff.1 hx;obtain⟨q,b,hq,ey⟩:=rep_iff.1 hy;have dx:=dvd_of_natAbs ex;have dy:=dvd_of_natAbs ey
 rcases Nat.le_total a b with h | h
 ·refine rep_of_dvd a (Int.dvd_add dx (Int.dvd_trans (pow_dvd_le h) dy)) ?_;rw [ex] at h1
  exact Nat.le_trans h1 (Nat.mul_le_mul_right _ (by omega))
 ·refine rep_of_dvd b (Int.dvd_add (Int.dvd_trans (pow_dvd_le h) dx) dy) ?_;rw [ey] at h2
  exact Nat.le_trans h2 (Nat.mul_le_mul_right _ (by omega))
theorem rep_sub{x y:Int}(hx:Rep x)(hy:Rep y)(h1:(x - y).natAbs<=x.natAbs)(h2:(x - y).natAbs<=y.natAbs):Rep (x - y):=by
 have:=rep_add hx hy.neg (by rwa [<- Int.sub_eq_add_neg]) (by rw [Int.natAbs_neg,<- Int.sub_eq_add_neg];exact h2)
 rwa [<- Int.sub_eq_add_neg] at this
def R(n:Int):Int:=if n<0 then -(mag (nearRung n.natAbs 0):Int) else mag (nearRung n.natAbs 0)
theorem nearRung_zero(d:Nat):nearRung 0 d=0:=Nat.le_zero.1 (nearRung_le (Nat.zero_le _))
theorem R_zero:R 0=0:=by unfold R;simp [nearRung_zero,mag_zero]
theorem R_neg(n:Int):R (-n)=-R n:=by
 unfold R;rw [Int.natAbs_neg]
 rcases Int.lt_trichotomy n 0 with h | h | h
 ·rw [if_neg (by omega),if_pos h];omega
 ·subst h;simp [nearRung_zero,mag_zero]
 ·rw [if_pos (by omega),if_neg (by omega)]
theorem R_rep(n:Int):Rep (R n):=by
 unfold R
 split
 ·exact⟨-(nearRung n.natAbs 0:Int),by rw [val_neg,val_nat]⟩
 ·exact⟨(nearRung n.natAbs 0:Int),by rw [val_nat]⟩
theorem le_R{r n:Int}(hr:Rep r)(h:r<=n):r<=R n:=by
 obtain⟨i,rfl⟩:=hr;unfold R
 rcases Int.lt_or_le n 0 with h0 | h0
 ·rw [if_pos h0];have hi:i<0:=val_neg_iff.1 (by omega)
  obtain⟨r,rfl⟩:∃ r:Nat,i=-(r:Int):=⟨i.natAbs,by omega⟩
  rw [val_neg,val_nat] at h ⊢;have:nearRung n.natAbs 0<=r:=nearRung_le (by simp;omega);have:=mag_le_iff.2 this
  omega
 ·rw [if_neg (by omega)]
  rcases Int.lt_or_le i 0 with hi | hi
  ·have:=val_neg_iff.2 hi;omega
  ·obtain⟨r,rfl⟩:∃ r:Nat,i=(r:Int):=⟨i.natAbs,by omega⟩
   rw [val_nat] at h ⊢;have:r<=nearRung n.natAbs 0:=le_nearRung (by simp;omega);have:=mag_le_iff.2 this
   omega
theorem R_le{r n:Int}(hr:Rep r)(h:n<=r):R n<=r:=by
 have:=@le_R (-r) (-n) hr.neg (by omega);rw [R_neg] at this;omega
theorem R_of_rep{n:Int}(h:Rep n):R n=n:=Int.le_antisymm (R_le h (Int.le_refl _)) (le_R h (Int.le_refl _))
theorem bump_cases(n:Nat):(nearRung n 0=floorRung n/\n - mag (floorRung n)<=mag (floorRung n+1) - n) \/
  (nearRung n 0=floorRung n+1/\mag (floorRung n+1) - n<=n - mag (floorRung n)):=by
 have hk:=over_spec n
 have hc:mag (floorRung n+1)=(n / 2^over n+1)*2^over n:=by
  unfold floorRung;rw [Nat.add_assoc,mag_form _ _ (by omega) (by omega)]
 have hf:=mag_floorRung n;have hdm:=Nat.div_add_mod n (2^over n);rw [Nat.mul_comm,<- hf] at hdm;rw [Nat.add_mul,<- hf,Nat.one_mul] at hc
 have hb:nearRung n 0=floorRung n+(bump n (over n)).toNat:=by
  unfold nearRung;rw [Nat.pow_zero,Nat.div_one,Nat.zero_add]
 rw [hb,hc];unfold bump;clear hk hf hc hb;generalize mag (floorRung n)=f at *;generalize n % 2^over n=r at *;generalize 2^over n=p at *;generalize floorRung n=g
 by_cases h1:p<2*r
 ·right
  rw [decide_eq_true h1]
  exact⟨rfl,by omega⟩
 ·rw [decide_eq_false h1,Bool.false_or]
  cases h2:(p == 2*r && n / p % 2 == 1)
  ·left;exact⟨rfl,by omega⟩
  ·right
   simp at h2
   exact⟨rfl,by omega⟩
theorem R_nearest_nat(n i:Nat):((n:Int) - mag (nearRung n 0)).natAbs<=((n:Int) - mag i).natAbs:=by
 have f1:=mag_floorRung_le n;have f2:=lt_mag_floorRung_succ n
 have h3:mag i<=mag (floorRung n)\/mag (floorRung n+1)<=mag i:=by
  rw [mag_le_iff,mag_le_iff];omega
 rcases bump_cases n with ⟨e,h⟩ | ⟨e,h⟩<;>rw [e]<;>omega
theorem R_nearest{n r:Int}(hr:Rep r):(n - R n).natAbs<=(n - r).natAbs:=by
 obtain⟨i,rfl⟩:=hr;have h:=R_nearest_nat n.natAbs i.natAbs;rw [<- val_natAbs i] at h;unfold R
 split<;>omega
theorem bump_shift(n k a:Nat):bump (n*2^k) (k+a)=bump n a:=by
 have hp:=Nat.two_pow_pos k
 have e1:n*2^k / 2^(k+a)=n / 2^a:=by rw [Nat.pow_add,Nat.mul_comm n,Nat.mul_div_mul_left _ _ hp]
 have e2:n*2^k % 2^(k+a)=2^k*(n % 2^a):=by rw [Nat.pow_add,Nat.mul_comm n,Nat.mul_mod_mul_left]
 unfold bump;rw [e1,e2,Nat.pow_add];generalize 2^a=x;generalize n % x=y;generalize 2^k=p at hp
 have c1:decide (p*x<2*(p*y))=decide (x<2*y):=by
  rw [show 2*(p*y)=p*(2*y) from by rw [Nat.mul_left_comm]]
  simp [Nat.mul_lt_mul_left hp]
 have c2:(p*x == 2*(p*y))=(x == 2*y):=by
  rw [show 2*(p*y)=p*(2*y) from by rw [Nat.mul_left_comm]];rw [Bool.eq_iff_iff];simp [Nat.mul_right_inj (by omega:p≠0)]
 rw [c1,c2]
theorem log2_mul_pow{n:Nat}(h0:n≠0)(k:Nat):(n*2^k).log2=n.log2+k:=by
 rw [Nat.log2_eq_iff (Nat.mul_ne_zero h0 (by have:=Nat.two_pow_pos k;omega))];have h1:=Nat.log2_self_le h0;have h2:n<2^(n.log2+1):=Nat.lt_log2_self
 constructor
 ·rw [Nat.pow_add];exact Nat.mul_le_mul_right _ h1
 ·rw [show n.log2+k+1=n.log2+1+k from by omega,Nat.pow_add 2 (n.log2+1)];exact Nat.mul_lt_mul_of_pos_right h2 (Nat.two_pow_pos k)
theorem mag_nearRung(n:Nat):mag (nearRung n 0)=(n / 2^over n+(bump n (over n)).toNat)*2^over n:=by
 have hk:=over_spec n;unfold nearRung floorRung;rw [Nat.pow_zero,Nat.div_one,Nat.zero_add,Nat.add_assoc,mag_form]
 ·omega
 ·cases bump n (over n)<;>simp<;>omega
theorem mag_nearRung_shift(n k:Nat):mag (nearRung (n*2^k) 0)=mag (nearRung n 0)*2^k:=by
 by_cases h:n<2^53
 ·obtain⟨r,hr⟩:=mag_of_le n k (by omega);obtain⟨s,hs⟩:=mag_of_le n 0 (by omega);rw [Nat.pow_zero,Nat.mul_one] at hs;have e1:=nearRung_mag r 0;have e2:=nearRung_mag s 0;rw [Nat.pow_zero,Nat.mul_one] at e1 e2;rw [<- hr,e1,hr,<- hs,e2]
 ·have h0:n≠0:=by omega
  have hl:53<=n.log2:=(Nat.le_log2 h0).2 (by omega)
  have ho:over (n*2^k)=k+over n:=by unfold over;rw [log2_mul_pow h0];omega
  rw [mag_nearRung,mag_nearRung,ho,bump_shift];have hp:=Nat.two_pow_pos k;rw [show n*2^k / 2^(k+over n)=n / 2^over n from by rw [Nat.pow_add,Nat.mul_comm n,Nat.mul_div_mul_left _ _ hp]];rw [Nat.add_comm k,Nat.pow_add,Nat.mul_assoc]
theorem R_shift(n:Int)(k:Nat):R (n*2^k)=R n*2^k:=by
 have hp:(0:Int)<2^k:=by exact_mod_cast Nat.two_pow_pos k
 have e:(n*2^k).natAbs=n.natAbs*2^k:=by rw [Int.natAbs_mul,Int.natAbs_pow];rfl
 unfold R;rw [e,mag_nearRung_shift]
 rcases Int.lt_or_le n 0 with h | h
 ·rw [if_pos h,if_pos (Int.mul_neg_of_neg_of_pos h hp),Int.natCast_mul,Int.neg_mul];simp
 ·rw [if_neg (Int.not_lt.2 h),if_neg (by have:=Int.mul_nonneg h (Int.le_of_lt hp);omega),Int.natCast_mul];simp
theorem R_two(n:Int):R (2*n)=2*R n:=by
 have:=R_shift n 1;rw [show (2:Int)^1=2 from rfl,Int.mul_comm,Int.mul_comm (R n)] at this
 exact this
theorem R_dvd{n:Int}{k:Nat}(h:(2:Int)^k ∣ n):(2:Int)^k ∣ R n:=by
 obtain⟨m,rfl⟩:=h;rw [Int.mul_comm,R_shift]
 exact Int.dvd_mul_left _ _
theorem R_nonneg{n:Int}(h:0<=n):0<=R n:=le_R Rep.zero h
theorem R_nonpos{n:Int}(h:n<=0):R n<=0:=R_le Rep.zero h
theorem R_eq_zero{n:Int}:R n=0↔n=0:=by
 constructor
 ·intro h
  have h1:Rep (1:Int):=⟨1,by decide⟩
  rcases Int.lt_trichotomy n 0 with h2 | h2 | h2
  ·have:=R_le (r:=-1) (n:=n) h1.neg (by omega);omega
  ·exact h2
  ·have:=le_R (r:=1) (n:=n) h1 (by omega);omega
 ·rintro rfl;exact R_zero
theorem rep_err{x y:Int}(hx:Rep x)(hy:Rep y):Rep (x+y - R (x+y)):=by
 obtain⟨p,a,hp,ex⟩:=rep_iff.1 hx;obtain⟨q,b,hq,ey⟩:=rep_iff.1 hy;have dx:=dvd_of_natAbs ex;have dy:=dvd_of_natAbs ey
 rcases Nat.le_total a b with h | h
 ·have hd:(2:Int)^a ∣ x+y:=Int.dvd_add dx (Int.dvd_trans (pow_dvd_le h) dy);refine rep_of_dvd a (Int.dvd_sub hd (R_dvd hd)) ?_;have:=R_nearest (n:=x+y) hy;rw [show x+y - y=x from by omega,ex] at this
  exact Nat.le_trans this (Nat.mul_le_mul_right _ (by omega))
 ·have hd:(2:Int)^b ∣ x+y:=Int.dvd_add (Int.dvd_trans (pow_dvd_le h) dx) dy;refine rep_of_dvd b (Int.dvd_sub hd (R_dvd hd)) ?_;have:=R_nearest (n:=x+y) hx;rw [show x+y - x=y from by omega,ey] at this
  exact Nat.le_trans this (Nat.mul_le_mul_right _ (by omega))
theorem two_sum_steps{x y s t:Int}(hx:Rep x)(hy:Rep y)(hs:s=R (x+y))(ht:t=R (s - x))(hv:Rep (s - t))(hb:Rep (y - t)):
  R (R (x - R (s - t))+R (y - t))=x+y - s:=by
 have es:=rep_err (R_rep (x+y)) hx.neg;rw [<- hs,<- Int.sub_eq_add_neg,<- ht] at es
 have h1:R (x - R (s - t))=x - (s - t):=by
  rw [R_of_rep hv];refine R_of_rep ?_;have:=es.neg
  rwa [show -(s - x - t)=x - (s - t) from by omega] at this
 rw [h1,R_of_rep hb,show x - (s - t)+(y - t)=x+y - s from by omega];have:=rep_err hx hy;rw [<- hs] at this
 exact R_of_rep this
theorem two_sum_exact{x y s:Int}(hx:Rep x)(hy:Rep y)(hs:s=R (x+y))(h:Rep (s - x)):
  R (R (x - R (s - R (s - x)))+R (y - R (s - x)))=x+y - s:=by
 refine two_sum_steps hx hy hs rfl ?_ ?_
 ·rw [R_of_rep h,show s - (s - x)=x from by omega];exact hx
 ·rw [R_of_rep h,show y - (s - x)=x+y - s from by omega];have:=rep_err hx hy;rw [<- hs] at this;exact this
theorem two_sum_pos{x y s:Int}(hx:Rep x)(hy:Rep y)(hs:s=R (x+y))(hy0:0<=y):
  R (R (x - R (s - R (s - x)))+R (y - R (s - x)))=x+y - s:=by
 have sr:Rep s:=hs ▸ R_rep _
 by_cases hr:Rep (s - x)
 ·exact two_sum_exact hx hy hs hr
 rcases Int.lt_or_le x 0 with hx0 | hx0
 ·rcases Int.lt_or_le y (-x) with hc | hc
  ·-- y below the size of x: s - x would be a number
   exfalso;apply hr
   have a1:s<=0:=by rw [hs];exact R_nonpos (by omega)
   rcases Int.lt_or_le (-x) (2*y) with h2 | h2
   ·have e:s=x+y:=by
     rw [hs];refine R_of_rep (rep_add hx hy (by omega) (by omega))
    rw [e,show x+y - x=y from by omega];exact hy
   ·-- 2 s is at or below x
    have a2:2*s<=x:=by
     rw [hs,<- R_two];exact R_le hx (by omega)
    have a3:x<=s:=by rw [hs];exact le_R hx (by omega)
    exact rep_sub sr hx (by omega) (by omega)
  ·have a1:0<=s:=by rw [hs];exact R_nonneg (by omega)
   have a0:s<=y:=by rw [hs];exact R_le hy (by omega)
   rcases Int.lt_or_le y (-2*x) with h2 | h2
   ·exfalso;apply hr
    have e:s=x+y:=by
     rw [hs];refine R_of_rep (rep_add hx hy (by omega) (by omega))
    rw [e,show x+y - x=y from by omega];exact hy
   ·have a2:y<=2*s:=by
     rw [hs,<- R_two];exact le_R hy (by omega)
    have tr:Rep (R (s - x)):=R_rep _;have t1:s<=R (s - x):=le_R sr (by omega);have t2:R (s - x)<=2*s:=R_le sr.two (by omega)
    have b1:R (s - x)<=2*y:=by omega
    have b2:y<=2*R (s - x):=by omega
    exact two_sum_steps hx hy hs rfl (rep_sub sr tr (by omega) (by omega)) (rep_sub hy tr (by omega) (by omega))
 ·have a1:x<=s:=by rw [hs];exact le_R hx (by omega)
  have a2:y<=s:=by rw [hs];exact le_R hy (by omega)
  rcases Int.lt_or_le s (2*x) with h2 | h2
  ·exfalso;exact hr (rep_sub sr hx (by omega) (by omega))
  ·have tr:Rep (R (s - x)):=R_rep _;have t1:R (s - x)<=s:=R_le sr (by omega)
   have t2:s<=2*R (s - x):=by rw [<- R_two];exact le_R sr (by omega)
   -- x is not above y here
   rcases Int.lt_or_le y x with h3 | h3
   ·exfalso
    have:s<=2*x:=by rw [hs];exact R_le hx.two (by omega)
    have e:s=2*x:=by omega
    apply hr;rw [e,show 2*x - x=x from by omega];exact hx
   ·have a3:s<=2*y:=by rw [hs];exact R_le hy.two (by omega)
    exact two_sum_steps hx hy hs rfl (rep_sub sr tr (by omega) (by omega)) (rep_sub hy tr (by omega) (by omega))
theorem two_sum{x y s:Int}(hx:Rep x)(hy:Rep y)(hs:s=R (x+y)):
  R (R (x - R (s - R (s - x)))+R (y - R (s - x)))=x+y - s:=by
 rcases Int.lt_or_le y 0 with h | h
 ·have h1:=two_sum_pos (s:=-s) hx.neg hy.neg (by rw [hs,<- R_neg];congr 1;omega) (by omega);rw [show -s - -x=-(s - x) from by omega,R_neg,show -s - -R (s - x)=-(s - R (s - x)) from by omega,R_neg,show -x - -R (s - R (s - x))=-(x - R (s - R (s - x))) from by omega,R_neg,show -y - -R (s - x)=-(y - R (s - x)) from by omega,R_neg,<- Int.neg_add,R_neg] at h1
  omega
 ·exact two_sum_pos hx hy hs h
end
section
open Go.RowKit
theorem mul_le_pos{a b c:Rat}(h:0<c):a*c<=b*c↔a<=b:=by
 constructor
 ·intro h1;exact Rat.le_of_mul_le_mul_right h1 h
 ·intro h1;exact Rat.mul_le_mul_of_nonneg_right h1 (by grind)
theorem fl_le_units{j n:Int}:fl j<=(n:Rat)*2^(-1074:Int)↔val j<=n:=by
 unfold fl;rw [mul_le_pos (zpow_pos _),Rat.intCast_le_intCast]
theorem units_le_fl{j n:Int}:(n:Rat)*2^(-1074:Int)<=fl j↔n<=val j:=by
 unfold fl;rw [mul_le_pos (zpow_pos _),Rat.intCast_le_intCast]
theorem fl_add(i j:Int):fl i+fl j=((val i+val j:Int):Rat)*2^(-1074:Int):=by
 unfold fl;rw [Rat.intCast_add,Rat.add_mul]
theorem near_down{n k:Int}(hk:val k=R n)(h1:-(M:Int)<k)(h2:k<M):rndI (-1) ((n:Rat)*2^(-1074:Int))=if n<R n then k - 1 else k:=by
 refine (Rnd.eq (.inl ⟨rfl,by split<;>omega,by split<;>omega,fun j hj hj'=>?_⟩)).symm;rw [fl_le_units]
 by_cases hc:n<R n
 ·rw [if_pos hc]
  constructor
  ·intro h
   by_cases h3:val j<=n
   ·exact h3
   ·have h4:R n<=val j:=R_le (Rep.val j) (by omega);rw [<- hk,val_le_iff] at h4;omega
  ·intro h
   have h4:val j<val k:=by omega
   rw [val_lt_iff] at h4;omega
 ·rw [if_neg hc]
  constructor
  ·intro h;have:=val_le_iff.2 h;omega
  ·intro h;have h4:val j<=R n:=le_R (Rep.val j) h;rw [<- hk,val_le_iff] at h4;omega
theorem near_up{n k:Int}(hk:val k=R n)(h1:-(M:Int)<k)(h2:k<M):rndI 1 ((n:Rat)*2^(-1074:Int))=if R n<n then k+1 else k:=by
 refine (Rnd.eq (.inr ⟨rfl,by split<;>omega,by split<;>omega,fun j hj hj'=>?_⟩)).symm;rw [units_le_fl]
 by_cases hc:R n<n
 ·rw [if_pos hc]
  constructor
  ·intro h
   by_cases h3:n<=val j
   ·exact h3
   ·have h4:val j<=R n:=le_R (Rep.val j) (by omega);rw [<- hk,val_le_iff] at h4;omega
  ·intro h
   have h4:val k<val j:=by omega
   rw [val_lt_iff] at h4;omega
 ·rw [if_neg hc]
  constructor
  ·intro h;have:=val_le_iff.2 h;omega
  ·intro h;have h4:R n<=val j:=R_le (Rep.val j) h;rw [<- hk,val_le_iff] at h4;omega
theorem mag_two_pow(t:Nat):mag ((t+1)*2^52)=2^52*2^t:=by
 have:=mag_form t (2^52) (.inr (Nat.le_refl _)) (by omega);rw [show (t+1)*2^52=t*2^52+2^52 from by rw [Nat.add_mul,Nat.one_mul]];exact this
theorem rep_two_pow(t:Nat):Rep ((2:Int)^t):=rep_of_dvd t (Int.dvd_refl _) (by rw [Int.natAbs_pow];exact Nat.le_mul_of_pos_left _ (by decide))
theorem R_bound{n:Int}{t:Nat}(h:n.natAbs<=2^t):(R n).natAbs<=2^t:=by
 have h0:((2^t:Nat):Int)=(2:Int)^t:=by rw [Int.natCast_pow];rfl
 have h1:R n<=(2:Int)^t:=R_le (rep_two_pow t) (by omega);have h2:-(2:Int)^t<=R n:=le_R (rep_two_pow t).neg (by omega)
 omega
theorem near_R{n:Int}{Q:Nat}(hQ:Q<=2000)(h:n.natAbs<=2^Q):val (near n 0)=R n/\-(M:Int)<near n 0/\near n 0<M:=by
 have hM:M=2047*2^52:=rfl
 obtain⟨r,hr⟩:∃ r,mag r=2^Q*2^0/\r<M:=by
  by_cases hq:Q<52
  ·have h1:2^Q<2^52:=Nat.pow_lt_pow_right (by omega) hq
   exact⟨2^Q,by rw [mag_small h1,Nat.pow_zero,Nat.mul_one],by omega⟩
  ·obtain⟨t,rfl⟩:∃ t,Q=52+t:=⟨Q - 52,by omega⟩
   refine⟨(t+1)*2^52,by rw [mag_two_pow,Nat.pow_zero,Nat.mul_one,Nat.pow_add],?_⟩;have:(t+1)*2^52<=2000*2^52:=Nat.mul_le_mul_right _ (by omega)
   omega
 have h1:nearRung n.natAbs 0<=r:=nearRung_le (by rw [Nat.pow_zero,Nat.mul_one];rw [Nat.pow_zero,Nat.mul_one] at hr;rw [hr.1];exact h)
 have h2:min (nearRung n.natAbs 0) M=nearRung n.natAbs 0:=by omega
 unfold near R;rw [h2];refine⟨?_,by split<;>omega,by split<;>omega⟩
 split
 ·rw [val_neg,val_nat]
 ·rw [val_nat]
structure Fl (b:Nat) (n:Int):Prop where
 lt:b<18446744073709551616
 fin:fin b
 val:val (idx b)=n
theorem Fl.of_is{b:Nat}{n:Int}{Q:Nat}(hQ:Q<=2000)(h:Is b (near n 0))(hn:n.natAbs<=2^Q):Fl b (R n):=by
 obtain⟨h1,h2,h3⟩:=near_R hQ hn;refine⟨h.lt,?_,by rw [h.idx,h1]⟩;have:=idx_natAbs b;rw [h.idx] at this
 show rungOf b<M
 omega
theorem Fl.add{x y:Nat}{m n:Int}{Q:Nat}(hQ:Q<=2000)(hx:Fl x m)(hy:Fl y n)(h:(m+n).natAbs<=2^Q):∃ r,FloatKind.f64.format.add x y=some r/\Fl r (R (m+n)):=by
 obtain⟨r,h1,h2⟩:=add_fin hx.fin hy.fin;rw [hx.val,hy.val] at h2
 exact⟨r,h1,Fl.of_is hQ h2 h⟩
theorem Fl.sub{x y:Nat}{m n:Int}{Q:Nat}(hQ:Q<=2000)(hx:Fl x m)(hy:Fl y n)(h:(m - n).natAbs<=2^Q):∃ r,FloatKind.f64.format.sub x y=some r/\Fl r (R (m - n)):=by
 obtain⟨r,h1,h2⟩:=sub_fin hx.fin hy.fin;rw [hx.val,hy.val] at h2
 exact⟨r,h1,Fl.of_is hQ h2 h⟩
theorem quick_sum{x y:Nat}{m n:Int}{T:Nat}(hT:T<=1990)(hx:Fl x m)(hy:Fl y n)(bx:m.natAbs<=2^T)(by_:n.natAbs<=2^T):
  ∃ s t a b c e:Nat,FloatKind.f64.format.add x y=some s/\FloatKind.f64.format.sub s x=some t/\FloatKind.f64.format.sub s t=some a/\FloatKind.f64.format.sub x a=some b /\
   FloatKind.f64.format.sub y t=some c/\FloatKind.f64.format.add b c=some e/\Fl s (R (m+n))/\Fl e (m+n - R (m+n)):=by
 have p1:2^(T+1)=2*2^T:=by rw [Nat.pow_succ,Nat.mul_comm]
 have p2:2^(T+2)=4*2^T:=by rw [Nat.pow_add,Nat.mul_comm]
 have p3:2^(T+3)=8*2^T:=by rw [Nat.pow_add,Nat.mul_comm]
 have p4:2^(T+4)=16*2^T:=by rw [Nat.pow_add,Nat.mul_comm]
 have p5:2^(T+10)=1024*2^T:=by rw [Nat.pow_add,Nat.mul_comm]
 have hQ:T+10<=2000:=by omega
 have rx:Rep m:=by rw [<- hx.val];exact Rep.val _
 have ry:Rep n:=by rw [<- hy.val];exact Rep.val _
 have h2:=two_sum rx ry rfl;obtain⟨s,e1,f1⟩:=Fl.add hQ hx hy (by omega);have b1:(R (m+n)).natAbs<=2^(T+1):=R_bound (by omega);obtain⟨t,e2,f2⟩:=Fl.sub hQ f1 hx (by omega);have b2:(R (R (m+n) - m)).natAbs<=2^(T+2):=R_bound (by omega);obtain⟨a,e3,f3⟩:=Fl.sub hQ f1 f2 (by omega);have b3:(R (R (m+n) - R (R (m+n) - m))).natAbs<=2^(T+3):=R_bound (by omega);obtain⟨b,e4,f4⟩:=Fl.sub hQ hx f3 (by omega);have b4:(R (m - R (R (m+n) - R (R (m+n) - m)))).natAbs<=2^(T+4):=R_bound (by omega);obtain⟨c,e5,f5⟩:=Fl.sub hQ hy f2 (by omega);have b5:(R (n - R (R (m+n) - m))).natAbs<=2^(T+3):=R_bound (by omega);obtain⟨e,e6,f6⟩:=Fl.add hQ f4 f5 (by omega);rw [h2] at f6
 exact⟨s,t,a,b,c,e,e1,e2,e3,e4,e5,e6,f1,f6⟩
theorem or_one(v:Nat):v ||| 1=2*(v / 2)+1:=by
 have h1:v=2*(v / 2)+v % 2:=by omega
 apply Nat.eq_of_testBit_eq
 intro i;rw [Nat.testBit_or]
 cases i with
 | zero=>simp
 | succ i=>rw [Nat.testBit_succ,Nat.testBit_succ,Nat.testBit_succ,show (2*(v / 2)+1) / 2=v / 2 from by omega];simp
def marked(w:Nat)(lost:Bool):Nat:=if lost then 2*(w / 2)+1 else w
theorem marked_div(w:Nat)(lost:Bool):marked w lost / 4=w / 4:=by unfold marked;split<;>omega
theorem marked_mod(w:Nat)(lost:Bool):marked w lost % 4=0↔w % 4=0/\lost=false:=by unfold marked;split<;>simp_all;omega
def Dg(S p q:Nat)(exp:Int)(more:Bool):Prop:=
 ∃ U:Nat,0<=exp+U/\3000<=U/\S*2^(exp+U).toNat*q<=p*2^U/\p*2^U<(S+1)*2^(exp+U).toNat*q/\(more=false↔p*2^U=S*2^(exp+U).toNat*q)
theorem Dg.exact(S:Nat)(exp:Int):Dg S (S*2^exp.toNat) (2^(-exp).toNat) exp false:=by
 refine⟨3000+exp.natAbs,by omega,by omega,?_⟩
 have e:S*2^exp.toNat*2^(3000+exp.natAbs)=S*2^(exp+(3000+exp.natAbs:Nat)).toNat*2^(-exp).toNat:=by
  rw [Nat.mul_assoc,Nat.mul_assoc,<- Nat.pow_add,<- Nat.pow_add];congr 2;omega
 refine⟨by omega,?_,by simp [e]⟩;rw [e,Nat.add_mul,Nat.add_mul,Nat.one_mul];have:0<2^(exp+(3000+exp.natAbs:Nat)).toNat*2^(-exp).toNat:=Nat.mul_pos (Nat.two_pow_pos _) (Nat.two_pow_pos _)
 omega
theorem Dg.sc{S p q:Nat}{exp:Int}{more:Bool}(h:Dg S p q exp more)(hS:0<S):Sc p q ((blen S:Int) - 1+exp):=by
 obtain⟨U,h0,-,h1,h2,-⟩:=h;obtain⟨L,e,b1,b2⟩:=blen_bounds hS;rw [e];have c1:2^(L+(exp+U).toNat)*q<=p*2^U:=Nat.le_trans (by rw [Nat.pow_add];exact Nat.mul_le_mul_right _ (Nat.mul_le_mul_right _ b1)) h1;have c2:p*2^U<2^(L+1+(exp+U).toNat)*q:=Nat.lt_of_lt_of_le h2 (by rw [Nat.pow_add];exact Nat.mul_le_mul_right _ (Nat.mul_le_mul_right _ (by omega)))
 have eg:((L+1:Nat):Int) - 1+exp=(L:Int)+exp:=by omega
 rw [eg]
 constructor
 ·intro hf
  have a1:L+(exp+U).toNat=((L:Int)+exp).toNat+U:=by omega
  have a2:L+1+(exp+U).toNat=((L:Int)+exp).toNat+1+U:=by omega
  rw [a1,Nat.pow_add] at c1;rw [a2,Nat.pow_add] at c2
  constructor
  ·refine Nat.le_of_mul_le_mul_right (c:=2^U) ?_ (Nat.two_pow_pos U)
   calc q*2^((L:Int)+exp).toNat*2^U=2^((L:Int)+exp).toNat*2^U*q:=by ac_rfl
    _<=_:=c1
  ·refine Nat.lt_of_mul_lt_mul_right (a:=2^U) ?_
   calc p*2^U<_:=c2
    _=q*2^(((L:Int)+exp).toNat+1)*2^U:=by ac_rfl
 ·intro hf
  have a1:U=L+(exp+U).toNat+(-((L:Int)+exp)).toNat:=by omega
  have c3:2^(L+(exp+U).toNat)*q<=2^(L+(exp+U).toNat)*(p*2^(-((L:Int)+exp)).toNat):=by
   calc _<=_:=c1
    _=p*(2^(L+(exp+U).toNat)*2^(-((L:Int)+exp)).toNat):=by rw [<- Nat.pow_add,<- a1]
    _=_:=by ac_rfl
  have c4:2^(L+(exp+U).toNat)*(p*2^(-((L:Int)+exp)).toNat)<2^(L+(exp+U).toNat)*(2*q):=by
   calc _=p*(2^(L+(exp+U).toNat)*2^(-((L:Int)+exp)).toNat):=by ac_rfl
    _=p*2^U:=by rw [<- Nat.pow_add,<- a1]
    _<_:=c2
    _=_:=by rw [show L+1+(exp+U).toNat=L+(exp+U).toNat+1 from by omega,Nat.pow_succ];ac_rfl
  exact⟨Nat.le_of_mul_le_mul_left c3 (Nat.two_pow_pos _),Nat.lt_of_mul_lt_mul_left c4⟩
theorem or_false_split{a b:Bool}(h:(a || b)=false):a=false/\b=false:=by revert h;cases a<;>cases b<;>simp
theorem bracket{P C W W':Nat}(h1:W*C<=P)(h2:P<(W+1)*C)(h3:W'*C<=P)(h4:P<(W'+1)*C):W=W':=by
 have a:W<W'+1:=Nat.lt_of_mul_lt_mul_right (Nat.lt_of_le_of_lt h1 h4);have b:W'<W+1:=Nat.lt_of_mul_lt_mul_right (Nat.lt_of_le_of_lt h3 h2)
 omega
theorem digits_at{S p q w:Nat}{exp e:Int}{more lost:Bool}(h:Dg S p q exp more)(hq:0<q)(he:-1074<=e)
  (hdn:0<=e - 2 - exp->w=S / 2^(e - 2 - exp).toNat/\(lost=true↔S % 2^(e - 2 - exp).toNat≠0))(hup:e - 2 - exp<0->w=S*2^(-(e - 2 - exp)).toNat/\lost=false/\more=false):
  marked w (lost || more) / 4=upN p e / upM q e/\(marked w (lost || more) % 4=0↔upN p e % upM q e=0):=by
 obtain⟨U,h0,hU,h1,h2,h3⟩:=h;obtain⟨u1,u2,u3,u4⟩:=units (n:=p) (m:=q) (U:=U) (e:=e) hq (by omega);rw [marked_div,marked_mod]
 obtain⟨P,hP⟩:∃ P,p*2^U=P:=⟨_,rfl⟩
 obtain⟨W,hW⟩:∃ W,upN p e / upM q e=W:=⟨_,rfl⟩
 rw [hP] at h1 h2 h3 u1 u2 u3 u4;rw [hW] at u1 u2 u3 u4 ⊢
 obtain⟨C,hC⟩:∃ C,2^(e+U).toNat*q=C:=⟨_,rfl⟩
 rw [Nat.mul_assoc,hC] at u1 u2 u3 u4
 have hC0:0<C:=by rw [<- hC];exact Nat.mul_pos (Nat.two_pow_pos _) hq
 -- the bracket of w / 4,and when P is it
 have key:w / 4*C<=P/\P<(w / 4+1)*C/\(P=w / 4*C↔w % 4=0/\(lost || more)=false):=by
  rcases Int.lt_or_le (e - 2 - exp) 0 with hc | hc
  ·obtain⟨ew,rfl,rfl⟩:=hup hc;have eq:=h3.1 rfl
   obtain⟨k,hk⟩:∃ k,(-(e - 2 - exp)).toNat=k:=⟨_,rfl⟩
   obtain⟨B,hB⟩:∃ B,2^(e - 2+U).toNat*q=B:=⟨_,rfl⟩
   have hB0:0<B:=by rw [<- hB];exact Nat.mul_pos (Nat.two_pow_pos _) hq
   have e4:C=4*B:=by
    rw [<- hC,<- hB,show (e+U).toNat=(e - 2+U).toNat+2 from by omega,Nat.pow_add];have:2^2=4:=rfl;rw [this];ac_rfl
   have eP:P=w*B:=by
    rw [eq,ew,hk,<- hB,show (exp+U).toNat=k+(e - 2+U).toNat from by omega,Nat.pow_add];ac_rfl
   have ew4:w=4*(w / 4)+w % 4:=by omega
   have lt4:w % 4<4:=Nat.mod_lt _ (by omega);generalize w / 4=a at *;generalize w % 4=b at *
   have eP2:P=a*C+b*B:=by rw [eP,ew4,e4,Nat.add_mul];congr 1;ac_rfl
   refine⟨by omega,?_,?_⟩
   ·rw [Nat.add_mul,Nat.one_mul,eP2];have:b*B<4*B:=Nat.mul_lt_mul_of_pos_right lt4 hB0
    omega
   ·constructor
    ·intro h
     have:b*B=0:=by omega
     rcases Nat.mul_eq_zero.1 this with h | h
     ·exact⟨h,rfl⟩
     ·omega
    ·rintro⟨h,-⟩;rw [h] at eP2;omega
  ·obtain⟨ew,hl⟩:=hdn hc
   obtain⟨k,hk⟩:∃ k,(e - 2 - exp).toNat=k:=⟨_,rfl⟩
   rw [hk] at ew hl
   obtain⟨A,hA⟩:∃ A,2^(exp+U).toNat*q=A:=⟨_,rfl⟩
   have hA0:0<A:=by rw [<- hA];exact Nat.mul_pos (Nat.two_pow_pos _) hq
   rw [Nat.mul_assoc,hA] at h1 h2 h3
   have e4:C=4*2^k*A:=by
    rw [<- hC,<- hA,show (e+U).toNat=(exp+U).toNat+k+2 from by omega,Nat.pow_add,Nat.pow_add];have:2^2=4:=rfl;rw [this];ac_rfl
   have eS:S=2^k*w+S % 2^k:=by rw [ew];exact (Nat.div_add_mod S (2^k)).symm
   have lS:S % 2^k<2^k:=Nat.mod_lt _ (Nat.two_pow_pos k)
   have ew4:w=4*(w / 4)+w % 4:=by omega
   have lt4:w % 4<4:=Nat.mod_lt _ (by omega);generalize S % 2^k=l at *;generalize w / 4=a at *;generalize w % 4=b at *;generalize 2^k=K at *
   have eS2:S=a*(4*K)+(K*b+l):=by
    rw [eS,ew4,Nat.mul_add]
    have:K*(4*a)=a*(4*K):=by ac_rfl
    omega
   have hr:K*b+l<4*K:=by
    have:K*b<=K*3:=Nat.mul_le_mul_left _ (by omega)
    omega
   generalize hR:K*b+l=r at *
   have c1:S*A=a*C+r*A:=by rw [eS2,e4,Nat.add_mul];congr 1;ac_rfl
   have c2:(S+1)*A=a*C+(r+1)*A:=by rw [Nat.add_mul,c1,Nat.add_mul];omega
   have c3:(r+1)*A<=C:=by rw [e4];exact Nat.mul_le_mul_right _ (by omega)
   refine⟨by omega,?_,?_⟩
   ·rw [Nat.add_mul,Nat.one_mul];omega
   ·constructor
    ·intro h
     have h5:r*A=0:=by omega
     have h6:r=0:=by rcases Nat.mul_eq_zero.1 h5 with h | h<;>omega
     have h7:l=0:=by omega
     have h8:K*b=0:=by omega
     have h9:b=0:=by rcases Nat.mul_eq_zero.1 h8 with h | h<;>omega
     have h10:lost=false:=by
      cases lost with
      | false=>rfl
      | true=>exact absurd h7 (hl.1 rfl)
     have h11:more=false:=h3.2 (by omega)
     exact⟨h9,by rw [h10,h11];rfl⟩
    ·rintro⟨h5,h6⟩;obtain⟨h7,h8⟩:=or_false_split h6
     have h9:l=0:=by
      by_cases hl0:l=0
      ·exact hl0
      ·have:=hl.2 hl0;rw [h7] at this;cases this
     have h10:r=0:=by rw [<- hR,h5,h9];simp
     have:=h3.1 h8;rw [this,c1,h10];omega
 obtain⟨k1,k2,k3⟩:=key;have hWW:w / 4=W:=bracket k1 k2 u1 u2;refine⟨hWW,?_⟩;rw [<- k3,hWW]
 constructor
 ·intro h
  by_cases h0:upN p e % upM q e=0
  ·exact h0
  ·have:=u4 h0;omega
 ·intro h;exact u3 h
end
section
open Go.RowKit
attribute [local go_sem] run_store_float run_frombits run_bitsof run_negf
theorem ord_lt{a b:Nat}(ha:rungOf a<=M)(hb:rungOf b<=M)(h:idx a<idx b):FloatKind.f64.format.order a b=some .lt:=by
 have:=order_real ha hb;rw [Int.compare_eq_lt.2 h] at this;exact this
theorem ord_eq{a b:Nat}(ha:rungOf a<=M)(hb:rungOf b<=M)(h:idx a=idx b):FloatKind.f64.format.order a b=some .eq:=by
 have:=order_real ha hb;rw [Int.compare_eq_eq.2 h] at this;exact this
theorem ord_gt{a b:Nat}(ha:rungOf a<=M)(hb:rungOf b<=M)(h:idx b<idx a):FloatKind.f64.format.order a b=some .gt:=by
 have:=order_real ha hb;rw [Int.compare_eq_gt.2 h] at this;exact this
theorem real_zero:rungOf 0<=M:=by decide
theorem idx_zero:idx 0=0:=by decide
theorem real_max:rungOf 9218868437227405312<=M:=by decide
theorem real_min:rungOf 18442240474082181120<=M:=by decide
theorem idx_max:idx 9218868437227405312=M:=by decide
theorem idx_min:idx 18442240474082181120=-(M:Int):=by decide
theorem real_top:rungOf 9218868437227405311<=M:=by decide
theorem idx_top:idx 9218868437227405311=(M:Int) - 1:=by decide
theorem abs_any(b:Nat)(w:World)(hb:b<18446744073709551616):Calls Tryz.prog 117 #[.float .f64 b] w fun e w'=>e=.returned (.float .f64 (rungOf b))/\w=w':=by
 have h:=size_i hb;have hf:=fun W=>run_frombits (rungOf b) W
 go_enter Tryz.func117,Tryz.ntmps117
 go_wp2
 go_ret
 exact⟨rfl,rfl⟩
theorem isnanf(b:Nat)(w:World)(hr:rungOf b<=M):Calls Tryz.prog 221 #[.float .f64 b] w fun e w'=>e=.returned (.bool false)/\w=w':=by
 have h:=ord_eq hr hr rfl
 go_enter Tryz.func221,Tryz.ntmps221
 go_wp2
 go_ret
 exact⟨rfl,rfl⟩
theorem rung_idx{b:Nat}(h:b<9223372036854775808):rungOf b=b/\idx b=(b:Int):=by
 have:=pat_cases (b:=b) (by omega)
 omega
theorem isinff(b:Nat)(w:World)(hb:b<18446744073709551616)(hr:rungOf b<=M):Calls Tryz.prog 161 #[.float .f64 b,.int .i64 0] w fun e w'=>e=.returned (.bool (decide (rungOf b=M)))/\w=w':=by
 have HA:=Hd (abs_any b w hb);have hM:M=9218868437227405312:=rfl
 obtain⟨r,hrr⟩:∃ r,rungOf b=r:=⟨_,rfl⟩
 rw [hrr] at HA hr ⊢;have h1:=rung_idx (b:=r) (by omega)
 by_cases h:r=M
 ·have ho:=ord_gt (a:=r) (b:=9218868437227405311) (by omega) real_top (by rw [h1.2,idx_top];omega);rw [decide_eq_true h];clear h1 h hrr hr hM
  go_enter Tryz.func161,Tryz.ntmps161
  go_wp2_with fail;refine HA.out.mono ?_;rintro e w' ⟨rfl,rfl⟩;go_wp2
  go_ret
  exact⟨rfl,rfl⟩
 ·have ho:FloatKind.f64.format.order r 9218868437227405311=some .lt\/FloatKind.f64.format.order r 9218868437227405311=some .eq:=by
   by_cases h2:r=M - 1
   ·exact .inr (ord_eq (by omega) real_top (by rw [h1.2,idx_top];omega))
   ·exact .inl (ord_lt (by omega) real_top (by rw [h1.2,idx_top];omega))
  rw [decide_eq_false h];clear h1 h hrr hr hM
  rcases ho with ho | ho
  all_goals
   go_enter Tryz.func161,Tryz.ntmps161
   go_wp2_with fail;refine HA.out.mono ?_;rintro e w' ⟨rfl,rfl⟩;go_wp2
   go_ret
   exact⟨rfl,rfl⟩
theorem rplain(b:Nat)(w:World)(hb:b<18446744073709551616)(hr:rungOf b<=M):Calls Tryz.prog 184 #[.float .f64 b] w fun e w'=>e=.returned (.float .f64 (pat (idx b)))/\w=w':=by
 have hp:=pl_real hb hr
 by_cases h:idx b=0
 ·have ho:=ord_eq hr real_zero (by rw [idx_zero];exact h);rw [h,pat_zero];clear hp h hr
  go_enter Tryz.func184,Tryz.ntmps184
  go_wp2
  go_ret
  exact⟨rfl,rfl⟩
 ·have ho:FloatKind.f64.format.order b 0=some .lt\/FloatKind.f64.format.order b 0=some .gt:=by
   rcases Int.lt_trichotomy (idx b) 0 with h1 | h1 | h1
   ·exact .inl (ord_lt hr real_zero (by rw [idx_zero];exact h1))
   ·exact absurd h1 h
   ·exact .inr (ord_gt hr real_zero (by rw [idx_zero];exact h1))
  have e:pat (idx b)=b:=by
   rw [<- hp];unfold pl;have:=pat_cases hb;rw [if_neg (by omega),if_neg (by omega)]
  rw [e];clear hp h hr e
  rcases ho with ho | ho
  all_goals
   go_enter Tryz.func184,Tryz.ntmps184
   go_wp2
   go_ret
   exact⟨rfl,rfl⟩
def NextTo(w:World)(k:Int)(e:Ending)(w':World):Prop:=∃ r,e=.returned (.float .f64 r)/\r<18446744073709551616/\rungOf r<=M/\idx r=k/\w=w'
theorem copy_pos(w:World):Calls Tryz.prog 167 (Zv 1 9218868437227405312) w fun e w'=>e=.returned (.float .f64 1)/\w=w':=by
 have h1:bits .andNot .u64 (1:Int) 9223372036854775808=1:=by decide
 have h2:bits .and .u64 (9218868437227405312:Int) 9223372036854775808=0:=by decide
 have h3:bits .or .u64 (1:Int) 0=1:=by decide
 have f1:∀ W:World,(callFunc 73 #[.float .f64 1]).run Tryz.prog W=.ok (.value (.int .u64 1)) W:=fun W=>run_bitsof 1 W;have f2:∀ W:World,(callFunc 73 #[.float .f64 9218868437227405312]).run Tryz.prog W=.ok (.value (.int .u64 9218868437227405312)) W:=fun W=>run_bitsof 9218868437227405312 W;have f3:∀ W:World,(callFunc 74 #[.int .u64 1]).run Tryz.prog W=.ok (.value (.float .f64 1)) W:=fun W=>run_frombits 1 W
 go_enter Tryz.func167,Tryz.ntmps167
 go_wp2
 go_ret
 exact⟨rfl,rfl⟩
theorem copy_neg(w:World):Calls Tryz.prog 167 (Zv 1 18442240474082181120) w fun e w'=>e=.returned (.float .f64 9223372036854775809)/\w=w':=by
 have h1:bits .andNot .u64 (1:Int) 9223372036854775808=1:=by decide
 have h2:bits .and .u64 (18442240474082181120:Int) 9223372036854775808=9223372036854775808:=by decide
 have h3:bits .or .u64 (1:Int) 9223372036854775808=9223372036854775809:=by decide
 have f1:∀ W:World,(callFunc 73 #[.float .f64 1]).run Tryz.prog W=.ok (.value (.int .u64 1)) W:=fun W=>run_bitsof 1 W;have f2:∀ W:World,(callFunc 73 #[.float .f64 18442240474082181120]).run Tryz.prog W=.ok (.value (.int .u64 18442240474082181120)) W:=fun W=>run_bitsof 18442240474082181120 W;have f3:∀ W:World,(callFunc 74 #[.int .u64 9223372036854775809]).run Tryz.prog W=.ok (.value (.float .f64 9223372036854775809)) W:=fun W=>run_frombits 9223372036854775809 W
 go_enter Tryz.func167,Tryz.ntmps167
 go_wp2
 go_ret
 exact⟨rfl,rfl⟩
end
end Go.Proofs.YthlmlmfebpjgdaaGreatDoor
