/- Plain laws of halving and of quotients rounded to even. No Go in sight. -/
import Derived.Test.YtikajapjkdloaaaGreatDoor900
import Derived.Laws.Bits64b
namespace Go.Proofs.YtikajapjkdloaaaGreatDoor
open Go.RowKit
theorem La(x:Int)(h0:0<=x)(h:x<18446744073709551616):bits .and .u64 x 1=x%2:=by
 obtain⟨n,rfl⟩:=Int.eq_ofNat_of_zero_le h0
 have:=bits_and_u64_nat n 1 (by omega) (by omega)
 rw[Nat.and_one_is_mod]at this
 exact this.trans (by omega)
theorem Si(x b:Int)(h0:0<=x)(h:x<9223372036854775808)(hb:b=0∨b=1):bits .or .u64 x (b*9223372036854775808)=x+b*9223372036854775808:=by
 obtain⟨n,rfl⟩:=Int.eq_ofNat_of_zero_le h0
 have hn:n<9223372036854775808:=by omega
 rcases hb with rfl|rfl
 ·have:=bits_or_u64_nat n 0 (by omega) (by omega)
  simpa using this
 have k:=bits_or_u64_nat n 9223372036854775808 (by omega) (by omega)
 have e:n|||9223372036854775808=n+9223372036854775808:=by
  have:=Nat.two_pow_add_eq_or_of_lt (i:=63) (b:=n) (by omega) 1
  rw[Nat.or_comm]
  simpa[Nat.add_comm]using this.symm
 rw[e]at k
 simpa using k
theorem VY(x y:Int)(hx:x=0∨x=1)(hy:y=0∨y=1):bits .or .u64 x y=if x=1∨y=1 then 1 else 0:=by
 rcases hx with rfl|rfl<;>rcases hy with rfl|rfl<;>rfl
theorem SY(a:Int):AW a/2=AW (a/2):=by unfold AW;omega
theorem Tf(a:Int):bits .or .u64 (AY a/2) (IntKind.u64.wrap (IntKind.u64.wrap (AW a)*9223372036854775808))=AY (a/2):=by
 have e:IntKind.u64.wrap (IntKind.u64.wrap (AW a)*9223372036854775808)=(AW a%2)*9223372036854775808:=by simp only[IntKind.wrap_u64];omega
 rw[e,Si _ _ (by unfold AY;omega) (by unfold AY;omega) (by omega)]
 unfold AW AY;omega
theorem Pi(a:Int):bits .and .u64 (AY a) 1=a%2:=by
 rw[La _ (Df a).1 (Df a).2];unfold AY;omega
/-! Halving so often: the last bit that fell, and whether one below it did. -/
def AI(k:Nat):Int:=2^k
theorem FB(k:Nat):0<AI k:=Int.pow_pos (by omega)
theorem E9(k:Nat):AI (k+1)=2*AI k:=by unfold AI;rw[Int.pow_succ];omega
def dn(a:Int)(k:Nat):Int:=a/AI k
theorem Kr(a:Int):dn a 0=a:=by simp[dn,AI]
theorem F0(a:Int)(k:Nat):dn a (k+1)=dn a k/2:=by
 unfold dn;rw[E9,Int.mul_comm,<-Int.ediv_ediv_of_nonneg (by have:=FB k;omega)]
def Ci(a:Int):Nat->Int
 |0=>0
 |k+1=>dn a k%2
def CQ(a:Int):Nat->Int
 |0=>0
 |k+1=>if CQ a k=1∨Ci a k=1 then 1 else 0
theorem RH(a:Int)(k:Nat):Ci a k=0∨Ci a k=1:=by
 cases k with
 |zero=>exact .inl rfl
 |succ k=>show dn a k%2=0∨dn a k%2=1;omega
theorem Qh(a:Int)(k:Nat):CQ a k=0∨CQ a k=1:=by
 cases k with
 |zero=>exact .inl rfl
 |succ k=>show(if _ then(1:Int)else 0)=0∨(if _ then(1:Int)else 0)=1;split<;>simp
theorem SX(a:Int)(k:Nat):bits .or .u64 (CQ a k) (Ci a k)=CQ a (k+1):=VY _ _ (Qh a k) (RH a k)
def Al(a b:Int):Int:=if 2*(a%b)>b∨2*(a%b)=b/\(a/b)%2=1 then a/b+1 else a/b
theorem I4(a:Int)(k:Nat):a%AI (k+1)=a%AI k+AI k*(dn a k%2):=by
 have hp:=FB k
 have h1:=Int.mul_ediv_add_emod a (AI (k+1))
 have h2:=Int.mul_ediv_add_emod a (AI k)
 have h3:=F0 a k
 have h4:=Int.mul_ediv_add_emod (dn a k) 2
 unfold dn at h3 h4⊢
 rw[E9]at h1 h3⊢
 rw[h3]at h1
 have h5:2*AI k*(a/AI k/2)=AI k*(2*(a/AI k/2)):=by rw[Int.mul_comm 2,Int.mul_assoc]
 have h6:AI k*(a/AI k)=AI k*(2*(a/AI k/2))+AI k*(a/AI k%2):=by rw[<-Int.mul_add,h4]
 omega
theorem Pn(a:Int)(k:Nat):CQ a (k+1)=1<->a%AI k≠0:=by
 induction k with
 |zero=>simp[CQ,Ci,AI]
 |succ k ih=>
  have e:CQ a (k+1+1)=if CQ a (k+1)=1∨Ci a (k+1)=1 then 1 else 0:=rfl
  have hl:Ci a (k+1)=dn a k%2:=rfl
  have hm:=I4 a k
  have hp:=FB k
  have hn:=Int.emod_nonneg a (show AI k≠0 by omega)
  rw[e,hl]
  have e2:(CQ a (k+1)=1∨dn a k%2=1)<->a%AI (k+1)≠0:=by
   rw[ih,hm]
   have h2:dn a k%2=0∨dn a k%2=1:=by omega
   rcases h2 with h2|h2<;>rw[h2]
   ·simp
   simp;omega
  by_cases c:CQ a (k+1)=1∨dn a k%2=1
  ·simp only[if_pos c,true_iff];exact e2.1 c
  simp only[if_neg c];constructor
  ·intro h;omega
  intro h;exact absurd (e2.2 h) c
theorem Hm(a:Int)(n:Nat):Al a (AI n)=if Ci a n=1/\(CQ a n=1∨dn a n%2=1)then dn a n+1 else dn a n:=by
 cases n with
 |zero=>simp[Al,Ci,AI,dn]
 |succ k=>
  have hm:=I4 a k
  have hp:=FB k
  have hn:=Int.emod_nonneg a (show AI k≠0 by omega)
  have hlt:=Int.emod_lt_of_pos a hp
  have hs:=E9 k
  have hl:Ci a (k+1)=dn a k%2:=rfl
  unfold Al
  rw[show a/AI (k+1)=dn a (k+1)from rfl,hl]
  have hr:=Pn a k
  have h2:dn a k%2=0∨dn a k%2=1:=by omega
  have key:(2*(a%AI (k+1))>AI (k+1)∨2*(a%AI (k+1))=AI (k+1)/\dn a (k+1)%2=1)<->(dn a k%2=1/\(CQ a (k+1)=1∨dn a (k+1)%2=1)):=by
   rw[hr]
   rcases h2 with h2|h2<;>rw[h2]at hm⊢ <;>omega
  by_cases c:dn a k%2=1/\(CQ a (k+1)=1∨dn a (k+1)%2=1)
  ·rw[if_pos (key.2 c),if_pos c]
  rw[if_neg (λh=>c (key.1 h)),if_neg c]
theorem Sw{a:Int}(h:AS a)(k:Nat):AS (dn a k):=by
 induction k with
 |zero=>rw[Kr];exact h
 |succ k ih=>rw[F0];unfold AS at*;omega
theorem IG{a:Int}(h:AS a)(k:Nat)(hk:Ci a k=1):AS (dn a k+1):=by
 cases k with
 |zero=>simp[Ci]at hk
 |succ k=>have:=Sw h k;rw[F0];unfold AS at*;omega
/-! The quotient, bit by bit. -/
theorem RJ(x b:Int)(h0:0<=x)(h:2*x<18446744073709551616)(hb:b=0∨b=1):bits .or .u64 (2*x) b=2*x+b:=by
 obtain⟨n,rfl⟩:=Int.eq_ofNat_of_zero_le h0
 rcases hb with rfl|rfl
 ·have:=bits_or_u64_nat (2*n) 0 (by omega) (by omega)
  simpa using this
 have k:=bits_or_u64_nat (2*n) 1 (by omega) (by omega)
 have e:2*n|||1=2*n+1:=by
  have:=Nat.two_pow_add_eq_or_of_lt (i:=1) (b:=1) (by omega) n
  simpa using this.symm
 rw[e]at k
 simpa using k
def sh(A:Int):Nat->Int
 |0=>A
 |k+1=>(2*sh A k)%340282366920938463463374607431768211456
def bt(A:Int)(k:Nat):Int:=sh A k/170141183460469231731687303715884105728
def rs(A b:Int):Nat->Int
 |0=>0
 |k+1=>if 2*rs A b k+bt A k>=b then 2*rs A b k+bt A k-b else 2*rs A b k+bt A k
def qs(A b:Int):Nat->Int
 |0=>0
 |k+1=>if 2*rs A b k+bt A k>=b then 2*qs A b k+1 else 2*qs A b k
def OZ(A:Int)(k:Nat):Int:=sh A k/18446744073709551616
def R8(A:Int)(k:Nat):Int:=sh A k%18446744073709551616
def SA(A:Int):Prop:=0<=A/\A<340282366920938463463374607431768211456
theorem T3{A:Int}(h:SA A)(k:Nat):SA (sh A k):=by
 cases k with
 |zero=>exact h
 |succ k=>unfold SA;show 0<=(2*sh A k)%_/\(2*sh A k)%_<_;omega
theorem Ru{A:Int}(h:SA A)(k:Nat):bt A k=0∨bt A k=1:=by have:=T3 h k;unfold SA at this;unfold bt;omega
theorem RG{A b:Int}(h:SA A)(hb:0<b)(k:Nat):0<=rs A b k/\rs A b k<b:=by
 induction k with
 |zero=>exact⟨Int.le_refl 0,hb⟩
 |succ k ih=>
  have:=Ru h k
  have er:rs A b (k+1)=if 2*rs A b k+bt A k>=b then 2*rs A b k+bt A k-b else 2*rs A b k+bt A k:=rfl
  rw[er]
  split<;>omega
theorem VX{A:Int}(h:SA A)(k:Nat):bits .or .u64 (IntKind.u64.wrap (OZ A k*2)) (R8 A k/9223372036854775808)=OZ A (k+1):=by
 have:=T3 h k
 have e:IntKind.u64.wrap (OZ A k*2)=2*(OZ A k%9223372036854775808):=by rw[IntKind.wrap_u64];omega
 rw[e,RJ _ _ (by omega) (by omega) (by unfold R8;omega)]
 unfold OZ R8
 show _=(2*sh A k)%_/_
 unfold SA at this
 omega
theorem Vu(A:Int)(k:Nat):IntKind.u64.wrap (R8 A k*2)=R8 A (k+1):=by
 rw[IntKind.wrap_u64];unfold R8;show _=(2*sh A k)%_%_;omega
theorem Tp{A b:Int}(h:SA A)(hb:0<b)(hb2:b<=9223372036854775808)(k:Nat):bits .or .u64 (IntKind.u64.wrap (rs A b k*2)) (OZ A k/9223372036854775808)=2*rs A b k+bt A k:=by
 have h1:=RG h hb k
 have h2:=Ru h k
 have e:IntKind.u64.wrap (rs A b k*2)=2*rs A b k:=by rw[IntKind.wrap_u64];omega
 have e2:OZ A k/9223372036854775808=bt A k:=by unfold OZ bt;omega
 rw[e,e2,RJ _ _ h1.1 (by omega) h2]
theorem Ut{A:Int}(b:Int)(h:SA A)(k:Nat)(hk:k<=128):A/AI (128-k)=qs A b k*b+rs A b k/\sh A k=(A%AI (128-k))*AI k:=by
 induction k with
 |zero=>
  have e:AI (128-0)=340282366920938463463374607431768211456:=by decide
  rw[e]
  unfold SA at h
  refine⟨?_,?_⟩
  ·show _=0*b+0;omega
  show A=_*2^0;omega
 |succ k ih=>
  obtain⟨i1,i2⟩:=ih (by omega)
  obtain⟨j,hj⟩: ∃j,128-k=j+1:=⟨127-k,by omega⟩
  have hj2:128-(k+1)=j:=by omega
  have hpk:AI (j+1)*AI k=340282366920938463463374607431768211456:=by
   unfold AI;rw[<-Int.pow_add,show j+1+k=128 from by omega];decide
  rw[hj]at i1 i2
  rw[hj2]
  have hp:=FB j
  have hs:=E9 j
  have hm:=I4 A j
  have hd:=F0 A j
  have hkp:=FB k
  have hks:=E9 k
  unfold dn at hm hd
  have h2:A/AI j%2=0∨A/AI j%2=1:=by omega
  have hn:=Int.emod_nonneg A (show AI j≠0 by omega)
  have hl:=Int.emod_lt_of_pos A hp
  -- the bit
  have hjk:2*(AI j*AI k)=340282366920938463463374607431768211456:=by rw[<-hpk,hs,Int.mul_assoc]
  have hx:0<=(A%AI j)*AI k:=Int.mul_nonneg hn (by omega)
  have hy:(A%AI j)*AI k<AI j*AI k:=Int.mul_lt_mul_of_pos_right hl hkp
  have hsh:sh A k=(A%AI j)*AI k+(A/AI j%2)*(AI j*AI k):=by
   rw[i2,hm,Int.add_mul]
   congr 1
   rw[Int.mul_comm (AI j),Int.mul_assoc]
  have hbt:bt A k=A/AI j%2:=by
   unfold bt
   rcases h2 with h2|h2<;>rw[h2]at hsh⊢ <;>omega
  have hq:A/AI j=2*(A/AI (j+1))+bt A k:=by rw[hbt,hd];omega
  refine⟨?_,?_⟩
  ·rw[hq,i1]
   have er:rs A b (k+1)=if 2*rs A b k+bt A k>=b then 2*rs A b k+bt A k-b else 2*rs A b k+bt A k:=rfl
   have eq:qs A b (k+1)=if 2*rs A b k+bt A k>=b then 2*qs A b k+1 else 2*qs A b k:=rfl
   have em:2*(qs A b k*b)=2*qs A b k*b:=by rw[Int.mul_assoc]
   rw[er,eq]
   split
   ·rw[Int.add_mul,<-em];omega
   rw[<-em];omega
  have e1:sh A (k+1)=(2*sh A k)%340282366920938463463374607431768211456:=rfl
  have e2:(A%AI j)*AI (k+1)=2*((A%AI j)*AI k):=by rw[hks,Int.mul_left_comm]
  rw[e1,e2,hsh]
  rcases h2 with h2|h2<;>rw[h2]<;>omega
theorem UX{A b:Int}(h:SA A)(hb:0<b):qs A b 128=A/b/\rs A b 128=A%b:=by
 have h1:=(Ut b h 128 (Nat.le_refl _)).1
 have h2:=RG h hb 128
 have e:AI (128-128)=1:=rfl
 rw[e,Int.ediv_one]at h1
 have h3:=Int.mul_ediv_add_emod A b
 have hu:qs A b 128=A/b/\rs A b 128=A%b:=by
  have:=(Int.ediv_emod_unique hb (a:=A) (r:=rs A b 128) (q:=qs A b 128)).2 ⟨by rw[Int.add_comm,Int.mul_comm];exact h1.symm,h2.1,h2.2⟩
  exact⟨this.1.symm,this.2.symm⟩
 exact hu
theorem Kj(a b:Int):Aj (Aj a+Aj b)=Aj (a+b):=by unfold Aj;omega
theorem No(a b:Int):Aj (Aj a+b)=Aj (a+b):=by unfold Aj;omega
theorem NQ(a b:Int):Aj (a-Aj b)=Aj (a-b):=by unfold Aj;omega
theorem R_{a:Int}(ha:AS a)(h: ¬a<0):SA a.natAbs/\IntKind.u64.wrap (AW a)=OZ a.natAbs 0/\AY a=R8 a.natAbs 0:=by
 unfold AS at ha
 refine⟨by unfold SA;omega,?_,?_⟩
 ·rw[IntKind.wrap_u64];unfold OZ AW;show _=(a.natAbs:Int)/_;omega
 unfold R8 AY;show _=(a.natAbs:Int)%_;omega
theorem RL{a:Int}(ha:AS a)(h:a<0):SA a.natAbs/\IntKind.u64.wrap (AW (Aj (-a)))=OZ a.natAbs 0/\AY (Aj (-a))=R8 a.natAbs 0:=by
 unfold AS at ha
 refine⟨by unfold SA;omega,?_,?_⟩
 ·rw[IntKind.wrap_u64];unfold OZ AW Aj;show _=(a.natAbs:Int)/_;omega
 unfold R8 AY Aj;show _=(a.natAbs:Int)%_;omega
/-! The quotient rounded down, by any number but 0; what is left, through the other one's size. -/
def fl(a b:Int):Int:=if b<0 then(-a)/(-b)else a/b
def rm(a b:Int):Int:=if b<0 then(-a)%(-b)else a%b
def ev(a b:Int):Int:=if b<0 then Al (-a) (-b)else Al a b
theorem Sd(A B:Int)(hB:0<B):(-A)/B=(if A%B>0 then-(A/B)-1 else-(A/B))/\(-A)%B=(if A%B>0 then B-A%B else A%B):=by
 have h1:=Int.mul_ediv_add_emod A B
 have h2:=Int.emod_nonneg A (show B≠0 by omega)
 have h3:=Int.emod_lt_of_pos A hB
 by_cases h:A%B>0
 ·rw[if_pos h,if_pos h]
  refine(Int.ediv_emod_unique hB).2 ⟨?_,by omega,by omega⟩
  have e:B*(-(A/B)-1)= -(B*(A/B))-B:=by rw[Int.mul_sub,Int.mul_neg,Int.mul_one]
  omega
 rw[if_neg h,if_neg h]
 refine(Int.ediv_emod_unique hB).2 ⟨?_,by omega,by omega⟩
 have e:B*(-(A/B))= -(B*(A/B)):=Int.mul_neg _ _
 omega
theorem K4{a b:Int}(_hb:b≠0)(h:(decide (a<0)!=decide (b<0))=false):fl a b=a.natAbs/b.natAbs/\rm a b=a.natAbs%b.natAbs:=by
 have h':a<0<->b<0:=by simpa using h
 unfold fl rm
 by_cases hn:b<0
 ·rw[if_pos hn,if_pos hn,show((a.natAbs:Int))= -a from by have:=h'.2 hn;omega,show((b.natAbs:Int))= -b from by omega];exact⟨rfl,rfl⟩
 rw[if_neg hn,if_neg hn,show((a.natAbs:Int))=a from by have: ¬a<0:= λk=>hn (h'.1 k);omega,show((b.natAbs:Int))=b from by omega];exact⟨rfl,rfl⟩
theorem G9{a b:Int}(hb:b≠0)(h:(decide (a<0)!=decide (b<0))=true):
 fl a b=(if(a.natAbs:Int)%b.natAbs>0 then-((a.natAbs:Int)/b.natAbs)-1 else-((a.natAbs:Int)/b.natAbs))/\rm a b=(if(a.natAbs:Int)%b.natAbs>0 then(b.natAbs:Int)-(a.natAbs:Int)%b.natAbs else(a.natAbs:Int)%b.natAbs):=by
 have h': ¬(a<0<->b<0):=by simpa using h
 have k:=Sd (a.natAbs:Int) b.natAbs (by omega)
 unfold fl rm
 by_cases hn:b<0
 ·rw[if_pos hn,if_pos hn,show-a= -(a.natAbs:Int)from by omega,show-b=(b.natAbs:Int)from by omega];exact k
 rw[if_neg hn,if_neg hn,show a/b=(-(a.natAbs:Int))/(b.natAbs:Int)from by rw[show-(a.natAbs:Int)=a from by omega,show(b.natAbs:Int)=b from by omega],show a%b=(-(a.natAbs:Int))%(b.natAbs:Int)from by rw[show-(a.natAbs:Int)=a from by omega,show(b.natAbs:Int)=b from by omega]];exact k
theorem Lv{a b:Int}(_ha:AS a)(_hb:b≠0):0<=(a.natAbs:Int)/b.natAbs/\(a.natAbs:Int)/b.natAbs<=a.natAbs:=
 ⟨Int.ediv_nonneg (by omega) (by omega),Int.ediv_le_self _ (by omega)⟩
theorem Nx{a b:Int}(_hb:b≠0):0<=(a.natAbs:Int)%b.natAbs/\(a.natAbs:Int)%b.natAbs<b.natAbs:=
 ⟨Int.emod_nonneg _ (by omega),Int.emod_lt_of_pos _ (by omega)⟩
theorem MQ{a b:Int}(ha:AS a)(hb:b≠0)(h:(decide (a<0)!=decide (b<0))=false)(hx: ¬(a= -170141183460469231731687303715884105728/\b= -1)):AS ((a.natAbs:Int)/b.natAbs):=by
 have h':a<0<->b<0:=by simpa using h
 have k:=Lv ha hb
 unfold AS at*
 by_cases hm:a= -170141183460469231731687303715884105728
 ·subst hm
  have hb2:(2:Int)<=b.natAbs:=by have:=h'.1 (by omega);omega
  have e:=Int.mul_ediv_add_emod ((-170141183460469231731687303715884105728:Int).natAbs:Int) b.natAbs
  have r:=Nx (a:= -170141183460469231731687303715884105728) hb
  have:=Int.mul_le_mul_of_nonneg_right hb2 k.1
  omega
 omega
theorem M_{a b:Int}(ha:AS a)(hb:b≠0):AS (-((a.natAbs:Int)/b.natAbs)):=by
 have k:=Lv ha hb
 unfold AS at*;omega
theorem GJ{a b:Int}(ha:AS a)(hb:b≠0)(h:(decide (a<0)!=decide (b<0))=true)(hr:(a.natAbs:Int)%b.natAbs>0):AS (-((a.natAbs:Int)/b.natAbs)-1):=by
 have k:=Lv ha hb
 have h': ¬(a<0<->b<0):=by simpa using h
 unfold AS at*
 have hb2:(2:Int)<=b.natAbs:=by
  by_cases e:(b.natAbs:Int)=1
  ·rw[e]at hr;omega
  omega
 have e:=Int.mul_ediv_add_emod (a.natAbs:Int) b.natAbs
 have:=Int.mul_le_mul_of_nonneg_right hb2 k.1
 omega
theorem TO{a b:Int}(ha:AS a)(hb:b≠0)(hx: ¬(a= -170141183460469231731687303715884105728/\b= -1)):AS (fl a b):=by
 cases h:(decide (a<0)!=decide (b<0))
 ·rw[(K4 hb h).1];exact MQ ha hb h hx
 rw[(G9 hb h).1]
 split
 ·exact GJ ha hb h (by assumption)
 exact M_ ha hb
theorem Ql(a b:Int):ev a b=if 2*rm a b>(b.natAbs:Int)∨2*rm a b=(b.natAbs:Int)/\fl a b%2=1 then fl a b+1 else fl a b:=by
 unfold ev rm fl Al
 by_cases hn:b<0
 ·simp only[if_pos hn,show(b.natAbs:Int)= -b from by omega]
 simp only[if_neg hn,show(b.natAbs:Int)=b from by omega]
theorem Qs{a b:Int}(_hb:b≠0):0<=rm a b/\rm a b<b.natAbs:=by
 unfold rm
 split
 ·exact⟨Int.emod_nonneg _ (by omega),by have:=Int.emod_lt_of_pos (-a) (show 0< -b by omega);omega⟩
 exact⟨Int.emod_nonneg _ (by omega),by have:=Int.emod_lt_of_pos a (show 0<b by omega);omega⟩
theorem MV{a:Int}(_ha:AS a):(AW a== -9223372036854775808&&AY a==0)=decide (a= -170141183460469231731687303715884105728):=by
 rw[Bool.eq_iff_iff];simp only[Bool.and_eq_true,beq_iff_eq,decide_eq_true_eq];unfold AS at _ha;unfold AW AY;omega
end Go.Proofs.YtikajapjkdloaaaGreatDoor
