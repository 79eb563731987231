/- Plain words: the whole root of a number from 0 on. No Go in sight. -/
import Derived.Laws.BitsAllLaws
import Derived.Deep.LoopGhost
import Derived.Test.YtikajapjkdloaaaGreatDoor916
import Derived.Test.YtikajapjkdloaaaGreatDoor926
namespace Go.Proofs.YtikajapjkdloaaaGreatDoor
set_option linter.unusedVariables false
set_option linter.unusedSimpArgs false
section
def I7:Nat->Nat
 |0=>0
 |n+1=>if(I7 n+1)*(I7 n+1)<=n+1 then I7 n+1 else I7 n
theorem Mx(n:Nat):I7 n*I7 n<=n/\n<(I7 n+1)*(I7 n+1):=by
 induction n with
 |zero=>decide
 |succ n ih=>
  rw[I7]
  split
  ·rename_i h
   refine⟨h,?_⟩
   have e:(I7 n+1+1)*(I7 n+1+1)=(I7 n+1)*(I7 n+1)+2*(I7 n+1)+1:=by simp only[Nat.mul_add,Nat.add_mul,Nat.one_mul,Nat.mul_one];omega
   omega
  omega
def rt(a:Int):Int:=I7 a.toNat
theorem Kd(a:Int):0<=rt a:=Int.natCast_nonneg _
theorem T9{a:Int}(h:0<=a):rt a*rt a<=a:=by
 have:=(Mx a.toNat).1
 unfold rt
 have e:((I7 a.toNat*I7 a.toNat:Nat):Int)=(I7 a.toNat:Int)*I7 a.toNat:=Int.natCast_mul _ _
 omega
theorem Vd{a:Int}(h:0<=a):a<(rt a+1)*(rt a+1):=by
 have:=(Mx a.toNat).2
 unfold rt
 have e:(((I7 a.toNat+1)*(I7 a.toNat+1):Nat):Int)=((I7 a.toNat:Int)+1)*(I7 a.toNat+1):=by rw[Int.natCast_mul];rfl
 omega
theorem Vr{x y:Int}(h0:0<=x)(h:x<y):x*x<y*y:=by
 have h1:x*x<=x*y:=Int.mul_le_mul_of_nonneg_left en h0
 have h2:x*y<y*y:=Int.mul_lt_mul_of_pos_right h en
 omega
theorem Vq{x y:Int}(h0:0<=x)(h:x<=y):x*x<=y*y:=Int.mul_le_mul h h h0 en
theorem I6{x y:Int}(hy:0<=y)(h:x*x<y*y):x<y:=by
 rcases Int.lt_or_le x y with k|k
 ·exact k
 have:=Vq hy k;omega
theorem Ti{a r:Int}(h0:0<=r)(h1:r*r<=a)(h2:a<(r+1)*(r+1)):rt a=r:=by
 have ha:0<=a:=by have:=Int.mul_nonneg h0 h0;omega
 have k1:=T9 ha
 have k2:=Vd ha
 have k0:=Kd a
 have q1:rt a<r+1:=I6 en en
 have q2:r<rt a+1:=I6 en en
 omega
theorem Vb{a:Int}{m:Int}(h0:0<=a)(hm:0<=m)(h:a<m*m):rt a<m:=I6 hm (by have:=T9 h0;omega)
theorem Um{a o:Int}{i:Nat}(h1:o*o<=a)(h2:a<(o+2^(i+1))*(o+2^(i+1))):(a<(o+2^i)*(o+2^i)->o*o<=a/\a<(o+2^i)*(o+2^i))/\((o+2^i)*(o+2^i)<=a->(o+2^i)*(o+2^i)<=a/\a<(o+2^i+2^i)*(o+2^i+2^i)):=by
 refine⟨λh=>⟨h1,h⟩,λh=>⟨h,?_⟩⟩
 rw[show o+2^i+2^i=o+2^(i+1) by rw[Int.pow_succ];omega]
 exact h2
end
section
open Go.RowKit
attribute [local go_sem] CE CA CF CG B_ CB CD CC Be Bc Ba
theorem PJ{k l:IntKind}{x y a b:Int}(h:x=a)(h2:y=b):Ending.returned (.tuple #[.int k x,.int l y])=.returned (.tuple #[.int k a,.int l b]):=by rw[h,h2]
theorem MF{i:Nat}(h:i<=63):(2:Int)^i<18446744073709551616:=by
 have:(2:Nat)^i<2^64:=Nat.pow_lt_pow_right en en
 have e:((2^i:Nat):Int)=(2:Int)^i:=Int.natCast_pow 2 i
 omega
theorem US(m i:Nat)(hi:i<=63)(h:(2:Int)^(i+1)*m+2^(i+1)<=18446744073709551616):bits .or .u64 ((2:Int)^(i+1)*m) (IntKind.u64.wrap (2^i))=2^(i+1)*m+2^i:=by
 have e1:(2:Int)^(i+1)*m=((2^(i+1)*m:Nat):Int):=by rw[Int.natCast_mul,Int.natCast_pow];rfl
 have e2:(2:Int)^i=((2^i:Nat):Int):=(Int.natCast_pow 2 i).symm
 have e3:(2:Int)^(i+1)=((2^(i+1):Nat):Int):=(Int.natCast_pow 2 (i+1)).symm
 have hlt:(2:Nat)^i<2^(i+1):=Nat.pow_lt_pow_right en en
 have hp:0<(2:Nat)^(i+1):=Nat.pow_pos en
 have hw:IntKind.u64.wrap (2^i)=((2^i:Nat):Int):=by rw[IntKind.wrap_u64,e2];have:=MF hi;omega
 rw[hw,e1,u64_or_nat _ _ en (by have:=MF hi;omega),<-Nat.two_pow_add_eq_or_of_lt hlt,e2,Int.natCast_add]
theorem WM(x:Int)(hx:0<=x)(hx2:x<18446744073709551616)(w:World):
 Calls Tryz.prog 194 #[.int .u64 x,.int .u64 x] w λe w'=>e=.returned (.tuple #[.int .u64 (x*x/18446744073709551616),.int .u64 (x*x%18446744073709551616)])/\w=w':=by
 obtain⟨x,rfl⟩:=Int.eq_ofNat_of_zero_le hx
 refine(JT x x en en w).mono ?_
 rintro e w' ⟨rfl,rfl⟩
 exact⟨by congr 1,rfl⟩
set_option maxRecDepth 100000 in
set_option maxHeartbeats 4000000 in
theorem Tj(a:Int)(ha:AS a)(h0:0<=a)(w:World):
 Calls Tryz.prog 174 #[.agg #[.int .i64 (AW a),.int .u64 (AY a)]] w λe w'=>e=.returned (.tuple #[.int .u64 (rt a),.int .i64 0])/\Below w.heap.size w w':=by
 have HA:=Asd.mk ha
 have H0:=Asd.mk h0
 have q:0<=AW a:=by have:=F9 a;omega
 have QA:=Asd.mk (show 0*0<=a/\a<(0+2^64)*(0+2^64) by unfold AS at ha;omega)
 clear ha h0
 go_enter Tryz.func174,Tryz.ntmps174
 go_wp2
 go_step3
 go_wp2
 go_step3
 go_wp2
 go_outline
 go_loop [4,5] (λv4 v5=> ∃(k:Nat)(o:Int),k<=64/\v5=.int .i64 (k-1)/\v4=.int .u64 o/\0<=o/\Asd (∃m:Nat,o=2^k*m/\o*o<=a/\a<(o+2^k)*(o+2^k)/\o+2^k<=18446744073709551616)) (λ_ v5=>(intOf v5+1).toNat)
 case atStart=>exact⟨64,0,by omega,rfl,rfl,by omega,⟨0,by omega,QA.out.1,QA.out.2,by omega⟩⟩
 case round=>
  obtain⟨k,o,hk,rfl,rfl,ho,HV⟩:=hrel
  by_cases hgo:0<k
  ·obtain⟨i,rfl⟩: ∃m,k=m+1:=⟨k-1,by omega⟩
   rw[show(((i+1:Nat):Int)-1)=(i:Int)from by omega]
   have hi:i<=63:=by omega
   obtain⟨m,e,k1,k2,k3⟩:=HV.out
   have hp:(0:Int)<2^i:=Int.pow_pos en
   have hs:(2:Int)^(i+1)=2^i+2^i:=by rw[Int.pow_succ];omega
   have hb:=Um k1 k2
   obtain⟨X,hX⟩: ∃X,X=o+2^i:=⟨_,rfl⟩
   have EO:bits BinOp.or IntKind.u64 o (IntKind.u64.wrap (2^i))=X:=by rw[hX,e];exact US m i hi (by rw[<-e];exact k3)
   have hX0:0<=X:=by omega
   have hX1:X<18446744073709551616:=by omega
   have hsq:0<=X*X:=Int.mul_nonneg hX0 hX0
   obtain⟨H,hH⟩: ∃H,H=X*X/18446744073709551616:=⟨_,rfl⟩
   obtain⟨L,hL⟩: ∃L,L=X*X%18446744073709551616:=⟨_,rfl⟩
   have MC:=Asd.mk (λW=>WM X hX0 hX1 W)
   rw[<-hH,<-hL]at MC
   have bH:0<=H/\H<18446744073709551616:=by
    have:X*X<18446744073709551616*18446744073709551616:=Vr hX0 hX1
    omega
   have bL:0<=L/\L<18446744073709551616:=by omega
   have hwa:AW a*18446744073709551616+AY a=a:=by unfold AW AY;omega
   have hwl:=Df a
   have hq:AW a<=9223372036854775807:=(TQ HA.out).2
   have UP:Asd (a<X*X-> ∃m:Nat,o=2^i*m/\o*o<=a/\a<(o+2^i)*(o+2^i)/\o+2^i<=18446744073709551616):=⟨λh=>by
    rw[hX]at h
    have:=hb.1 h
    exact⟨2*m,by rw[e,hs];push_cast;rw[Int.add_mul,<-Int.mul_assoc,Int.mul_comm (2^i) 2,Int.mul_assoc];omega,this.1,this.2,by omega⟩⟩
   have DN:Asd (X*X<=a-> ∃m:Nat,X=2^i*m/\X*X<=a/\a<(X+2^i)*(X+2^i)/\X+2^i<=18446744073709551616):=⟨λh=>by
    rw[hX]at h⊢
    have:=hb.2 h
    exact⟨2*m+1,by rw[e,hs];push_cast;rw[Int.mul_add,Int.add_mul,<-Int.mul_assoc,Int.mul_comm (2^i) 2,Int.mul_assoc];omega,this.1,this.2,by omega⟩⟩
   have HW:=Asd.mk hwa
   have HH:=Asd.mk (show X*X=H*18446744073709551616+L by omega)
   have EX:=Asd.mk hX
   have HB:=Asd.mk bH
   have HBL:=Asd.mk bL
   clear hb hsq hH hL hwa hX e k1 k2 k3 hs
   obtain⟨b1,b2⟩:=bH
   obtain⟨b3,b4⟩:=bL
   obtain⟨b5,b6⟩:=hwl
   rcases Int.lt_trichotomy (AW a) H with c|c|c
   ·go_wp2_with (go_at_call 194;refine(MC.out _).mono ?_;rintro e w' ⟨rfl,rfl⟩)
    go_round
    case rel=>exact⟨i,o,by omega,rfl,rfl,ho,⟨UP.out (by have:=HH.out;have:=HW.out;omega)⟩⟩
    case measure=>simp[intOf]
   ·subst c
    by_cases c:AY a<L
    ·go_wp2_with (go_at_call 194;refine(MC.out _).mono ?_;rintro e w' ⟨rfl,rfl⟩)
     go_round
     case rel=>exact⟨i,o,by omega,rfl,rfl,ho,⟨UP.out (by have:=HH.out;have:=HW.out;omega)⟩⟩
     case measure=>simp[intOf]
    go_wp2_with (go_at_call 194;refine(MC.out _).mono ?_;rintro e w' ⟨rfl,rfl⟩)
    go_round
    case rel=>exact⟨i,X,by omega,rfl,rfl,hX0,⟨DN.out (by have:=HH.out;have:=HW.out;omega)⟩⟩
    case measure=>simp[intOf]
   have c2:(H==AW a)=false:=beq_eq_false_iff_ne.2 en
   have c3:=Asd.mk c
   go_wp2_with (go_at_call 194;refine(MC.out _).mono ?_;rintro e w' ⟨rfl,rfl⟩)
   go_round
   case rel=>exact⟨i,X,by omega,rfl,rfl,hX0,⟨DN.out (by have:=HH.out;have:=HW.out;have:=c3.out;omega)⟩⟩
   case measure=>simp[intOf]
  obtain rfl:k=0:=by omega
  rw[show(((0:Nat):Int)-1)= -1 from by omega]
  have HF:=Asd.mk (show o=rt a by
   obtain⟨m,_,k1,k2,_⟩:=HV.out
   exact(Ti ho k1 (by simpa using k2)).symm)
  go_wp2
  go_ret2
  exact⟨PJ HF.out rfl,LC⟩
end
section
open Go.RowKit
attribute [local go_sem] CE CA CF CG B_ CB CD CC Be Bc Ba
attribute [local go_sem] Gq
end
section
open Go.RowKit
attribute [local go_sem] CE CA CF CG B_ CB CD CC Be Bc Ba
attribute [local go_sem] Gq
def mn(x y:Int):Int:=if x<0∨y<0 then 0 else rt (x*y)
theorem T4{x y:Int}(hx:Ai x)(hy:Ai y)(h: ¬(x<0∨y<0)):0<=x*y/\x*y<85070591730234615865843651857942052864:=by
 have h1:0<=x*y:=Int.mul_nonneg en en
 have:=Fa (a:=x) (b:=y) 9223372036854775807 en en (by unfold Ai at hx;omega) (by unfold Ai at hy;omega)
 omega
theorem Rq{x y:Int}(hx:Ai x)(hy:Ai y):0<=mn x y/\mn x y<=9223372036854775807:=by
 unfold mn
 split
 ·omega
 rename_i h
 have hp:=T4 hx hy h
 have:=Vb (m:=9223372036854775808) hp.1 en en
 have:=Kd (x*y)
 omega
set_option maxRecDepth 100000 in
set_option maxHeartbeats 4000000 in
theorem IC(x y:Int)(hx:Ai x)(hy:Ai y)(w:World)(hg:GN w):
 Calls Tryz.prog 126 #[.int .i64 x,.int .i64 y] w λe w'=>e=.returned (.int .i64 (mn x y))/\Below w.heap.size w w':=by
 by_cases h:x<0∨y<0
 ·have e:mn x y=0:=by unfold mn;rw[if_pos h]
  rw[e]
  rcases Decidable.em (x<0)with h1|h1
  ·go_enter Tryz.func126,Tryz.ntmps126
   go_wp2
   go_ret
   exact⟨rfl,LC⟩
  have h2:y<0:=h.resolve_left h1
  go_enter Tryz.func126,Tryz.ntmps126
  go_wp2
  go_ret
  exact⟨rfl,LC⟩
 have e:mn x y=rt (x*y):=by unfold mn;rw[if_neg h]
 have hp:=T4 hx hy h
 have hm:=Rq hx hy
 rw[e]at hm⊢
 have hW:AS (x*y):=F5 hx hy
 have HP:=Asd.mk hp
 have HW:=Asd.mk hW
 have HE:=Asd.mk (show wrap64 (rt (x*y))=rt (x*y) by unfold wrap64;omega)
 have HG:=Asd.mk hg
 have h1:0<=x:=by omega
 have h2:0<=y:=by omega
 have S0:=Asd.mk (St.refl w)
 clear e h hp hm hW hg
 go_enter Tryz.func126,Tryz.ntmps126
 go_wp2_with (first
  |(go_at_call 174;replace S1:=S1;refine(Tj (x*y) HW.out HP.out.1 _).mono ?_;rintro e w2 ⟨rfl,hb2⟩;apply St.step (w0:=w) (hb:=hb2);(focus(with_reducible repeat (first|exact S1.out|apply St.lay|apply St.drew|apply St.drewN)));intro S2;(try simp only[Gs,Ik,Hb]at S2);clear hb2 S1;(try clear C1);have C2:=S2.out.facts;simp only[facts,apart,Az,Nat.zero_add,Nat.reduceAdd,and_true]at C2)
  |(go_at_call 148;replace S0:=S0;refine(Ah x y hx hy _ (by exact HG.out.below (by with_reducible repeat (first|exact S0.out.bl|refine AM ?_ _|refine AJ ?_ _|refine AP ?_)))).mono ?_;rintro e w1 ⟨rfl,hb1⟩;apply St.step (w0:=w) (hb:=hb1);(focus(with_reducible repeat (first|exact S0.out|apply St.lay|apply St.drew|apply St.drewN)));intro S1;(try simp only[Gs,Ik,Hb]at S1);clear hb1 S0;(try clear C0);have C1:=S1.out.facts;simp only[facts,apart,Az,Nat.zero_add,Nat.reduceAdd,and_true]at C1))
 have HBf:=S2.out.bl
 go_ret
 exact⟨Gv HE.out,LC⟩
end
section
theorem KY{f c:Nat->Int}(h:E5 f c=true):(0<=f 0/\f 0<=c 0/\c 0<=288230376151711744)/\(0<=f 1/\f 1<=c 1/\c 1<=288230376151711744)/\(0<=f 2/\f 2<=c 2/\c 2<=288230376151711744):=by
 unfold E5 LT at h;simp only[Bool.and_eq_true,decide_eq_true_eq]at h;exact h
def NL(x f c:Int):Int:=min (max x f) c
def tm(p f c:Nat->Int):Nat->Int
 |0=>NL (p 0) (f 0) (c 0)
 |1=>Ac (p 1) (mn (NL (p 0) (f 0) (c 0)-f 0) (NL (p 3) (f 1) (c 1)-f 1))
 |2=>Ac (p 2) (mn (NL (p 0) (f 0) (c 0)-f 0) (NL (p 5) (f 2) (c 2)-f 2))
 |3=>NL (p 3) (f 1) (c 1)
 |4=>Ac (p 4) (mn (NL (p 3) (f 1) (c 1)-f 1) (NL (p 5) (f 2) (c 2)-f 2))
 |_=>NL (p 5) (f 2) (c 2)
def CK(p f c:Nat->Int)(i:Nat):Int:=if E5 f c then tm p f c i else 0
def RE(f c:Nat->Int):Int:=if E5 f c then 0 else 1
theorem VM{p f c:Nat->Int}(h:E5 f c=true):RE f c=0/\ ∀i,CK p f c i=tm p f c i:=⟨by simp[RE,h],λi=>by simp[CK,h]⟩
theorem Ve{p f c:Nat->Int}(h:E5 f c=false):RE f c=1/\ ∀i,CK p f c i=0:=⟨by simp[RE,h],λi=>by simp[CK,h]⟩
theorem Lu(x y:Int):mn x y=mn y x:=by
 unfold mn;rw[Int.mul_comm]
 by_cases h:x<0∨y<0
 ·rw[if_pos h,if_pos h.symm]
 rw[if_neg h,if_neg (λq=>h q.symm)]
theorem IE{x y:Int}(hx:Ai x)(hy:Ai y):Ai (mn x y):=by have:=Rq hx hy;unfold Ai;omega
theorem FE{x m:Int}(hx:Ai x)(hm:Ai m):Ai (Ac x m):=by unfold Ai Ac at*;(repeat' split)<;>omega
theorem Nc{x f c:Int}(h:f<=c):f<=NL x f c/\NL x f c<=c:=by unfold NL;omega
theorem Un{p f c:Nat->Int}(hp: ∀i,Ai (p i))(h:E5 f c=true): ∀i,Ai (tm p f c i):=by
 obtain⟨⟨a1,a2,a3⟩,⟨b1,b2,b3⟩,c1,c2,c3⟩:=KY h
 have d0:=Nc (x:=p 0) a2
 have d1:=Nc (x:=p 3) b2
 have d2:=Nc (x:=p 5) c2
 intro i
 match i with
 |0=>show Ai (NL _ _ _);unfold Ai;omega
 |1=>exact FE (hp 1) (IE eu eu)
 |2=>exact FE (hp 2) (IE eu eu)
 |3=>show Ai (NL _ _ _);unfold Ai;omega
 |4=>exact FE (hp 4) (IE eu eu)
 |_+5=>show Ai (NL _ _ _);unfold Ai;omega
theorem Oc{p f c:Nat->Int}(hp: ∀i,Ai (p i)): ∀i,Ai (CK p f c i):=by
 intro i
 unfold CK
 split
 ·rename_i h;exact Un hp h i
 decide
end
section
set_option maxRecDepth 1000000
set_option maxHeartbeats 8000000
open Go.RowKit
abbrev Fe(p:Nat->Int):List Value:=[.int .i64 (p 0),.int .i64 (p 1),.int .i64 (p 2),.int .i64 (p 3),.int .i64 (p 4),.int .i64 (p 5)]
abbrev GB:List Value:=[.int .i64 0,.int .i64 0,.int .i64 0,.int .i64 0,.int .i64 0,.int .i64 0]
abbrev Fw(r1:Nat)(p:Nat->Int)(r2:Nat)(f:Nat->Int)(r3:Nat)(c:Nat->Int)(r4:Nat)(r7:Nat)(u9:Int)(u11:Int)(u13:Int)(r14:Nat):AD:=[(r1,(Fe p)),(r2,[.int .i64 (f 0),.int .i64 (f 1),.int .i64 (f 2)]),(r3,[.int .i64 (c 0),.int .i64 (c 1),.int .i64 (c 2)]),(r4,GB),(r7,[.int .i64 u9,.int .i64 u11,.int .i64 u13]),(r14,[.int .i64 u9,.int .i64 (Ac (p 1) (mn (u11-(f 1)) (u9-(f 0)))),.int .i64 (Ac (p 2) (mn (u13-(f 2)) (u9-(f 0)))),.int .i64 u11,.int .i64 0,.int .i64 u13])]
abbrev Fk(r1:Nat)(p:Nat->Int)(r2:Nat)(f:Nat->Int)(r3:Nat)(c:Nat->Int)(r4:Nat)(r7:Nat)(u9:Int)(u11:Int)(u13:Int)(r14:Nat):AD:=[(r1,(Fe p)),(r2,[.int .i64 (f 0),.int .i64 (f 1),.int .i64 (f 2)]),(r3,[.int .i64 (c 0),.int .i64 (c 1),.int .i64 (c 2)]),(r4,GB),(r7,[.int .i64 u9,.int .i64 u11,.int .i64 u13]),(r14,[.int .i64 u9,.int .i64 (Ac (p 1) (mn (u11-(f 1)) (u9-(f 0)))),.int .i64 0,.int .i64 u11,.int .i64 0,.int .i64 u13])]
abbrev PL(r1:Nat)(p:Nat->Int)(r2:Nat)(f:Nat->Int)(r3:Nat)(c:Nat->Int)(r4:Nat)(r7:Nat)(u9:Int)(u11:Int)(u13:Int)(r14:Nat):AD:=[(r1,(Fe p)),(r2,[.int .i64 (f 0),.int .i64 (f 1),.int .i64 (f 2)]),(r3,[.int .i64 (c 0),.int .i64 (c 1),.int .i64 (c 2)]),(r4,GB),(r7,[.int .i64 u9,.int .i64 u11,.int .i64 u13]),(r14,[.int .i64 u9,.int .i64 0,.int .i64 0,.int .i64 u11,.int .i64 0,.int .i64 u13])]
abbrev RC(p:Nat->Int):Array Value:=#[.int .i64 (p 0),.int .i64 (p 1),.int .i64 (p 2),.int .i64 (p 3),.int .i64 (p 4),.int .i64 (p 5)]
abbrev Sl(u9:Int)(p:Nat->Int)(u11:Int)(f:Nat->Int)(u13:Int):Value:=(.tuple #[.agg #[.int .i64 u9,.int .i64 (Ac (p 1) (mn (u11-(f 1)) (u9-(f 0)))),.int .i64 (Ac (p 2) (mn (u13-(f 2)) (u9-(f 0)))),.int .i64 u11,.int .i64 (Ac (p 4) (mn (u13-(f 2)) (u11-(f 1)))),.int .i64 u13],.int .i64 0])
abbrev Gw(p:Nat->Int)(u11:Int)(f:Nat->Int)(u9:Int):Value:=.int .i64 (Ac (p 1) (mn (u11-(f 1)) (u9-(f 0))))
abbrev Sh(f:Nat->Int):List Value:=[.int .i64 (f 0),.int .i64 (f 1),.int .i64 (f 2)]
abbrev Ul(c:Nat->Int):List Value:=[.int .i64 (c 0),.int .i64 (c 1),.int .i64 (c 2)]
abbrev Ox(u9:Int)(p:Nat->Int)(u11:Int)(f:Nat->Int)(u13:Int):Array Value:=#[.int .i64 u9,(Gw p u11 f u9),.int .i64 (Ac (p 2) (mn (u13-(f 2)) (u9-(f 0)))),.int .i64 u11,.int .i64 0,.int .i64 u13]
theorem JQ(p f c:Nat->Int)(w:World)(R:Ending->World->Prop)(hG:St w w [] [])(hE:Ex w [])
 (h: ∀r1:Nat,∀r2:Nat,∀r3:Nat,∀r4:Nat,r2=r2/\r3=r3/\CallV Tryz.prog w [(r1,(Fe p)),(r2,(Sh f)),(r3,(Ul c)),(r4,GB)] [] 77 #[.agg #[.int .i64 (f 0),.int .i64 (f 1),.int .i64 (f 2)],.agg #[.int .i64 (c 0),.int .i64 (c 1),.int .i64 (c 2)]] (.bool (E5 f c))/\(((!(E5 f c))=true->(r4=r4/\(r4=r4/\(r4=r4/\(r4=r4/\(r4=r4/\(r4=r4/\(True)))))))/\(r4=r4/\(True))/\(Bh R w [(r1,(Fe p)),(r2,(Sh f)),(r3,(Ul c)),(r4,GB)] [] (.tuple #[.agg #[.int .i64 0,.int .i64 0,.int .i64 0,.int .i64 0,.int .i64 0,.int .i64 0],.int .i64 1])))/\((!(E5 f c))=false->r1=r1/\CallV Tryz.prog w [(r1,(Fe p)),(r2,(Sh f)),(r3,(Ul c)),(r4,GB)] [] 123 #[.agg (RC p)] (.agg #[.int .i64 (p 0),.int .i64 (p 3),.int .i64 (p 5)])/\(∀r7:Nat,(r7=r7/\(r7=r7/\(r7=r7/\(True))))/\r7=r7/\r2=r2/\(∀u8:Int,u8=(if(f 0)>(p 0)then(f 0)else(p 0))->(r3=r3/\(∀u9:Int,u9=(if(c 0)<u8 then(c 0)else u8)->((r7=r7/\(True))/\r7=r7/\r2=r2/\(∀u10:Int,u10=(if(f 1)>(p 3)then(f 1)else(p 3))->(r3=r3/\(∀u11:Int,u11=(if(c 1)<u10 then(c 1)else u10)->((r7=r7/\(True))/\r7=r7/\r2=r2/\(∀u12:Int,u12=(if(f 2)>(p 5)then(f 2)else(p 5))->(r3=r3/\(∀u13:Int,u13=(if(c 2)<u12 then(c 2)else u12)->((r7=r7/\(True))/\r7=r7/\CallV Tryz.prog w [(r1,(Fe p)),(r2,(Sh f)),(r3,(Ul c)),(r4,GB),(r7,[.int .i64 u9,.int .i64 u11,.int .i64 u13])] [] 95 #[.agg #[.int .i64 u9,.int .i64 u11,.int .i64 u13]] (.agg #[.int .i64 u9,.int .i64 0,.int .i64 0,.int .i64 u11,.int .i64 0,.int .i64 u13])/\(∀r14:Nat,(r14=r14/\(r14=r14/\(r14=r14/\(r14=r14/\(r14=r14/\(r14=r14/\(True)))))))/\r1=r1/\CallV Tryz.prog w (PL r1 p r2 f r3 c r4 r7 u9 u11 u13 r14) [] 124 #[.agg (RC p),.int .i64 1,.int .i64 0] (.tuple #[.int .i64 (p 1),.int .i64 0])/\r14=r14/\r7=r7/\r2=r2/\Value.int .i64 (IntKind.i64.wrap (u11-(f 1)))=.int .i64 (u11-(f 1))/\r7=r7/\r2=r2/\Value.int .i64 (IntKind.i64.wrap (u9-(f 0)))=.int .i64 (u9-(f 0))/\CallV Tryz.prog w (PL r1 p r2 f r3 c r4 r7 u9 u11 u13 r14) [] 126 #[.int .i64 (u11-(f 1)),.int .i64 (u9-(f 0))] (.int .i64 (mn (u11-(f 1)) (u9-(f 0))))/\CallV Tryz.prog w (PL r1 p r2 f r3 c r4 r7 u9 u11 u13 r14) [] 58 #[.int .i64 (p 1),.int .i64 (mn (u11-(f 1)) (u9-(f 0)))] ((Gw p u11 f u9))/\CallV Tryz.prog w (PL r1 p r2 f r3 c r4 r7 u9 u11 u13 r14) [] 125 #[.agg #[.int .i64 u9,.int .i64 0,.int .i64 0,.int .i64 u11,.int .i64 0,.int .i64 u13],.int .i64 1,.int .i64 0,(Gw p u11 f u9)] (.tuple #[.agg #[.int .i64 u9,(Gw p u11 f u9),.int .i64 0,.int .i64 u11,.int .i64 0,.int .i64 u13],.int .i64 0])/\(r14=r14/\(r14=r14/\(r14=r14/\(r14=r14/\(r14=r14/\(r14=r14/\(True)))))))/\r1=r1/\CallV Tryz.prog w (Fk r1 p r2 f r3 c r4 r7 u9 u11 u13 r14) [] 124 #[.agg (RC p),.int .i64 2,.int .i64 0] (.tuple #[.int .i64 (p 2),.int .i64 0])/\r14=r14/\r7=r7/\r2=r2/\Value.int .i64 (IntKind.i64.wrap (u13-(f 2)))=.int .i64 (u13-(f 2))/\r7=r7/\r2=r2/\Value.int .i64 (IntKind.i64.wrap (u9-(f 0)))=.int .i64 (u9-(f 0))/\CallV Tryz.prog w (Fk r1 p r2 f r3 c r4 r7 u9 u11 u13 r14) [] 126 #[.int .i64 (u13-(f 2)),.int .i64 (u9-(f 0))] (.int .i64 (mn (u13-(f 2)) (u9-(f 0))))/\CallV Tryz.prog w (Fk r1 p r2 f r3 c r4 r7 u9 u11 u13 r14) [] 58 #[.int .i64 (p 2),.int .i64 (mn (u13-(f 2)) (u9-(f 0)))] (.int .i64 (Ac (p 2) (mn (u13-(f 2)) (u9-(f 0)))))/\CallV Tryz.prog w (Fk r1 p r2 f r3 c r4 r7 u9 u11 u13 r14) [] 125 #[.agg #[.int .i64 u9,(Gw p u11 f u9),.int .i64 0,.int .i64 u11,.int .i64 0,.int .i64 u13],.int .i64 2,.int .i64 0,.int .i64 (Ac (p 2) (mn (u13-(f 2)) (u9-(f 0))))] (.tuple #[.agg (Ox u9 p u11 f u13),.int .i64 0])/\(r14=r14/\(r14=r14/\(r14=r14/\(r14=r14/\(r14=r14/\(r14=r14/\(True)))))))/\r1=r1/\CallV Tryz.prog w (Fw r1 p r2 f r3 c r4 r7 u9 u11 u13 r14) [] 124 #[.agg (RC p),.int .i64 2,.int .i64 1] (.tuple #[.int .i64 (p 4),.int .i64 0])/\r14=r14/\r7=r7/\r2=r2/\Value.int .i64 (IntKind.i64.wrap (u13-(f 2)))=.int .i64 (u13-(f 2))/\r7=r7/\r2=r2/\Value.int .i64 (IntKind.i64.wrap (u11-(f 1)))=.int .i64 (u11-(f 1))/\CallV Tryz.prog w (Fw r1 p r2 f r3 c r4 r7 u9 u11 u13 r14) [] 126 #[.int .i64 (u13-(f 2)),.int .i64 (u11-(f 1))] (.int .i64 (mn (u13-(f 2)) (u11-(f 1))))/\CallV Tryz.prog w (Fw r1 p r2 f r3 c r4 r7 u9 u11 u13 r14) [] 58 #[.int .i64 (p 4),.int .i64 (mn (u13-(f 2)) (u11-(f 1)))] (.int .i64 (Ac (p 4) (mn (u13-(f 2)) (u11-(f 1)))))/\CallV Tryz.prog w (Fw r1 p r2 f r3 c r4 r7 u9 u11 u13 r14) [] 125 #[.agg (Ox u9 p u11 f u13),.int .i64 2,.int .i64 1,.int .i64 (Ac (p 4) (mn (u13-(f 2)) (u11-(f 1))))] (Sl u9 p u11 f u13)/\(r14=r14/\(r14=r14/\(r14=r14/\(r14=r14/\(r14=r14/\(r14=r14/\(True)))))))/\r14=r14/\(r4=r4/\(r4=r4/\(r4=r4/\(r4=r4/\(r4=r4/\(r4=r4/\(True)))))))/\(r4=r4/\(True))/\(Bh R w [(r1,(Fe p)),(r2,(Sh f)),(r3,(Ul c)),(r4,[.int .i64 u9,(Gw p u11 f u9),.int .i64 (Ac (p 2) (mn (u13-(f 2)) (u9-(f 0)))),.int .i64 u11,.int .i64 (Ac (p 4) (mn (u13-(f 2)) (u11-(f 1)))),.int .i64 u13]),(r7,[.int .i64 u9,.int .i64 u11,.int .i64 u13]),(r14,[.int .i64 u9,(Gw p u11 f u9),.int .i64 (Ac (p 2) (mn (u13-(f 2)) (u9-(f 0)))),.int .i64 u11,.int .i64 (Ac (p 4) (mn (u13-(f 2)) (u11-(f 1)))),.int .i64 u13])] [] (Sl u9 p u11 f u13))))))))))))))))))):Calls Tryz.prog 55 #[.agg (RC p),.agg #[.int .i64 (f 0),.int .i64 (f 1),.int .i64 (f 2)],.agg #[.int .i64 (c 0),.int .i64 (c 1),.int .i64 (c 2)]] w R:=
 B2 (f:=55) (es:=[]) (c:=Tryz.f55.body.getD .skip) (tmps:=#[.agg (RC p),.agg #[.int .i64 (f 0),.int .i64 (f 1),.int .i64 (f 2)],.agg #[.int .i64 (c 0),.int .i64 (c 1),.int .i64 (c 2)],undef,undef,undef,undef,undef,undef,undef,undef,undef,undef,undef,undef,undef,undef,undef,undef,undef,undef,undef,undef,undef,undef,undef,undef,undef,undef,undef,undef,undef,undef,undef,undef,undef,undef,undef,undef,undef,undef,undef,undef,undef,undef,undef,undef,undef,undef,undef,undef,undef,undef,undef,undef,undef,undef,undef,undef,undef,undef,undef,undef,undef,undef,undef,undef,undef,undef,undef,undef,undef,undef,undef,undef,undef,undef,undef,undef,undef,undef,undef,undef,undef])
  (.s [.c,.c] (.new (λr1=>.new (λr2=>.new (λr3=>.new (λr4=>.s [.v,.c,.c,.c,.c,.c,.own 1,.own 2,.call (.bool (E5 f c)),.v,.c] (.split 18 (.s [.c,.c,.c,.v,.put 3,.v,.c] (.ret [3])) (.s [.c,.c,.c,.c,.own 0,.call (.agg #[.int .i64 (p 0),.int .i64 (p 3),.int .i64 (p 5)])] (.new (λr7=>.s [.put 4,.c,.c,.c,.c,.v,.c,.c,.c,.c,.c,.v,.c,.c,.c,.c,.c,.c,.c,.c,.v,.v,.c,.d [],.at 0 false,.v,.at 1 false,.v,.at 2 false,.v,.at 3 false,.own 4,.at 4 false,.v,.at 5 false,.v,.at 6 false,.own 1,.at 7 false,.v] (.gen 32 (λu8=>.s [.at 8 false,.v,.at 9 false,.v,.at 10 false,.own 2,.at 11 false,.v] (.gen 36 (λu9=>.s [.at 12 false,.v,.at 13 true,.put 4,.c,.c,.c,.v,.v,.c,.c,.c,.c,.v,.c,.c,.c,.c,.c,.c,.c,.c,.v,.v,.c,.d [],.at 0 false,.v,.at 1 false,.v,.at 2 false,.v,.at 3 false,.own 4,.at 4 false,.v,.at 5 false,.v,.at 6 false,.own 1,.at 7 false,.v] (.gen 32 (λu10=>.s [.at 8 false,.v,.at 9 false,.v,.at 10 false,.own 2,.at 11 false,.v] (.gen 36 (λu11=>.s [.at 12 false,.v,.at 13 true,.put 4,.c,.c,.c,.v,.v,.c,.c,.c,.c,.v,.c,.c,.c,.c,.c,.c,.c,.c,.v,.v,.c,.d [],.at 0 false,.v,.at 1 false,.v,.at 2 false,.v,.at 3 false,.own 4,.at 4 false,.v,.at 5 false,.v,.at 6 false,.own 1,.at 7 false,.v] (.gen 32 (λu12=>.s [.at 8 false,.v,.at 9 false,.v,.at 10 false,.own 2,.at 11 false,.v] (.gen 36 (λu13=>.s [.at 12 false,.v,.at 13 true,.put 4,.c,.c,.c,.v,.v,.c,.c,.c,.c,.v,.c,.c,.c,.c,.c,.c,.own 4,.call (.agg #[.int .i64 u9,.int .i64 0,.int .i64 0,.int .i64 u11,.int .i64 0,.int .i64 u13])] (.new (λr14=>.s [.put 5,.c,.c,.c,.c,.c,.c,.v,.c,.c,.c,.c,.c,.v,.c,.c,.c,.c,.c,.c,.c,.c,.v,.v,.c,.c,.c,.v,.c,.c,.c,.c,.c,.v,.c,.c,.c,.c,.c,.c,.c,.c,.v,.v,.c,.c,.c,.c,.v,.v,.v,.c,.c,.c,.c,.v,.v,.c,.c,.c,.c,.v,.c,.c,.c,.c,.c,.c,.c,.c,.v,.v,.c,.c,.c,.v,.c,.c,.c,.c,.c,.v,.c,.c,.c,.c,.c,.c,.c,.c,.v,.v,.c,.c,.c,.c,.v,.v,.v,.c,.c,.c,.c,.c,.own 0,.v,.v,.call (.tuple #[.int .i64 (p 1),.int .i64 0]),.v,.v,.v,.v,.v,.c,.d [],.at 0 false,.own 5,.at 1 false,.v,.at 2 false,.v,.at 3 false,.v,.at 4 false,.v,.at 5 false,.v,.at 6 false,.own 4,.at 7 false,.v,.at 8 false,.v,.at 9 false,.own 1,.at 10 false,.v,.setv 68 (.int .i64 (u11-(f 1))),.at 11 false,.v,.at 12 false,.v,.at 13 false,.own 4,.at 14 false,.v,.at 15 false,.v,.at 16 false,.own 1,.at 17 false,.v,.setv 75 (.int .i64 (u9-(f 0))),.at 18 true,.call (.int .i64 (mn (u11-(f 1)) (u9-(f 0)))),.at 19 true,.call ((Gw p u11 f u9)),.at 20 true,.call (.tuple #[.agg #[.int .i64 u9,(Gw p u11 f u9),.int .i64 0,.int .i64 u11,.int .i64 0,.int .i64 u13],.int .i64 0]),.at 21 false,.v,.at 22 false,.v,.at 23 false,.v,.at 24 true,.put 5,.c,.c,.c,.v,.v,.c,.c,.c,.c,.v,.c,.c,.c,.c,.c,.c,.c,.c,.v,.v,.c,.c,.c,.c,.v,.v,.v,.c,.c,.c,.c,.v,.v,.c,.c,.c,.c,.v,.c,.c,.c,.c,.c,.c,.c,.c,.v,.v,.c,.c,.c,.v,.c,.c,.c,.c,.c,.v,.c,.c,.c,.c,.c,.c,.c,.c,.v,.v,.c,.c,.c,.c,.v,.v,.v,.c,.c,.c,.c,.c,.own 0,.v,.v,.call (.tuple #[.int .i64 (p 2),.int .i64 0]),.v,.v,.v,.v,.v,.c,.d [],.at 0 false,.own 5,.at 1 false,.v,.at 2 false,.v,.at 3 false,.v,.at 4 false,.v,.at 5 false,.v,.at 6 false,.own 4,.at 7 false,.v,.at 8 false,.v,.at 9 false,.own 1,.at 10 false,.v,.setv 68 (.int .i64 (u13-(f 2))),.at 11 false,.v,.at 12 false,.v,.at 13 false,.own 4,.at 14 false,.v,.at 15 false,.v,.at 16 false,.own 1,.at 17 false,.v,.setv 75 (.int .i64 (u9-(f 0))),.at 18 true,.call (.int .i64 (mn (u13-(f 2)) (u9-(f 0)))),.at 19 true,.call (.int .i64 (Ac (p 2) (mn (u13-(f 2)) (u9-(f 0))))),.at 20 true,.call (.tuple #[.agg (Ox u9 p u11 f u13),.int .i64 0]),.at 21 false,.v,.at 22 false,.v,.at 23 false,.v,.at 24 true,.put 5,.c,.c,.c,.v,.v,.c,.c,.c,.c,.v,.c,.c,.c,.c,.c,.c,.c,.c,.v,.v,.c,.c,.c,.c,.v,.v,.v,.c,.c,.c,.c,.c,.own 0,.v,.v,.call (.tuple #[.int .i64 (p 4),.int .i64 0]),.v,.v,.v,.v,.v,.c,.d [],.at 0 false,.own 5,.at 1 false,.v,.at 2 false,.v,.at 3 false,.v,.at 4 false,.v,.at 5 false,.v,.at 6 false,.own 4,.at 7 false,.v,.at 8 false,.v,.at 9 false,.own 1,.at 10 false,.v,.setv 68 (.int .i64 (u13-(f 2))),.at 11 false,.v,.at 12 false,.v,.at 13 false,.own 4,.at 14 false,.v,.at 15 false,.v,.at 16 false,.own 1,.at 17 false,.v,.setv 75 (.int .i64 (u11-(f 1))),.at 18 true,.call (.int .i64 (mn (u13-(f 2)) (u11-(f 1)))),.at 19 true,.call (.int .i64 (Ac (p 4) (mn (u13-(f 2)) (u11-(f 1))))),.at 20 true,.call (Sl u9 p u11 f u13),.at 21 false,.v,.at 22 false,.v,.at 23 false,.v,.at 24 true,.put 5,.c,.c,.c,.v,.v,.c,.c,.c,.c,.v,.c,.c,.c,.c,.c,.c,.c,.c,.v,.v,.c,.c,.c,.c,.v,.v,.v,.c,.c,.c,.c,.v,.v,.c,.c,.c,.c,.v,.c,.c,.c,.c,.c,.c,.own 5,.put 3,.v,.c] (.ret [3])))))))))))))))))))))))))
  el hG hE Tryz.func55 el el (Eq.mpr el h)
theorem Kg(p f c:Nat->Int)(hp6: ∀i,Ai (p i))(hf: ∀i,Ai (f i))(hc: ∀i,Ai (c i))(w:World)(hg:GN w)(hp:GP w):Calls Tryz.prog 55 #[.agg #[.int .i64 (p 0),.int .i64 (p 1),.int .i64 (p 2),.int .i64 (p 3),.int .i64 (p 4),.int .i64 (p 5)],.agg #[.int .i64 (f 0),.int .i64 (f 1),.int .i64 (f 2)],.agg #[.int .i64 (c 0),.int .i64 (c 1),.int .i64 (c 2)]] w (λe w'=>e=.returned (.tuple #[.agg #[.int .i64 (CK p f c 0),.int .i64 (CK p f c 1),.int .i64 (CK p f c 2),.int .i64 (CK p f c 3),.int .i64 (CK p f c 4),.int .i64 (CK p f c 5)],.int .i64 (RE f c)])/\Below w.heap.size w w'):=by
 have x0:=hp6 0;have x3:=hp6 3;have x5:=hp6 5;have g0:=hf 0;have g1:=hf 1;have g2:=hf 2;have k0:=hc 0;have k1:=hc 1;have k2:=hc 2
 unfold Ai at x0 x3 x5 g0 g1 g2 k0 k1 k2
 refine JQ p f c w _ (St.refl w) Ex.nil ?_
 intro r1
 intro r2
 intro r3
 intro r4
 refine⟨rfl,rfl,(CallV.be λW hS=>ME f c W),?_⟩
 refine⟨?_,?_⟩
 ·intro h50
  have h5:(E5 f c)=false:=by simpa using h50
  refine⟨⟨rfl,rfl,rfl,rfl,rfl,rfl,trivial⟩,⟨rfl,trivial⟩,?_⟩
  have F:=Ve (p:=p) h5
  exactλW hS=>⟨by simp only[Sl,F.1,F.2],hS.bl⟩
 intro h60
 have h6:(E5 f c)=true:=by simpa using h60
 obtain⟨⟨m0,m1,m2⟩,⟨m3,m4,m5⟩,m6,m7,m8⟩:=KY h6
 refine⟨rfl,(CallV.be λW hS=>Q2 p W),?_⟩
 intro r7
 refine⟨⟨rfl,rfl,rfl,trivial⟩,rfl,rfl,?_⟩
 intro u8 eu8
 rw[Q3]at eu8
 refine⟨rfl,?_⟩
 intro u9 eu9
 rw[SV]at eu9
 refine⟨⟨rfl,trivial⟩,rfl,rfl,?_⟩
 intro u10 eu10
 rw[Q3]at eu10
 refine⟨rfl,?_⟩
 intro u11 eu11
 rw[SV]at eu11
 refine⟨⟨rfl,trivial⟩,rfl,rfl,?_⟩
 intro u12 eu12
 rw[Q3]at eu12
 refine⟨rfl,?_⟩
 intro u13 eu13
 rw[SV]at eu13
 refine⟨⟨rfl,trivial⟩,rfl,(CallV.be λW hS=>Gy (v3 u9 u11 u13) W),?_⟩
 intro r14
 refine⟨⟨rfl,rfl,rfl,rfl,rfl,rfl,trivial⟩,rfl,(CallV.be λW hS=>Jo p W (hp.below hS.bl)),rfl,rfl,rfl,congrArg (Value.int .i64) (BE en),rfl,rfl,congrArg (Value.int .i64) (BE en),(CallV.be λW hS=>IC (u11-(f 1)) (u9-(f 0)) eu eu W (hg.below hS.bl)),(CallV.be λW hS=>F7 (p 1) (mn (u11-(f 1)) (u9-(f 0))) (hp6 1) (IE eu eu) W),(CallV.be λW hS=>U4 (v6 u9 0 0 u11 0 u13) (Ac (p 1) (mn (u11-(f 1)) (u9-(f 0)))) W (hp.below hS.bl)),⟨rfl,rfl,rfl,rfl,rfl,rfl,trivial⟩,rfl,(CallV.be λW hS=>Jh p W (hp.below hS.bl)),rfl,rfl,rfl,congrArg (Value.int .i64) (BE en),rfl,rfl,congrArg (Value.int .i64) (BE en),(CallV.be λW hS=>IC (u13-(f 2)) (u9-(f 0)) eu eu W (hg.below hS.bl)),(CallV.be λW hS=>F7 (p 2) (mn (u13-(f 2)) (u9-(f 0))) (hp6 2) (IE eu eu) W),(CallV.be λW hS=>Uf (v6 u9 (Ac (p 1) (mn (u11-(f 1)) (u9-(f 0)))) 0 u11 0 u13) (Ac (p 2) (mn (u13-(f 2)) (u9-(f 0)))) W (hp.below hS.bl)),⟨rfl,rfl,rfl,rfl,rfl,rfl,trivial⟩,rfl,(CallV.be λW hS=>I0 p W (hp.below hS.bl)),rfl,rfl,rfl,congrArg (Value.int .i64) (BE en),rfl,rfl,congrArg (Value.int .i64) (BE en),(CallV.be λW hS=>IC (u13-(f 2)) (u11-(f 1)) eu eu W (hg.below hS.bl)),(CallV.be λW hS=>F7 (p 4) (mn (u13-(f 2)) (u11-(f 1))) (hp6 4) (IE eu eu) W),(CallV.be λW hS=>U5 (v6 u9 (Ac (p 1) (mn (u11-(f 1)) (u9-(f 0)))) (Ac (p 2) (mn (u13-(f 2)) (u9-(f 0)))) u11 0 u13) (Ac (p 4) (mn (u13-(f 2)) (u11-(f 1)))) W (hp.below hS.bl)),⟨rfl,rfl,rfl,rfl,rfl,rfl,trivial⟩,rfl,⟨rfl,rfl,rfl,rfl,rfl,rfl,trivial⟩,⟨rfl,trivial⟩,?_⟩
 have F:=VM (p:=p) h6
 subst eu13 eu12 eu11 eu10 eu9 eu8
 have G0:=Lu (min (max (p 3) (f 1)) (c 1)-f 1) (min (max (p 0) (f 0)) (c 0)-f 0)
 have G1:=Lu (min (max (p 5) (f 2)) (c 2)-f 2) (min (max (p 0) (f 0)) (c 0)-f 0)
 have G2:=Lu (min (max (p 5) (f 2)) (c 2)-f 2) (min (max (p 3) (f 1)) (c 1)-f 1)
 exactλW hS=>⟨by simp only[Sl,F.1,F.2,tm,NL,G0,G1,G2],hS.bl⟩
end
section
open Go.RowKit
theorem Vw{m:Nat->Int}(h0:AL (m 0)=true)(h1:AL (m 1)=true)(h2:AL (m 2)=true)(h3:AL (m 3)=true)(h4:AL (m 4)=true)(h5:AL (m 5)=true):Ap m=true:=by
 show(true&&AL (m 0)&&AL (m 1)&&AL (m 2)&&AL (m 3)&&AL (m 4)&&AL (m 5))=true
 rw[h0,h1,h2,h3,h4,h5];rfl
theorem Ua{m:Nat->Int}(h:Ap m=true):AL (m 0)=true/\AL (m 1)=true/\AL (m 2)=true/\AL (m 3)=true/\AL (m 4)=true/\AL (m 5)=true:=by
 have h:(true&&AL (m 0)&&AL (m 1)&&AL (m 2)&&AL (m 3)&&AL (m 4)&&AL (m 5))=true:=h
 simp only[Bool.true_and,Bool.and_eq_true]at h
 exact⟨h.1.1.1.1.1,h.1.1.1.1.2,h.1.1.1.2,h.1.1.2,h.1.2,h.2⟩
end
end Go.Proofs.YtikajapjkdloaaaGreatDoor
