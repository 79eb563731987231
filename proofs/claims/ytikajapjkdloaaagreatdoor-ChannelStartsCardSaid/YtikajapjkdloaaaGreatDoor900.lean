/- Plain words for the reference's big numbers: digits of 16 bits, the lowest first. No Go in sight. -/
import Derived.WalkKit
import Derived.Deep.QuietTactic
import Derived.Test.YtikajapjkdloaaaGreatDoorRows
import Derived.WalkSpells
import Derived.WalkLawsBesides
import Derived.Lib.Hide
import Derived.BigQuiet
import Derived.IntWalk
namespace Go.Proofs.YtikajapjkdloaaaGreatDoor
open Go.RowKit
section
def Dg(ds:List Int):Prop:= ∀d∈ds,0<=d/\d<65536
def I5:List Int->Int
 | []=>0
 |d::ds=>d+65536*I5 ds
def Vo(n:Nat):List Int:=if h:n=0 then[]else((n%65536:Nat):Int)::Vo (n/65536)
termination_by n
decreasing_by omega
theorem Yl:Vo 0=[]:=by rw[Vo];simp
theorem Y_{n:Nat}(h:n≠0):Vo n=((n%65536:Nat):Int)::Vo (n/65536):=by rw[Vo];simp[h]
theorem ZM(n:Nat):I5 (Vo n)=n:=by
 induction n using Nat.strongRecOn with
 |_ n ih=>
  by_cases h:n=0
  ·subst h;rw[Yl];rfl
  rw[Y_ h]
  show((n%65536:Nat):Int)+65536*I5 (Vo (n/65536))=n
  rw[ih _ (by omega)];omega
theorem a6(n:Nat):Dg (Vo n):=by
 induction n using Nat.strongRecOn with
 |_ n ih=>
  by_cases h:n=0
  ·subst h;rw[Yl];intro d hd;cases hd
  rw[Y_ h]
  intro d hd
  rcases List.mem_cons.1 hd with rfl|hd
  ·omega
  exact ih _ (by omega) d hd
theorem Dg.nil:Dg []:=by intro d hd;cases hd
theorem Dg.cons{d:Int}{ds:List Int}(h0:0<=d)(h1:d<65536)(h:Dg ds):Dg (d::ds):=by
 intro x hx;rcases List.mem_cons.1 hx with rfl|hx
 ·exact⟨h0,h1⟩
 exact h x hx
theorem Dg.head{d:Int}{ds:List Int}(h:Dg (d::ds)):0<=d/\d<65536:=h d (by simp)
theorem Dg.tail{d:Int}{ds:List Int}(h:Dg (d::ds)):Dg ds:= λx hx=>h x (by simp[hx])
theorem Dg.snoc{d:Int}{ds:List Int}(h:Dg ds)(h0:0<=d)(h1:d<65536):Dg (ds++[d]):=by
 intro x hx
 rcases List.mem_append.1 hx with hx|hx
 ·exact h x hx
 have:x=d:=by simpa using hx
 subst this;exact⟨h0,h1⟩
theorem Dg.take{ds:List Int}(h:Dg ds)(n:Nat):Dg (ds.take n):= λx hx=>h x (List.mem_of_mem_take hx)
theorem Dg.getD{ds:List Int}(h:Dg ds)(i:Nat):0<=ds.getD i 0/\ds.getD i 0<65536:=by
 rw[List.getD_eq_getElem?_getD]
 cases hx:ds[i]? with
 |none=>simp
 |some d=>simp only[Option.getD_some];exact h d (List.mem_of_getElem? hx)
theorem Y7{ds:List Int}(h:Dg ds):0<=I5 ds:=by
 induction ds with
 |nil=>exact Int.le_refl 0
 |cons d ds ih=>have:=ih h.tail;have:=h.head;show 0<=d+65536*I5 ds;omega
def pB(k:Nat):Int:=65536^k
theorem Yr(k:Nat):pB (k+1)=65536*pB k:=by unfold pB;rw[Int.pow_succ];omega
theorem bI(k:Nat):0<pB k:=Int.pow_pos (by omega)
theorem bo(i j:Nat):pB (i+j)=pB i*pB j:=Int.pow_add ..
theorem bv(k:Nat):pB k=((65536^k:Nat):Int):=by
 induction k with
 |zero=>rfl
 |succ k ih=>rw[Yr,ih,Nat.pow_succ,Int.natCast_mul,Int.mul_comm];rfl
theorem a_(i d:Nat):pB i<=pB (i+d):=by
 induction d with
 |zero=>exact Int.le_refl _
 |succ d ih=>rw[<-Nat.add_assoc,Yr];have:=bI (i+d);omega
theorem Z_{i j:Nat}(h:i<=j):pB i<=pB j:=by have:=a_ i (j-i);rwa[show i+(j-i)=j from by omega]at this
theorem aa(xs ys:List Int):I5 (xs++ys)=I5 xs+pB xs.length*I5 ys:=by
 induction xs with
 |nil=>simp[I5,pB]
 |cons x xs ih=>
  show x+65536*I5 (xs++ys)=x+65536*I5 xs+pB (xs.length+1)*I5 ys
  rw[ih,Yr,Int.mul_add,Int.mul_assoc];omega
theorem Yx(xs:List Int)(d:Int):I5 (xs++[d])=I5 xs+pB xs.length*d:=by
 rw[aa];simp[I5]
theorem aF{ds:List Int}(h:Dg ds):I5 ds<pB ds.length:=by
 induction ds with
 |nil=>simp[I5,pB]
 |cons d ds ih=>
  have:=ih h.tail;have:=h.head
  show d+65536*I5 ds<pB (ds.length+1)
  rw[Yr];omega
theorem Zq(xs:List Int)(i:Nat):I5 (xs.take (i+1))=I5 (xs.take i)+pB i*xs.getD i 0:=by
 by_cases h:i<xs.length
 ·rw[List.take_succ_eq_append_getElem h,Yx,List.length_take,Nat.min_eq_left (by omega)]
  congr 2
  simp[List.getD_eq_getElem?_getD,List.getElem?_eq_getElem h]
 rw[List.take_of_length_le (by omega),List.take_of_length_le (by omega)]
 have:xs.getD i 0=0:=by rw[List.getD_eq_getElem?_getD,List.getElem?_eq_none (by omega)];rfl
 rw[this];omega
theorem L1{xs:List Int}{i:Nat}(h:xs.length<=i):I5 (xs.take i)=I5 xs:=by rw[List.take_of_length_le h]
theorem aD{ds:List Int}(h:Dg ds)(hv:I5 ds=0): ∀i,ds.getD i 0=0:=by
 induction ds with
 |nil=>intro i;simp
 |cons d ds ih=>
  have h1:=h.head
  have h2:=Y7 h.tail
  have hv':d+65536*I5 ds=0:=hv
  intro i
  cases i with
  |zero=>simp;omega
  |succ i=>simp only[List.getD_cons_succ];exact ih h.tail (by omega) i
theorem Z4{ds:List Int}(h:Dg ds):ds.take (Vo (I5 ds).toNat).length=Vo (I5 ds).toNat/\(Vo (I5 ds).toNat).length<=ds.length/\
 (∀i,(Vo (I5 ds).toNat).length<=i->ds.getD i 0=0)/\(0<(Vo (I5 ds).toNat).length->ds.getD ((Vo (I5 ds).toNat).length-1) 0≠0):=by
 induction ds with
 |nil=>simp[I5,Yl]
 |cons d ds ih=>
  have h1:=h.head
  have h2:=Y7 h.tail
  obtain⟨i1,i2,i3,i4⟩:=ih h.tail
  have hv:I5 (d::ds)=d+65536*I5 ds:=rfl
  by_cases hz:I5 (d::ds)=0
  ·have hz':=aD h hz
   rw[hz]
   rw[show((0:Int).toNat)=0 from rfl,Yl]
   refine⟨by simp,by simp,λi _=>hz' i,λhh=>by simp at hh⟩
  have e1:(I5 (d::ds)).toNat%65536=d.toNat:=by rw[hv];omega
  have e2:(I5 (d::ds)).toNat/65536=(I5 ds).toNat:=by rw[hv];omega
  rw[Y_ (show(I5 (d::ds)).toNat≠0 by rw[hv]at hz⊢;omega),e1,e2]
  refine⟨?_,?_,?_,?_⟩
  ·rw[List.length_cons,List.take_succ_cons,i1];congr 1;omega
  ·simp only[List.length_cons];omega
  ·intro i hi
   cases i with
   |zero=>simp at hi
   |succ i=>simp only[List.getD_cons_succ];exact i3 i (by simpa using hi)
  intro _
  simp only[List.length_cons,Nat.add_sub_cancel]
  cases hl:(Vo (I5 ds).toNat).length with
  |zero=>
   have:I5 ds=0:=by
    have:=ZM (I5 ds).toNat
    rw[List.eq_nil_of_length_eq_zero hl]at this
    have e:I5 ([]:List Int)=0:=rfl
    omega
   simp only[List.getD_cons_zero];rw[hv]at hz;omega
  |succ m=>
   simp only[List.getD_cons_succ]
   have:=i4 (by omega)
   rw[hl]at this
   simpa using this
theorem Zu(n i:Nat):(Vo n).getD i 0=((n/65536^i%65536:Nat):Int):=by
 induction i generalizing n with
 |zero=>
  by_cases h:n=0
  ·subst h;simp[Yl]
  rw[Y_ h];simp
 |succ i ih=>
  by_cases h:n=0
  ·subst h;simp[Yl]
  rw[Y_ h,List.getD_cons_succ,ih,Nat.div_div_eq_div_mul,Nat.pow_succ,Nat.mul_comm]
theorem Zb{n k:Nat}(h:n<65536^k):(Vo n).length<=k:=by
 induction k generalizing n with
 |zero=>have:n=0:=by simpa using h
        subst this;simp[Yl]
 |succ k ih=>
  by_cases h0:n=0
  ·subst h0;simp[Yl]
  rw[Y_ h0,List.length_cons]
  have:=ih (n:=n/65536) (by rw[Nat.pow_succ]at h;exact Nat.div_lt_of_lt_mul (by rw[Nat.mul_comm];exact h))
  omega
theorem au(n:Nat):n<65536^(Vo n).length:=by
 have h:=aF (a6 n)
 rw[ZM,bv]at h
 exact Int.ofNat_lt.1 h
theorem Zt{m n:Nat}(h:m<=n):(Vo m).length<=(Vo n).length:=Zb (Nat.lt_of_le_of_lt h (au n))
theorem aJ(n:Nat):Vo n=[]<->n=0:=by
 constructor
 ·intro h;have:=ZM n;rw[h]at this;have e:I5 ([]:List Int)=0:=rfl;omega
 rintro rfl;exact Yl
def dg(z:Int):List Int:=Vo z.natAbs
def nd(z:Int):Nat:=(dg z).length
theorem Yp(z:Int):Dg (dg z):=a6 _
theorem S7(z:Int):I5 (dg z)=z.natAbs:=ZM _
theorem LM(z:Int):nd z=0<->z=0:=by
 unfold nd dg;rw[List.length_eq_zero_iff,aJ];omega
theorem aL(z:Int):(z.natAbs:Int)<pB (nd z):=by have:=aF (Yp z);rwa[S7]at this
theorem Yu{z:Int}{k:Nat}(h:(z.natAbs:Int)<pB k):nd z<=k:=Zb (by rw[bv]at h;exact Int.ofNat_lt.1 h)
theorem Yw{a b:Int}(h:a.natAbs<=b.natAbs):nd a<=nd b:=Zt h
theorem ZF(a:Int):nd (-a)=nd a:=by unfold nd dg;rw[Int.natAbs_neg]
theorem Zr(a b:Int):nd (a+b)<=max (nd a) (nd b)+1:=by
 apply Yu
 have ha:=aL a
 have hb:=aL b
 have ma:pB (nd a)<=pB (max (nd a) (nd b)):=Z_ (Nat.le_max_left ..)
 have mb:pB (nd b)<=pB (max (nd a) (nd b)):=Z_ (Nat.le_max_right ..)
 rw[Yr];omega
theorem ah(a b:Int):nd (a*b)<=nd a+nd b:=by
 apply Yu
 have ha:=aL a
 have hb:=aL b
 rw[bo,Int.natAbs_mul,Int.natCast_mul]
 exact Int.mul_lt_mul' (Int.le_of_lt ha) hb (by omega) (bI _)
end
section
def AW(z:Int):Int:=z/18446744073709551616
def AY(z:Int):Int:=z%18446744073709551616
def Ai(x:Int):Prop:= -9223372036854775808<=x/\x<=9223372036854775807
def V7(x:Int):Prop:=0<=x/\x<18446744073709551616
def AS(z:Int):Prop:= -170141183460469231731687303715884105728<=z/\z<170141183460469231731687303715884105728
instance(z:Int):Decidable (AS z):=by unfold AS;infer_instance
instance(z:Int):Decidable (Ai z):=by unfold Ai;infer_instance
instance(z:Int):Decidable (V7 z):=by unfold V7;infer_instance
def Aj(z:Int):Int:=(z+170141183460469231731687303715884105728)%340282366920938463463374607431768211456-170141183460469231731687303715884105728
def JN(z:Int):Int:=if AS z then z else 0
def Ku(z:Int):Int:=if AS z then 0 else 3
theorem TQ{z:Int}(h:AS z):Ai (AW z):=by unfold AS at h;unfold Ai AW;omega
theorem Df(z:Int):V7 (AY z):=by unfold V7 AY;omega
theorem Di{z:Int}(h:AS z):Aj z=z:=by unfold AS at h;unfold Aj;omega
theorem F9(z:Int):AW z<0<->z<0:=by unfold AW;omega
theorem M9{x:Int}(h:Ai x):AS x:=by unfold Ai at h;unfold AS;omega
theorem Nd{x:Int}(h:Ai x):AW x=x/9223372036854775808:=by unfold Ai at h;unfold AW;omega
theorem VA(x:Int):IntKind.u64.wrap x=AY x:=by rw[IntKind.wrap_u64];rfl
theorem UZ{a b:Int}(h1:AW a=AW b)(h2:AY a=AY b):a=b:=by unfold AW AY at*;omega
/-! The sum and the difference of words. -/
theorem TW(a b:Int):(AY a+AY b)%18446744073709551616=AY (Aj (a+b)):=by unfold AY Aj;omega
theorem Ta(a b:Int):wrap64 ((IntKind.u64.wrap (AW a)+IntKind.u64.wrap (AW b)+(AY a+AY b)/18446744073709551616)%18446744073709551616)=AW (Aj (a+b)):=by
 simp only[IntKind.wrap_u64,wrap64];unfold AW AY Aj;omega
def Sg(x y:Int):Int:=if x<y then 1 else 0
theorem Uw(x y:Int):0<=Sg x y/\Sg x y<=1:=by unfold Sg;split<;>omega
theorem Sb(a b:Int):(AY a-AY b)%18446744073709551616=AY (Aj (a-b)):=by unfold AY Aj;omega
theorem S6(a b:Int):wrap64 ((IntKind.u64.wrap (AW a)-IntKind.u64.wrap (AW b)-Sg (AY a) (AY b))%18446744073709551616)=AW (Aj (a-b)):=by
 simp only[IntKind.wrap_u64,wrap64];unfold AW AY Aj Sg;split<;>omega
theorem R5{a b:Int}(ha:AS a)(hb:AS b)(h: ¬((AW a<0<->AW b<0)/\ ¬(AW (Aj (a+b))<0<->AW a<0))):AS (a+b):=by
 unfold AS at*;unfold AW Aj at h;omega
theorem Np{a b:Int}(ha:AS a)(hb:AS b)(h1:AW a<0<->AW b<0)(h2: ¬(AW (Aj (a+b))<0<->AW a<0)): ¬AS (a+b):=by
 intro h;unfold AS at*;unfold AW Aj at*;omega
theorem C9{z:Int}(h:AS z):JN z=z/\Ku z=0:=by simp[JN,Ku,h]
theorem Jg{z:Int}(h: ¬AS z):JN z=0/\Ku z=3:=by simp[JN,Ku,h]
theorem R6:AW 0=0:=rfl
theorem Ry:AY 0=0:=rfl
theorem U9{a b:Int}(ha:AS a)(hb:AS b)(h: ¬((AW a<0<->AW b<0)/\ ¬(AW (Aj (a+b))<0<->AW a<0))):JN (a+b)=Aj (a+b)/\Ku (a+b)=0:=by
 have k:=R5 ha hb h;rw[Di k];exact C9 k
theorem MO{a b:Int}(ha:AS a)(hb:AS b)(h:((decide (AW a<0)==decide (AW b<0))&&(decide (AW (Aj (a+b))<0)!=decide (AW a<0)))=false):JN (a+b)=Aj (a+b)/\Ku (a+b)=0:=by
 apply U9 ha hb
 simp only[Bool.and_eq_false_iff,beq_eq_false_iff_ne,bne_eq_false_iff_eq,decide_eq_decide,ne_eq]at h
 omega
theorem Pp{a b:Int}(ha:AS a)(hb:AS b)(h:((decide (AW a<0)==decide (AW b<0))&&(decide (AW (Aj (a+b))<0)!=decide (AW a<0)))=true):JN (a+b)=0/\Ku (a+b)=3:=by
 simp only[Bool.and_eq_true,beq_iff_eq,bne_iff_ne,decide_eq_decide,ne_eq]at h
 exact Jg (Np ha hb h.1 h.2)
/-! Products. -/
theorem Dv{x:Int}(h:Ai x):0<=(x.natAbs:Int)/\(x.natAbs:Int)<=9223372036854775808:=by unfold Ai at h;omega
theorem Fa{a b:Int}(m:Int)(h1:0<=a)(h2:0<=b)(h3:a<=m)(h4:b<=m):0<=a*b/\a*b<=m*m:=
 ⟨Int.mul_nonneg h1 h2,Int.mul_le_mul h3 h4 h2 (by omega)⟩
theorem Oj{x y:Int}(hx:Ai x)(hy:Ai y):0<=(x.natAbs:Int)*y.natAbs/\(x.natAbs:Int)*y.natAbs<=85070591730234615865843651857942052864:=by
 have:=Fa 9223372036854775808 (Dv hx).1 (Dv hy).1 (Dv hx).2 (Dv hy).2
 omega
theorem G7(x y:Int):(x.natAbs:Int)*y.natAbs=((x*y).natAbs:Int):=by rw[Int.natAbs_mul];omega
theorem P5{x y:Int}(h:(decide (x<0)!=decide (y<0))=false):(x.natAbs:Int)*y.natAbs=x*y:=by
 rw[G7]
 have h':x<0<->y<0:=by simpa using h
 have:0<=x*y:=by
  by_cases hx:x<0
  ·exact Int.mul_nonneg_of_nonpos_of_nonpos (by omega) (by have:=h'.1 hx;omega)
  exact Int.mul_nonneg (by omega) (by have: ¬y<0:= λk=>hx (h'.2 k);omega)
 omega
theorem O6{x y:Int}(h:(decide (x<0)!=decide (y<0))=true):0-(x.natAbs:Int)*y.natAbs=x*y:=by
 rw[G7]
 have h': ¬(x<0<->y<0):=by simpa using h
 have:x*y<=0:=by
  by_cases hx:x<0
  ·exact Int.mul_nonpos_of_nonpos_of_nonneg (by omega) (by omega)
  have:y<0:=by omega
  exact Int.mul_nonpos_of_nonneg_of_nonpos (by omega) (by omega)
 omega
theorem F5{x y:Int}(hx:Ai x)(hy:Ai y):AS (x*y):=by
 have:=Oj hx hy
 rw[G7]at this
 unfold AS;omega
/-! A wide number that fits in 64 bits. -/
theorem Qv{a:Int}(h:Ai a):wrap64 (AY a)=a:=by unfold Ai at h;unfold wrap64 AY;omega
theorem JL(x:Int):Ai (wrap64 x):=by unfold Ai wrap64;omega
theorem Q0(a:Int):AY (wrap64 (AY a))=AY a:=by unfold AY wrap64;omega
theorem Nk{a:Int}(h: ¬Ai a):AW (wrap64 (AY a))≠AW a:=by
 intro k
 have:wrap64 (AY a)=a:=UZ k (Q0 a)
 rw[<-this]at h
 exact h (JL _)
def Ae(z:Int):Int:=if Ai z then z else 0
def CN(z:Int):Int:=if Ai z then 0 else 3
def En(a b:Int):Int:=if a<b then-1 else if a=b then 0 else 1
/-! Powers of 2. -/
def up(a:Int)(k:Nat):Int:=a*2^k
theorem OP(a:Int):up a 0=a:=by simp[up]
theorem Of(a:Int)(k:Nat):up a (k+1)=up a k+up a k:=by unfold up;rw[Int.pow_succ,<-Int.mul_assoc];omega
theorem PZ{a:Int}{k:Nat}(h: ¬AS (up a k))(j:Nat): ¬AS (up a (k+j)):=by
 induction j with
 |zero=>exact h
 |succ j ih=>rw[<-Nat.add_assoc,Of];intro hw;apply ih;unfold AS at*;omega
theorem N5{a:Int}{k n:Nat}(h: ¬AS (up a k))(hn:k<=n): ¬AS (up a n):=by
 have:=PZ h (n-k)
 rwa[show k+(n-k)=n from by omega]at this
end
section
structure Asd (p:Prop):Prop where mk::(out:p)
theorem AM{w W:World}(h:Below w.heap.size w W)(o:Obj):Below w.heap.size w (W.alloc o):=h.alloc h.size o
theorem AP{B:Nat}{w W:World}(h:Below B w W):Below B w W.drew:=⟨h.os,h.tape,h.output,h.size,h.block⟩
theorem AJ{B:Nat}{w W:World}(h:Below B w W)(n:Nat):Below B w (W.drewN n):=⟨h.os,h.tape,h.output,h.size,h.block⟩
theorem AZ{w W:World}(h:Below w.heap.size w W){p:Addr}(hp:w.heap.size<=p.block)(u:Value):Below w.heap.size w (W.setCell p u):=h.setCell hp u
theorem AQ{w w1 w2:World}(h:Below w.heap.size w w1)(k:Below w1.heap.size w1 w2):Below w.heap.size w w2:=h.trans (k.mono h.size)
theorem eu{P:Prop}(h:P:=by unfold Ai;omega):P:=h
theorem ep{P:Prop}(h:P:=by unfold AS;omega):P:=h
theorem en{P:Prop}(h:P:=by omega):P:=h
theorem eo{P:Prop}(h:P:=by decide):P:=h
theorem el{P:Prop}(h:P:=by kernel_rfl):P:=h
theorem ZB{P:Prop}(h:P:=by first|(simp;done)|(simp;omega)|(simp[go_sem];done)|(simp[go_sem];omega)|omega):P:=h
theorem LC{a:Nat}{w w':World}(h:Below a w w':=by repeat (first|exact Below.refl _ _|assumption|refine AM ?_ _|refine AJ ?_ _|refine AP ?_|refine AZ ?_ (by first|(simp;done)|(simp;omega)|(dsimp only;omega)) _|refine AQ ?_ (by assumption))):Below a w w':=h
theorem Bz{W w1:World}(hb:Below W.heap.size W w1):(∀b o,b<W.heap.size->w1.cell? ⟨b,o,none⟩=W.cell? ⟨b,o,none⟩)/\(∀b o,b<W.heap.size->w1.frozen? ⟨b,o,none⟩=W.frozen? ⟨b,o,none⟩):=
 ⟨λb o h=>hb.cell (p:=⟨b,o,none⟩) h,λb o h=>hb.frozen (p:=⟨b,o,none⟩) h⟩
theorem Gv{k:IntKind}{a b:Int}(h:a=b):Ending.returned (.int k a)=.returned (.int k b):=by rw[h]
theorem Bo{a b:Bool}(h:a=b):Ending.returned (.bool a)=.returned (.bool b):=by rw[h]
theorem CE(n:Nat):n<n+1+1:=by omega
theorem CA(n:Nat):n<n+1+1+1:=by omega
theorem CF(n:Nat):n<n+1+1+1+1:=by omega
theorem CG(n:Nat):n<n+1+1+1+1+1:=by omega
theorem B_(n:Nat):n<n+1+1+1+1+1+1:=by omega
theorem CB(n:Nat):n<n+1+1+1+1+1+1+1:=by omega
theorem CD(n:Nat):n<n+1+1+1+1+1+1+1+1:=by omega
theorem CC(n:Nat):n<n+1+1+1+1+1+1+1+1+1:=by omega
theorem Be(n:Nat):n<n+1+1+1+1+1+1+1+1+1+1:=by omega
theorem Bc(n:Nat):n<n+1+1+1+1+1+1+1+1+1+1+1:=by omega
theorem Ba(n:Nat):n<n+1+1+1+1+1+1+1+1+1+1+1+1:=by omega
theorem RM(W:World)(cs:Array Value)(t:TypeId)(n i:Nat)(hn:n=W.heap.size):(W.alloc (.cells cs t)).cell? ⟨n,i,none⟩=cs[i]? :=World.cell?_alloc_at _ _ _ _ hn
theorem GF(W:World)(cs:Array Value)(t:TypeId)(n i:Nat)(hn:n=W.heap.size):(W.alloc (.cells cs t)).drew.cell? ⟨n,i,none⟩=cs[i]? :=World.cell?_alloc_at _ _ _ _ hn
def Bx(w:World)(b:Nat)(u v:Value):Prop:=
 w.cell? ⟨b,0,none⟩=some u/\w.cell? ⟨b,1,none⟩=some v/\w.frozen? ⟨b,0,none⟩=false/\w.frozen? ⟨b,1,none⟩=false
theorem Bx.low{w w1:World}{b B:Nat}{u v:Value}(hb:Below B w w1)(hlt:b<B)(k:Bx w b u v):Bx w1 b u v:=
 ⟨(hb.cell (p:=⟨b,0,none⟩) hlt).trans k.1,(hb.cell (p:=⟨b,1,none⟩) hlt).trans k.2.1,(hb.frozen (p:=⟨b,0,none⟩) hlt).trans k.2.2.1,(hb.frozen (p:=⟨b,1,none⟩) hlt).trans k.2.2.2⟩
end
section
attribute [local go_sem] CE CA CF CG B_ CB CD CC Be Bc Ba
def gd(xs:List Int)(i:Nat):Int:=xs.getD i 0
theorem ZL{xs:List Int}{i:Nat}(h:xs.length<=i):gd xs i=0:=by unfold gd;rw[List.getD_eq_getElem?_getD,List.getElem?_eq_none h];rfl
def RS(w:World)(A:Option Addr)(c:Nat)(xs:List Int):Prop:=
 xs.length<=c/\c<=9223372036854775807/\(A=none->c=0)/\(0<xs.length-> ∃b,A=some ⟨b,0,none⟩/\b<w.heap.size/\ ∀j,j<xs.length->w.cell? ⟨b,j,none⟩=some (.int .u64 (gd xs j)))
theorem RS.at{w:World}{A:Option Addr}{c:Nat}{xs:List Int}(h:RS w A c xs)(j:Nat)(hj:j<xs.length):
 ∃b,A=some ⟨b,0,none⟩/\b<w.heap.size/\w.cell? ⟨b,j,none⟩=some (.int .u64 (gd xs j)):=by
 obtain⟨b,e,hlt,hc⟩:=h.2.2.2 en
 exact⟨b,e,hlt,hc j hj⟩
theorem RS.below{w w':World}{A:Option Addr}{c:Nat}{xs:List Int}(h:RS w A c xs)(hb:Below w.heap.size w w'):RS w' A c xs:=
 ⟨h.1,h.2.1,h.2.2.1,λhn=>by
  obtain⟨b,e,hlt,hc⟩:=h.2.2.2 hn
  exact⟨b,e,Nat.lt_of_lt_of_le hlt hb.size,λj hj=>((Bz hb).1 _ _ hlt).trans (hc j hj)⟩⟩
theorem RS.alloc{w:World}{A:Option Addr}{c:Nat}{xs:List Int}(h:RS w A c xs)(o:Obj):RS (w.alloc o) A c xs:=h.below ((Below.refl _ _).alloc (Nat.le_refl _) o)
theorem RS.drew{w:World}{A:Option Addr}{c:Nat}{xs:List Int}(h:RS w A c xs):RS w.drew A c xs:=h
theorem RS.drewN{w:World}{A:Option Addr}{c:Nat}{xs:List Int}(h:RS w A c xs)(n:Nat):RS (w.drewN n) A c xs:=h
theorem RS.store{w:World}{A:Option Addr}{c:Nat}{xs:List Int}(h:RS w A c xs){b0 o:Nat}{u:Value}{v:Bool}(hv:w.cell? ⟨b0,0,none⟩=some (.bool v)):RS (w.setCell ⟨b0,o,none⟩ u) A c xs:=
 ⟨h.1,h.2.1,h.2.2.1,λhn=>by
  obtain⟨b,e,hlt,hc⟩:=h.2.2.2 hn
  have hne:b≠b0:=by
   rintro rfl
   have:=hc 0 hn
   rw[hv]at this
   cases this
  exact⟨b,e,by simpa[World.setCell]using hlt,λj hj=>Eq.trans (World.cell?_setCell_other _ _ _ _ (λk=>hne (congrArg Addr.block k).symm)) (hc j hj)⟩⟩
theorem RS.le{w:World}{A:Option Addr}{c:Nat}{xs:List Int}(h:RS w A c xs):xs.length<=9223372036854775807:=Nat.le_trans h.1 h.2.1
def RB(w:World)(A:Option Addr)(c:Nat)(z:Int):Prop:=RS w A c (dg z)
theorem RB.below{w w':World}{A:Option Addr}{c:Nat}{z:Int}(h:RB w A c z)(hb:Below w.heap.size w w'):RB w' A c z:=RS.below h hb
theorem RS.front{w:World}{A:Option Addr}{c:Nat}{xs ys:List Int}(h:RS w A c xs)(hy:ys.length<=xs.length)(hg: ∀i,i<ys.length->gd ys i=gd xs i):RS w A c ys:=
 ⟨by have:=h.1;omega,h.2.1,h.2.2.1,λhn=>by
  obtain⟨b,e,hlt,hc⟩:=h.2.2.2 en
  exact⟨b,e,hlt,λj hj=>by rw[hg j hj];exact hc j en⟩⟩
end
section
attribute [local go_sem] CE CA CF CG B_ CB CD CC Be Bc Ba
abbrev AD:=List (Nat×List Value)
abbrev BN:=List (Option Addr×Nat×Int)
def St(w0 W:World)(bs:AD)(gs:BN):Prop:=
 Below w0.heap.size w0 W/\(∀x∈bs,w0.heap.size<=x.1/\x.1<W.heap.size/\(∀i,W.frozen? ⟨x.1,i,none⟩=false)/\ ∀i v,x.2[i]? =some v->W.cell? ⟨x.1,i,none⟩=some v)/\
  (bs.map (·.1)).Nodup/\ ∀g∈gs,RB W g.1 g.2.1 g.2.2
def Az(W:World)(b:Nat):Nat->List Value->Prop
 |_,[]=>True
 |i,v::vs=>W.cell? ⟨b,i,none⟩=some v/\Az W b (i+1) vs
def apart(b:Nat):AD->Prop
 | []=>True
 |y::r=>b≠y.1/\y.1≠b/\apart b r
def facts(W:World):AD->Prop
 | []=>True
 |x::r=>x.1<W.heap.size/\apart x.1 r/\(∀i,W.frozen? ⟨x.1,i,none⟩=false)/\Az W x.1 0 x.2/\facts W r
theorem St.refl(w:World):St w w [] []:=⟨Below.refl _ _,λ_ h=>(by cases h),List.nodup_nil,λ_ h=>(by cases h)⟩
theorem St.bl{w0 W:World}{bs:AD}{gs:BN}(h:St w0 W bs gs):Below w0.heap.size w0 W:=h.1
theorem JE{W:World}{b:Nat}: ∀{vs:List Value}{i:Nat},(∀j v,vs[j]? =some v->W.cell? ⟨b,i+j,none⟩=some v)->Az W b i vs
 | [],_,_=>trivial
 |v::vs,i,h=>⟨h 0 v rfl,JE λj u hu=>by have:=h (j+1) u (by simpa using hu);rwa[show i+(j+1)=i+1+j from by omega]at this⟩
theorem MR{b:Nat}: ∀{bs:AD},(∀y∈bs,b≠y.1)->apart b bs
 | [],_=>trivial
 |y::r,h=>⟨h y (by simp),λe=>h y (by simp) e.symm,MR λz hz=>h z (by simp[hz])⟩
theorem St.facts{w0 W:World}{bs:AD}{gs:BN}(h:St w0 W bs gs):facts W bs:=by
 have hb:=h.2.1
 have hn:=h.2.2.1
 clear h
 induction bs with
 |nil=>trivial
 |cons x r ih=>
  obtain⟨_,k2,k3,k4⟩:=hb x (by simp)
  have hn':=List.nodup_cons.1 hn
  exact⟨k2,MR λy hy e=>hn'.1 (by show x.1∈_;rw[e];exact List.mem_map_of_mem hy),k3,JE λj v hv=>by rw[Nat.zero_add];exact k4 j v hv,ih (λy hy=>hb y (by simp[hy])) hn'.2⟩
theorem St.rb{w0 W:World}{bs:AD}{gs:BN}(h:St w0 W bs gs)(i:Nat){A:Option Addr}{c:Nat}{z:Int}(hi:gs[i]? =some (A,c,z)):RB W A c z:=
 h.2.2.2 _ (List.mem_of_getElem? hi)
theorem St.call{w0 W W1:World}{bs:AD}{gs:BN}(h:St w0 W bs gs)(hb:Below W.heap.size W W1):St w0 W1 bs gs:=
 ⟨h.1.trans (hb.mono h.1.size),λx hx=>by
  obtain⟨k1,k2,k3,k4⟩:=h.2.1 x hx
  exact⟨k1,Nat.lt_of_lt_of_le k2 hb.size,λi=>((Bz hb).2 _ i k2).trans (k3 i),λi v hv=>((Bz hb).1 _ i k2).trans (k4 i v hv)⟩,
  h.2.2.1,λg hg=>RB.below (h.2.2.2 g hg) hb⟩
theorem St.big{w0 W:World}{bs:AD}{gs:BN}(h:St w0 W bs gs){A:Option Addr}{c:Nat}{z:Int}(hr:RB W A c z):St w0 W bs ((A,c,z)::gs):=
 ⟨h.1,h.2.1,h.2.2.1,λg hg=>by rcases List.mem_cons.1 hg with rfl|hg;exact hr;exact h.2.2.2 g hg⟩
theorem St.step{w0 W W1:World}{bs:AD}{gs:BN}{p:Prop}(h:St w0 W bs gs)(hb:Below W.heap.size W W1)(k:Asd (St w0 W1 bs gs)->p):p:=k ⟨h.call hb⟩
theorem St.lay{w0 W:World}{bs:AD}{gs:BN}(h:St w0 W bs gs)(vs:List Value)(t:TypeId):St w0 (W.alloc (.cells vs.toArray t)) ((W.heap.size,vs)::bs) gs:=by
 have hb:Below W.heap.size W (W.alloc (.cells vs.toArray t)):=(Below.refl _ _).alloc (Nat.le_refl _) _
 have k:=h.call hb
 refine⟨k.1,λx hx=> ?_,?_,k.2.2.2⟩
 ·rcases List.mem_cons.1 hx with rfl|hx
  ·exact⟨h.1.size,by simp,λi=>by simp[go_sem],λi v hv=>by rw[RM _ _ _ _ _ rfl];simpa using hv⟩
  exact k.2.1 x hx
 refine List.nodup_cons.2 ⟨λhm=> ?_,k.2.2.1⟩
 obtain⟨x,hx,e⟩:=List.mem_map.1 hm
 have:=(h.2.1 x hx).2.1
 simp only at e
 omega
theorem Gs(W:World)(o:Obj):(W.alloc o).heap.size=W.heap.size+1:=by simp
theorem Ik(W:World):W.drew.heap.size=W.heap.size:=rfl
theorem Hb(W:World)(n:Nat):(W.drewN n).heap.size=W.heap.size:=rfl
theorem St.drew{w0 W:World}{bs:AD}{gs:BN}(h:St w0 W bs gs):St w0 W.drew bs gs:=h.call (AP (Below.refl _ _))
theorem St.drewN{w0 W:World}{bs:AD}{gs:BN}(h:St w0 W bs gs)(n:Nat):St w0 (W.drewN n) bs gs:=h.call (AJ (Below.refl _ _) n)
theorem St.less{w0 W:World}{bs bs':AD}{gs gs':BN}(h:St w0 W bs gs)(hb:bs'.Sublist bs)(hg:gs'⊆gs):St w0 W bs' gs':=
 ⟨h.1,λx hx=>h.2.1 x (hb.subset hx),(hb.map _).nodup h.2.2.1,λg hx=>h.2.2.2 g (hg hx)⟩
def CI:Value->Bool
 | .int .u64 _=>false
 |_=>true
theorem St.set{w0 W:World}{bs:AD}{gs:BN}(h:St w0 W bs gs)(k i:Nat){b:Nat}{v0:Value}{vs:List Value}(hk:bs[k]? =some (b,v0::vs))(hi:i<(v0::vs).length)(hd:gs=[]∨CI v0=true)(u:Value):
 St w0 (W.setCell ⟨b,i,none⟩ u) (bs.set k (b,(v0::vs).set i u)) gs:=by
 obtain⟨k1,k2,k3,k4⟩:=h.2.1 _ (List.mem_of_getElem? hk)
 have hkl:k<bs.length:=(List.getElem?_eq_some_iff.1 hk).1
 have hc0:=k4 0 v0 rfl
 obtain⟨vi,hvi⟩: ∃vi,(v0::vs)[i]? =some vi:=⟨_,List.getElem?_eq_getElem hi⟩
 have hci:=k4 i vi hvi
 have hne: ∀j x,bs[j]? =some x->j≠k->x.1≠b:=by
  intro j x hj hjk e
  have h1:(bs.map (·.1))[j]? =some b:=by rw[List.getElem?_map,hj,<-e];rfl
  have h2:(bs.map (·.1))[k]? =some b:=by rw[List.getElem?_map,hk];rfl
  have hjl:j<(bs.map (·.1)).length:=(List.getElem?_eq_some_iff.1 h1).1
  exact hjk ((List.getElem?_inj hjl h.2.2.1).1 (h1.trans h2.symm))
 refine⟨AZ h.1 k1 u,λx hx=> ?_,?_,λg hg=> ?_⟩
 ·obtain⟨j,hj⟩:=List.mem_iff_getElem?.1 hx
  rw[List.getElem?_set]at hj
  by_cases e:k=j
  ·subst e
   rw[if_pos rfl,if_pos hkl]at hj
   obtain rfl:=Option.some.inj hj
   refine⟨k1,by simpa[World.setCell]using k2,λm=>by simpa using k3 m,λm v hv=> ?_⟩
   simp only[List.getElem?_set]at hv
   by_cases e2:i=m
   ·subst e2
    rw[if_pos rfl,if_pos hi]at hv
    rw[World.cell?_setCell_same _ _ _ hci,hv]
   rw[if_neg e2]at hv
   rw[World.cell?_setCell_other _ _ _ _ (λq=>e2 (congrArg Addr.off q))]
   exact k4 m v hv
  rw[if_neg e]at hj
  obtain⟨q1,q2,q3,q4⟩:=h.2.1 x (List.mem_of_getElem? hj)
  have hx':=hne j x hj (Ne.symm e)
  exact⟨q1,by simpa[World.setCell]using q2,λm=>by simpa using q3 m,λm v hv=>(World.cell?_setCell_other _ _ _ _ (λq=>hx' (congrArg Addr.block q).symm)).trans (q4 m v hv)⟩
 ·rw[List.map_set]
  have e:(bs.map (·.1))[k]? =some b:=by rw[List.getElem?_map,hk];rfl
  have:(bs.map (·.1)).set k b=bs.map (·.1):=by
   apply List.ext_getElem?
   intro m
   rw[List.getElem?_set]
   by_cases em:k=m
   ·subst em;rw[if_pos rfl,e,if_pos (by simpa using hkl)]
   rw[if_neg em]
  simp only[this]
  exact h.2.2.1
 have hr:=h.2.2.2 g hg
 have hd':CI v0=true:=hd.resolve_left (by rintro rfl;cases hg)
 refine⟨hr.1,hr.2.1,hr.2.2.1,λhn=> ?_⟩
 obtain⟨b',e',hlt,hcs⟩:=hr.2.2.2 hn
 have hbb:b'≠b:=by
  rintro rfl
  have:=hcs 0 hn
  rw[hc0]at this
  obtain rfl:=Option.some.inj this
  simp[CI]at hd'
 exact⟨b',e',by simpa[World.setCell]using hlt,λj hj=>Eq.trans (World.cell?_setCell_other _ _ _ _ (λq=>hbb (congrArg Addr.block q).symm)) (hcs j hj)⟩
end
section
theorem IK{W:World}{b:Nat}: ∀{vs:List Value}{i:Nat},Az W b i vs-> ∀j v,vs[j]? =some v->W.cell? ⟨b,i+j,none⟩=some v
 | [],_,_,_,_,hv=>by simp at hv
 |v::vs,i,h,0,u,hu=>by obtain rfl:v=u:=by simpa using hu
                       exact h.1
 |v::vs,i,h,j+1,u,hu=>by have:=IK h.2 j u (by simpa using hu);rwa[show i+1+j=i+(j+1)from by omega]at this
theorem MD{b:Nat}: ∀{bs:AD},apart b bs-> ∀y∈bs,b≠y.1
 | [],_,_,hy=>by cases hy
 |z::r,h,y,hy=>by rcases List.mem_cons.1 hy with rfl|hy;exact h.1;exact MD h.2.2 y hy
def low(n:Nat):AD->Prop
 | []=>True
 |x::r=>n<=x.1/\low n r
def WQ(W:World):BN->Prop
 | []=>True
 |g::r=>RB W g.1 g.2.1 g.2.2/\WQ W r
theorem St.of{w0 W:World}{bs:AD}{gs:BN}(hb:Below w0.heap.size w0 W)(hf:Go.Proofs.YtikajapjkdloaaaGreatDoor.facts W bs)(hl:low w0.heap.size bs)(hr:WQ W gs):St w0 W bs gs:=by
 refine⟨hb,?_,?_,?_⟩
 ·clear hr
  induction bs with
  |nil=>intro x hx;cases hx
  |cons y r ih=>
   intro x hx
   obtain⟨k1,k2,k3,k4,k5⟩:=hf
   rcases List.mem_cons.1 hx with rfl|hx
   ·exact⟨hl.1,k1,k3,λi v hv=>by have:=IK k4 i v hv;rwa[Nat.zero_add]at this⟩
   exact ih k5 hl.2 x hx
 ·clear hr hl
  induction bs with
  |nil=>exact List.nodup_nil
  |cons y r ih=>
   obtain⟨k1,k2,k3,k4,k5⟩:=hf
   refine List.nodup_cons.2 ⟨λhm=> ?_,ih k5⟩
   obtain⟨z,hz,e⟩:=List.mem_map.1 hm
   exact MD k2 z hz e.symm
 clear hf hl
 induction gs with
 |nil=>intro x hx;cases hx
 |cons y r ih=>
  intro x hx
  rcases List.mem_cons.1 hx with rfl|hx
  ·exact hr.1
  exact ih hr.2 x hx
theorem RB.put{W:World}{A:Option Addr}{c:Nat}{z:Int}(h:RB W A c z){b0 o:Nat}(hv:(W.cell? ⟨b0,0,none⟩).any CI=true)(u:Value):RB (W.setCell ⟨b0,o,none⟩ u) A c z:=
 ⟨h.1,h.2.1,h.2.2.1,λhn=>by
  obtain⟨b,e,hlt,hc⟩:=h.2.2.2 hn
  have hne:b≠b0:=by
   rintro rfl
   have:=hc 0 hn
   rw[this]at hv
   simp[CI]at hv
  exact⟨b,e,by simpa[World.setCell]using hlt,λj hj=>Eq.trans (World.cell?_setCell_other _ _ _ _ (λk=>hne (congrArg Addr.block k).symm)) (hc j hj)⟩⟩
theorem RB.lay{W:World}{A:Option Addr}{c:Nat}{z:Int}(h:RB W A c z)(o:Obj):RB (W.alloc o) A c z:=RS.alloc h o
end
end Go.Proofs.YtikajapjkdloaaaGreatDoor
