/- Walks of the layer 'wide', second part: what reads the package's 'none'. -/
import Derived.Lib.Mul64
import Derived.Deep.RegionHeld3
import Derived.Test.YtikajapjkdloaaaGreatDoor903
import Derived.Test.YtikajapjkdloaaaGreatDoor904
namespace Go.Proofs.YtikajapjkdloaaaGreatDoor
set_option linter.unusedVariables false
set_option linter.unusedSimpArgs false
section
set_option maxRecDepth 1000000
set_option maxHeartbeats 8000000
open Go.RowKit
attribute [local go_sem] CE CA CF CG B_ CB CD CC Be Bc Ba
theorem DS{g n:Nat}(h:g<n):(∀k,k<=g-> ¬(k=n))/\(∀k,k<=g-> ¬(n=k))/\(∀k,k<=g->k<n):=⟨λk hk e=>by omega,λk hk e=>by omega,λk hk=>by omega⟩
def GN(w:World):Prop:=w.cell? ⟨1,0,none⟩=some (.int .i64 0)/\w.cell? ⟨1,1,none⟩=some (.int .u64 0)
theorem GN.below{w w':World}(h:GN w)(hb:Below w.heap.size w w'):GN w':=by
 have hlt:=World.block_lt_of_cell? w _ h.1
 exact⟨((Bz hb).1 _ _ hlt).trans h.1,((Bz hb).1 _ _ hlt).trans h.2⟩
theorem KA(a b:Int)(w:World)(R:Ending->World->Prop)(hG:St w w [] [])(hE:Ex w [(1,[.int .i64 0,.int .u64 0])])
 (h: ∀r1:Nat,∀r2:Nat,∀r3:Nat,r1=r1/\r2=r2/\CallV Tryz.prog w [(r1,[.int .i64 (AW a),.int .u64 (AY a)]),(r2,[.int .i64 (AW b),.int .u64 (AY b)]),(r3,[.int .i64 0,.int .u64 0])] [] 170 #[.agg #[.int .i64 (AW a),.int .u64 (AY a)],.agg #[.int .i64 (AW b),.int .u64 (AY b)]] (.agg #[.int .i64 (AW (Aj (a+b))),.int .u64 (AY (Aj (a+b)))])/\(∀r4:Nat,(r4=r4/\(r4=r4/\(True)))/\r1=r1/\r2=r2/\((((decide ((AW a)<0))==(decide ((AW b)<0)))=true->r4=r4/\r1=r1/\(((!((decide ((AW (Aj (a+b)))<0))==(decide ((AW a)<0))))=true->1=1/\(r3=r3/\(r3=r3/\(True)))/\(r3=r3/\(True))/\(Bh R w [(r1,[.int .i64 (AW a),.int .u64 (AY a)]),(r2,[.int .i64 (AW b),.int .u64 (AY b)]),(r3,[.int .i64 0,.int .u64 0]),(r4,[.int .i64 (AW (Aj (a+b))),.int .u64 (AY (Aj (a+b)))])] [] (.tuple #[.agg #[.int .i64 0,.int .u64 0],.int .i64 3])))/\((!((decide ((AW (Aj (a+b)))<0))==(decide ((AW a)<0))))=false->r4=r4/\(r3=r3/\(r3=r3/\(True)))/\(r3=r3/\(True))/\(Bh R w [(r1,[.int .i64 (AW a),.int .u64 (AY a)]),(r2,[.int .i64 (AW b),.int .u64 (AY b)]),(r3,[.int .i64 (AW (Aj (a+b))),.int .u64 (AY (Aj (a+b)))]),(r4,[.int .i64 (AW (Aj (a+b))),.int .u64 (AY (Aj (a+b)))])] [] (.tuple #[.agg #[.int .i64 (AW (Aj (a+b))),.int .u64 (AY (Aj (a+b)))],.int .i64 0])))))/\(((decide ((AW a)<0))==(decide ((AW b)<0)))=false->r4=r4/\(r3=r3/\(r3=r3/\(True)))/\(r3=r3/\(True))/\(Bh R w [(r1,[.int .i64 (AW a),.int .u64 (AY a)]),(r2,[.int .i64 (AW b),.int .u64 (AY b)]),(r3,[.int .i64 (AW (Aj (a+b))),.int .u64 (AY (Aj (a+b)))]),(r4,[.int .i64 (AW (Aj (a+b))),.int .u64 (AY (Aj (a+b)))])] [] (.tuple #[.agg #[.int .i64 (AW (Aj (a+b))),.int .u64 (AY (Aj (a+b)))],.int .i64 0])))))):Calls Tryz.prog 193 #[.agg #[.int .i64 (AW a),.int .u64 (AY a)],.agg #[.int .i64 (AW b),.int .u64 (AY b)]] w R:=
 B2 (f:=193) (es:=[(1,[.int .i64 0,.int .u64 0])]) (c:=Tryz.f193.body.getD .skip) (tmps:=#[.agg #[.int .i64 (AW a),.int .u64 (AY a)],.agg #[.int .i64 (AW b),.int .u64 (AY b)],undef,undef,undef,undef,undef,undef,undef,undef,undef,undef,undef,undef,undef,undef,undef,undef,undef,undef,undef,undef,undef,undef,undef,undef,undef,undef])
  (.s [.c,.c] (.new (λr1=>.new (λr2=>.new (λr3=>.s [.v,.c,.c,.c,.own 0,.own 1,.call (.agg #[.int .i64 (AW (Aj (a+b))),.int .u64 (AY (Aj (a+b)))])] (.new (λr4=>.s [.put 3,.c,.c,.c,.c,.v,.own 0,.v,.v,.own 1,.v,.v,.v] (.split 17 (.s [.v,.own 3,.v,.v,.own 0,.v,.v,.v,.c] (.split 25 (.s [.c,.c,.c,.ext 0,.put 2,.v,.c] (.ret [2])) (.s [.c,.c,.c,.c,.own 3,.put 2,.v,.c] (.ret [2])))) (.s [.u,.u,.u,.u,.u,.u,.u,.v,.c,.c,.c,.c,.c,.own 3,.put 2,.v,.c] (.ret [2]))))))))))
  el hG hE Tryz.func193 el el (Eq.mpr el h)
theorem Fp(a b:Int)(ha:AS a)(hb:AS b)(w:World)(hg:GN w):Calls Tryz.prog 193 #[.agg #[.int .i64 (AW a),.int .u64 (AY a)],.agg #[.int .i64 (AW b),.int .u64 (AY b)]] w (λe w'=>e=.returned (.tuple #[.agg #[.int .i64 (AW (JN (a+b))),.int .u64 (AY (JN (a+b)))],.int .i64 (Ku (a+b))])/\Below w.heap.size w w'):=by
 refine KA a b w _ (St.refl w) (by exact Ex.cons (Vi (by exact⟨hg.1,hg.2,trivial⟩)) (Ex.nil)) ?_
 intro r1
 intro r2
 intro r3
 refine⟨rfl,rfl,(CallV.be λW hS=>DU a b W),?_⟩
 intro r4
 refine⟨⟨rfl,rfl,trivial⟩,rfl,rfl,?_⟩
 refine⟨?_,?_⟩
 ·intro h5
  have h5p:(decide ((AW a)<0))=(decide ((AW b)<0)):=by simpa using h5
  refine⟨rfl,rfl,?_⟩
  refine⟨?_,?_⟩
  ·intro h60
   have h6:((decide ((AW (Aj (a+b)))<0))==(decide ((AW a)<0)))=false:=by simpa using h60
   have h6p: ¬((decide ((AW (Aj (a+b)))<0))=(decide ((AW a)<0))):=by simpa using h6
   refine⟨rfl,⟨rfl,rfl,trivial⟩,⟨rfl,trivial⟩,?_⟩
   have F:=Pp ha hb (by simp only[h5,h6,bne,Bool.false_and,Bool.and_false,Bool.not_true,Bool.not_false,Bool.and_self,Bool.true_and,Bool.and_true,Bool.or_self,Bool.or_true,Bool.or_false,Bool.true_or,Bool.false_or])
   exactλW hS=>⟨by rw[F.1,F.2];rfl,hS.bl⟩
  intro h70
  have h7:((decide ((AW (Aj (a+b)))<0))==(decide ((AW a)<0)))=true:=by simpa using h70
  have h7p:(decide ((AW (Aj (a+b)))<0))=(decide ((AW a)<0)):=by simpa using h7
  refine⟨rfl,⟨rfl,rfl,trivial⟩,⟨rfl,trivial⟩,?_⟩
  have F:=MO ha hb (by simp only[h5,h7,bne,Bool.false_and,Bool.and_false,Bool.not_true,Bool.not_false,Bool.and_self,Bool.true_and,Bool.and_true,Bool.or_self,Bool.or_true,Bool.or_false,Bool.true_or,Bool.false_or])
  exactλW hS=>⟨by rw[F.1,F.2],hS.bl⟩
 intro h8
 have h8p: ¬((decide ((AW a)<0))=(decide ((AW b)<0))):=by simpa using h8
 refine⟨rfl,⟨rfl,rfl,trivial⟩,⟨rfl,trivial⟩,?_⟩
 have F:=MO ha hb (by simp only[h8,bne,Bool.false_and,Bool.and_false,Bool.not_true,Bool.not_false,Bool.and_self,Bool.true_and,Bool.and_true,Bool.or_self,Bool.or_true,Bool.or_false,Bool.true_or,Bool.false_or])
 exactλW hS=>⟨by rw[F.1,F.2],hS.bl⟩
end
section
open Go.RowKit
attribute [local go_sem] CE CA CF CG B_ CB CD CC Be Bc Ba
namespace M64
theorem maskN(a:Nat)(ha:a<18446744073709551616):bits .and .u64 (a:Int) 4294967295=((a%4294967296:Nat):Int):=by
 have h:=bits_and_u64_nat a 4294967295 ha en
 have e:a&&&4294967295=a%4294967296:=Nat.and_two_pow_sub_one_eq_mod a 32
 rw[e]at h
 exact h
theorem divN(a:Nat):(a:Int)/4294967296=((a/4294967296:Nat):Int):=by omega
theorem mulN(a b:Nat):(a:Int)*(b:Int)=((a*b:Nat):Int):=(Int.natCast_mul a b).symm
theorem addN(a b:Nat):(a:Int)+(b:Int)=((a+b:Nat):Int):=(Int.natCast_add a b).symm
theorem wrapN(a:Nat)(ha:a<18446744073709551616):IntKind.u64.wrap (a:Int)=(a:Int):=by rw[IntKind.wrap_u64];omega
theorem wrapM(a:Nat):IntKind.u64.wrap (a:Int)=((a%18446744073709551616:Nat):Int):=by rw[IntKind.wrap_u64];omega
end M64
set_option maxHeartbeats 1000000 in
theorem JT(x y:Nat)(hx:x<18446744073709551616)(hy:y<18446744073709551616)(w:World):
 Calls Tryz.prog 194 #[.int .u64 x,.int .u64 y] w λe w'=>e=.returned (.tuple #[.int .u64 ((x*y/18446744073709551616:Nat):Int),.int .u64 ((x*y%18446744073709551616:Nat):Int)])/\w=w':=by
 obtain⟨bd,bt,bw,hhi⟩:=Lib.mul64_hi x y hx hy
 have ba:=Lib.half_mul_le (a:=x/4294967296) (b:=y/4294967296) en en
 have bb:=Lib.half_mul_le (a:=x/4294967296) (b:=y%4294967296) en en
 have bc:=Lib.half_mul_le (a:=x%4294967296) (b:=y/4294967296) en en
 have ba':x/4294967296*(y/4294967296)<18446744073709551616:=by omega
 have bb':x/4294967296*(y%4294967296)<18446744073709551616:=by omega
 have bc':x%4294967296*(y/4294967296)<18446744073709551616:=by omega
 have bh1:x/4294967296*(y/4294967296)+(x/4294967296*(y%4294967296)+x%4294967296*(y%4294967296)/4294967296)/4294967296<18446744073709551616:=by omega
 have bh:x/4294967296*(y/4294967296)+(x/4294967296*(y%4294967296)+x%4294967296*(y%4294967296)/4294967296)/4294967296+((x/4294967296*(y%4294967296)+x%4294967296*(y%4294967296)/4294967296)%4294967296+x%4294967296*(y/4294967296))/4294967296<18446744073709551616:=by omega
 go_enter Tryz.func194,Tryz.ntmps194
 go_wp2
 simp only[M64.maskN x hx,M64.maskN y hy,M64.divN,M64.mulN,M64.addN,M64.wrapN _ bd,M64.wrapN _ bb',M64.wrapN _ bt,M64.maskN _ bt,M64.wrapN _ bc',M64.wrapN _ bw,M64.wrapN _ ba',M64.wrapN _ bh1,M64.wrapN _ bh,M64.wrapM (x*y)]
 rw[hhi]
 go_ret2
 exact⟨rfl,rfl⟩
theorem UE(x y:Int)(hx:0<=x/\x<=9223372036854775808)(hy:0<=y/\y<=9223372036854775808)(w:World):
 Calls Tryz.prog 194 #[.int .u64 x,.int .u64 y] w λe w'=>e=.returned (.tuple #[.int .u64 (x*y/18446744073709551616),.int .u64 (AY (x*y))])/\w=w':=by
 obtain⟨x,rfl⟩:=Int.eq_ofNat_of_zero_le hx.1
 obtain⟨y,rfl⟩:=Int.eq_ofNat_of_zero_le hy.1
 refine(JT x y en en w).mono ?_
 rintro e w' ⟨rfl,rfl⟩
 refine⟨?_,rfl⟩
 unfold AY
 congr 1
theorem QM(p:Int)(hp:AS (-p))(w:World):
 Calls Tryz.prog 196 #[.agg #[.int .i64 0,.int .u64 0],.agg #[.int .i64 (AW p),.int .u64 (AY p)]] w λe w'=>e=.returned (.agg #[.int .i64 (AW (-p)),.int .u64 (AY (-p))])/\Below w.heap.size w w':=by
 have h:=H7 0 p w
 rw[Int.zero_sub,Di hp,R6,Ry]at h
 exact h
set_option maxHeartbeats 1000000 in
theorem Ah(x y:Int)(hx:Ai x)(hy:Ai y)(w:World)(hg:GN w):
 Calls Tryz.prog 148 #[.int .i64 x,.int .i64 y] w λe w'=>e=.returned (.agg #[.int .i64 (AW (x*y)),.int .u64 (AY (x*y))])/\Below w.heap.size w w':=by
 have hlt:=World.block_lt_of_cell? w _ hg.1
 obtain⟨hlo,hlo',hlol⟩:=DS hlt
 obtain⟨g0,g1⟩:=hg
 have sx:=Dv hx
 have sy:=Dv hy
 have pb:=Oj hx hy
 cases d1:decide (x<0)
 all_goals cases d2:decide (y<0)
 all_goals first
  |(have E:=Lib.hid (P5 (x:=x) (y:=y) (by rw[d1,d2];rfl))
    go_enter Tryz.func148,Tryz.ntmps148
    go_wp2_with (first|(go_at_call 195;refine(Co _ (by first|exact hx|exact hy) _).mono ?_;rintro e w' ⟨rfl,rfl⟩)|(go_at_call 194;refine(UE _ _ sx sy _).mono ?_;rintro e w' ⟨rfl,rfl⟩))
    refine bodyPost_ret (v:=.agg #[.int .i64 (AW (x*y)),.int .u64 (AY (x*y))]) (by simp(maxDischargeDepth:=9) [results,Tryz.results148,go_sem, *];rw[E.out];exact⟨rfl,rfl⟩) rfl ⟨rfl,LC⟩)
  |(have E0:=O6 (x:=x) (y:=y) (by rw[d1,d2];rfl)
    have HP:AS (-((x.natAbs:Int)*y.natAbs)):=by have:=F5 hx hy;rw[<-E0,Int.zero_sub]at this;exact this
    rw[Int.zero_sub]at E0
    have E:=Lib.hid E0;clear E0
    go_enter Tryz.func148,Tryz.ntmps148
    go_wp2_with (first|(go_at_call 195;refine(Co _ (by first|exact hx|exact hy) _).mono ?_;rintro e w' ⟨rfl,rfl⟩)|(go_at_call 194;refine(UE _ _ sx sy _).mono ?_;rintro e w' ⟨rfl,rfl⟩)|(go_at_call 196;refine(QM (x.natAbs*y.natAbs) HP _).mono ?_;rintro e w1 ⟨rfl,hb1⟩;obtain⟨hc1,hf1⟩:=Bz hb1;have hz1_0:w.heap.size<w1.heap.size:=Nat.lt_of_lt_of_le ZB hb1.size;have hz1_1:w.heap.size+1<w1.heap.size:=Nat.lt_of_lt_of_le ZB hb1.size))
    refine bodyPost_ret (v:=.agg #[.int .i64 (AW (x*y)),.int .u64 (AY (x*y))]) (by simp only[results,Tryz.results148];go_simp;rw[E.out];exact⟨rfl,rfl⟩) rfl ⟨rfl,LC⟩)
end
section
open Go.RowKit
attribute [local go_sem] CE CA CF CG B_ CB CD CC Be Bc Ba
set_option maxRecDepth 100000 in
set_option maxHeartbeats 1000000 in
theorem Cn(a:Int)(w:World):
 Calls Tryz.prog 110 #[.agg #[.int .i64 (AW a),.int .u64 (AY a)]] w λe w'=>e=.returned (.tuple #[.int .i64 (Ae a),.int .i64 (CN a)])/\Below w.heap.size w w':=by
 by_cases h:Ai a
 ·simp only[Ae,CN,if_pos h]
  have e1:wrap64 (AY a)=a:=Qv h
  have e2:IntKind.i64.wrap (AY a)=a:=(IntWalk.i64_left _).trans e1
  go_enter Tryz.func110,Tryz.ntmps110
  go_wp2
  go_region_held3 (λw'=>w'.cell? ⟨w.heap.size,0,none⟩=some (.int .i64 (AW a))/\w'.cell? ⟨w.heap.size,1,none⟩=some (.int .u64 (AY a))) (first|(simp[go_sem];done)|(simp[go_sem, *];done))
   (first|(go_at_call 109;refine(Cg _ h _).mono ?_;rintro e w1 ⟨rfl,hb1⟩;obtain⟨hc1,hf1⟩:=Bz hb1;have hz1_0:w.heap.size<w1.heap.size:=Nat.lt_of_lt_of_le (by first|(simp;done)|(simp;omega)) hb1.size))
  go_wp2
  go_ret2
  exact⟨rfl,LC⟩
 simp only[Ae,CN,if_neg h]
 have n1:=beq_eq_false_iff_ne.2 (Nk h)
 have hm:=JL (AY a)
 obtain⟨m,em⟩: ∃m,m=wrap64 (AY a):=⟨_,rfl⟩
 rw[<-em]at n1 hm
 have e1:wrap64 (AY a)=m:=em.symm
 have e2:IntKind.i64.wrap (AY a)=m:=(IntWalk.i64_left _).trans e1
 clear em
 go_enter Tryz.func110,Tryz.ntmps110
 go_wp2
 go_region_held3 (λw'=>w'.cell? ⟨w.heap.size,0,none⟩=some (.int .i64 (AW a))/\w'.cell? ⟨w.heap.size,1,none⟩=some (.int .u64 (AY a))) (first|(simp[go_sem];done)|(simp[go_sem, *];done))
  (first|(go_at_call 109;refine(Cg _ hm _).mono ?_;rintro e w1 ⟨rfl,hb1⟩;obtain⟨hc1,hf1⟩:=Bz hb1;have hz1_0:w.heap.size<w1.heap.size:=Nat.lt_of_lt_of_le (by first|(simp;done)|(simp;omega)) hb1.size))
 go_wp2
 go_ret2
 exact⟨rfl,LC⟩
theorem Ga(x:Int)(w:World):
 Calls Tryz.prog 214 #[.int .i64 x] w λe w'=>e=.returned (.bool false)/\w=w':=by
 go_enter Tryz.func214,Tryz.ntmps214
 go_wp2
 go_ret
 exact⟨by simp,rfl⟩
set_option maxHeartbeats 1000000 in
theorem Ln(a b:Int)(w:World):
 Calls Tryz.prog 202 #[.int .i64 a,.int .i64 b] w λe w'=>e=.returned (.int .i64 (En a b))/\w=w':=by
 by_cases h1:a<b
 ·simp only[En,if_pos h1]
  go_enter Tryz.func202,Tryz.ntmps202
  go_wp2_with (go_at_call 214;refine(Ga _ _).mono ?_;rintro e w' ⟨rfl,rfl⟩)
  go_ret
  exact⟨rfl,rfl⟩
 by_cases h2:b<a
 ·have h3: ¬a=b:=by omega
  simp only[En,if_neg h1,if_neg h3]
  clear h3
  go_enter Tryz.func202,Tryz.ntmps202
  go_wp2_with (go_at_call 214;refine(Ga _ _).mono ?_;rintro e w' ⟨rfl,rfl⟩)
  go_ret
  exact⟨rfl,rfl⟩
 obtain rfl:a=b:=by omega
 have e:En a a=0:=by simp[En]
 rw[e]
 go_enter Tryz.func202,Tryz.ntmps202
 go_wp2_with (go_at_call 214;refine(Ga _ _).mono ?_;rintro e w' ⟨rfl,rfl⟩)
 go_ret
 exact⟨rfl,rfl⟩
theorem Ge(x:Int)(w:World):
 Calls Tryz.prog 215 #[.int .u64 x] w λe w'=>e=.returned (.bool false)/\w=w':=by
 go_enter Tryz.func215,Tryz.ntmps215
 go_wp2
 go_ret
 exact⟨by simp,rfl⟩
set_option maxHeartbeats 1000000 in
theorem LR(a b:Int)(w:World):
 Calls Tryz.prog 203 #[.int .u64 a,.int .u64 b] w λe w'=>e=.returned (.int .i64 (En a b))/\w=w':=by
 by_cases h1:a<b
 ·simp only[En,if_pos h1]
  go_enter Tryz.func203,Tryz.ntmps203
  go_wp2_with (go_at_call 215;refine(Ge _ _).mono ?_;rintro e w' ⟨rfl,rfl⟩)
  go_ret
  exact⟨rfl,rfl⟩
 by_cases h2:b<a
 ·have h3: ¬a=b:=by omega
  simp only[En,if_neg h1,if_neg h3]
  clear h3
  go_enter Tryz.func203,Tryz.ntmps203
  go_wp2_with (go_at_call 215;refine(Ge _ _).mono ?_;rintro e w' ⟨rfl,rfl⟩)
  go_ret
  exact⟨rfl,rfl⟩
 obtain rfl:a=b:=by omega
 have e:En a a=0:=by simp[En]
 rw[e]
 go_enter Tryz.func203,Tryz.ntmps203
 go_wp2_with (go_at_call 215;refine(Ge _ _).mono ?_;rintro e w' ⟨rfl,rfl⟩)
 go_ret
 exact⟨rfl,rfl⟩
def WB(x y:Int):Int:=if x=0 then y else x
set_option maxHeartbeats 1000000 in
theorem U3(x y:Int)(b:Nat)(w:World)(c0:w.cell? ⟨b,0,none⟩=some (.int .i64 x))(c1:w.cell? ⟨b,1,none⟩=some (.int .i64 y)):
 Calls Tryz.prog 201 #[.slice (some ⟨b,0,none⟩) 2 2] w λe w'=>e=.returned (.int .i64 (WB x y))/\w=w':=by
 unfold WB
 by_cases h1:x=0
 ·rw[if_pos h1]
  subst h1
  by_cases h2:y=0
  ·subst h2
   go_enter Tryz.func201,Tryz.ntmps201
   go_wp2
   refine wp_loop_rounds 3 ?_
   rw[rounds_succ]
   go_wp2
   rw[rounds_succ]
   go_wp2
   rw[rounds_succ]
   go_wp2
   go_ret
   exact⟨rfl,rfl⟩
  go_enter Tryz.func201,Tryz.ntmps201
  go_wp2
  refine wp_loop_rounds 3 ?_
  rw[rounds_succ]
  go_wp2
  rw[rounds_succ]
  go_wp2
  go_ret
  exact⟨rfl,rfl⟩
 rw[if_neg h1]
 go_enter Tryz.func201,Tryz.ntmps201
 go_wp2
 refine wp_loop_rounds 3 ?_
 rw[rounds_succ]
 go_wp2
 go_ret
 exact⟨rfl,rfl⟩
theorem Rw(a b:Int):WB (En (AW a) (AW b)) (En (AY a) (AY b))=En a b:=by
 unfold WB En AW AY
 repeat' split
 all_goals omega
set_option maxRecDepth 100000 in
set_option maxHeartbeats 1000000 in
theorem Qf(a b:Int)(w:World):
 Calls Tryz.prog 157 #[.agg #[.int .i64 (AW a),.int .u64 (AY a)],.agg #[.int .i64 (AW b),.int .u64 (AY b)]] w λe w'=>e=.returned (.int .i64 (En a b))/\Below w.heap.size w w':=by
 have E:=Lib.hid (Rw a b)
 go_enter Tryz.func157,Tryz.ntmps157
 go_wp2
 go_region_held3 (λw'=>w'.cell? ⟨w.heap.size,0,none⟩=some (.int .i64 (AW a))/\w'.cell? ⟨w.heap.size,1,none⟩=some (.int .u64 (AY a))/\w'.cell? ⟨w.heap.size+1,0,none⟩=some (.int .i64 (AW b))/\w'.cell? ⟨w.heap.size+1,1,none⟩=some (.int .u64 (AY b))) (first|(simp[go_sem];done)|(simp[go_sem, *];done))
  (first
   |(go_at_call 202;refine(Ln _ _ _).mono ?_;rintro e w' ⟨rfl,rfl⟩)
   |(go_at_call 203;refine(LR _ _ _).mono ?_;rintro e w' ⟨rfl,rfl⟩)
   |(go_at_call 201;refine(U3 (En (AW a) (AW b)) (En (AY a) (AY b)) _ _ ?_ ?_).mono ?_;exact(GF _ _ _ _ _ (by simp)).trans rfl;exact(GF _ _ _ _ _ (by simp)).trans rfl;rintro e w' ⟨rfl,rfl⟩))
 go_wp2
 go_ret
 exact⟨Gv E.out,LC⟩
end
section
open Go.RowKit
attribute [local go_sem] CE CA CF CG B_ CB CD CC Be Bc Ba
def Blk(w:World)(b:Nat)(h l:Int):Prop:=
 w.cell? ⟨b,0,none⟩=some (.int .i64 h)/\w.cell? ⟨b,1,none⟩=some (.int .u64 l)/\w.frozen? ⟨b,0,none⟩=false/\w.frozen? ⟨b,1,none⟩=false
theorem Blk.below{w w1:World}{b:Nat}{h l:Int}(hb:Below w.heap.size w w1)(hlt:b<w.heap.size)(k:Blk w b h l):Blk w1 b h l:=
 ⟨((Bz hb).1 _ _ hlt).trans k.1,((Bz hb).1 _ _ hlt).trans k.2.1,((Bz hb).2 _ _ hlt).trans k.2.2.1,((Bz hb).2 _ _ hlt).trans k.2.2.2⟩
set_option maxRecDepth 100000 in
set_option maxHeartbeats 2000000 in
theorem Hf(a:Int)(n:Nat)(hn:n<=127)(ha:AS a)(w:World)(hg:GN w):
 Calls Tryz.prog 156 #[.agg #[.int .i64 (AW a),.int .u64 (AY a)],.int .i64 n] w λe w'=>e=.returned (.tuple #[.agg #[.int .i64 (AW (JN (up a n))),.int .u64 (AY (JN (up a n)))],.int .i64 (Ku (up a n))])/\Below w.heap.size w w':=by
 have HG:=Lib.hid hg
 have hlt:=World.block_lt_of_cell? w _ hg.1
 obtain⟨hlo,hlo',hlol⟩:=DS hlt
 obtain⟨g0,g1⟩:=hg
 go_enter Tryz.func156,Tryz.ntmps156
 go_wp2
 go_loopw [15] (λv wr=> ∃k:Nat,k<=n/\v=.int .i64 k/\AS (up a k)/\Blk wr w.heap.size (AW (up a k)) (AY (up a k))/\Blk wr (w.heap.size+1) 0 0/\Hid (Below w.heap.size w wr)/\w.heap.size+1<wr.heap.size) (λv _=>n-(intOf v).toNat)
 case atStart=>
  refine⟨0,by omega,rfl,by rw[OP];exact ha,?_,?_,LC,by simp⟩
  ·rw[OP];simp[Blk,go_sem]
  simp[Blk,go_sem]
 case round=>
  obtain⟨k,hk,rfl,hw,⟨b0,b1,f0,f1⟩,⟨r0,r1,s0,s1⟩,HB,hz⟩:=hrel
  have hz0:w.heap.size<wr.heap.size:=by omega
  have hgr:=HG.out.below HB.out
  have hlr:1<wr.heap.size:=World.block_lt_of_cell? wr _ hgr.1
  by_cases hlt2:k<n
  ·have ES:=Lib.hid (Of a k)
   by_cases hs:AS (up a k+up a k)
   ·have F:=C9 hs
    have F1:=F.1
    have F2:=F.2
    clear F
    go_wp2_with (go_at_call 193;refine(Fp (up a k) (up a k) hw hw _ hgr).mono ?_;rintro e w1 ⟨rfl,hb1⟩;obtain⟨hc1,hf1⟩:=Bz hb1;have hz1:w.heap.size<w1.heap.size:=Nat.lt_of_lt_of_le hz0 hb1.size;have hz2:w.heap.size+1<w1.heap.size:=Nat.lt_of_lt_of_le hz hb1.size)
    go_roundw
    case rel=>
     have HB':=HB.out
     refine⟨k+1,by omega,by go_num,by rw[ES.out];exact hs,?_,?_,LC,by simp;omega⟩
     ·rw[ES.out];simp[Blk,go_sem, *]
     simp[Blk,go_sem, *]
    case measure=>simp[intOf];omega
   have F:=Jg hs
   have F1:=F.1
   have F2:=F.2
   have hno:=Jg (N5 (k:=k+1) (n:=n) (by rw[ES.out];exact hs) en)
   obtain⟨g0,g1⟩:=hgr
   have hgr:GN wr:=⟨g0,g1⟩
   have HGr:=Lib.hid hgr
   clear F hgr
   go_wp2_with (go_at_call 193;refine(Fp (up a k) (up a k) hw hw _ HGr.out).mono ?_;rintro e w1 ⟨rfl,hb1⟩;obtain⟨hc1,hf1⟩:=Bz hb1;have hz1:w.heap.size<w1.heap.size:=Nat.lt_of_lt_of_le hz0 hb1.size;have hz2:w.heap.size+1<w1.heap.size:=Nat.lt_of_lt_of_le hz hb1.size;have hl1:1<w1.heap.size:=Nat.lt_of_lt_of_le hlr hb1.size)
   have HB':=HB.out
   refine bodyPost_ret (v:=.tuple #[.agg #[.int .i64 0,.int .u64 0],.int .i64 3]) (by simp(maxDischargeDepth:=9) [results,Tryz.results156,go_sem, *]) rfl ⟨by rw[hno.1,hno.2];rfl,LC⟩
  obtain rfl:k=n:=by omega
  have hno:=C9 hw
  have HB':=HB.out
  go_wp2
  refine bodyPost_ret (v:=.tuple #[.agg #[.int .i64 (AW (up a k)),.int .u64 (AY (up a k))],.int .i64 0]) (by simp(maxDischargeDepth:=9) [results,Tryz.results156,go_sem, *]) rfl ⟨by rw[hno.1,hno.2],LC⟩
end
section
set_option maxRecDepth 1000000
set_option maxHeartbeats 8000000
open Go.RowKit
set_option maxRecDepth 1000000 in
theorem Jb(a:Int)(w:World)(R:Ending->World->Prop)(hG:St w w [] [])(hE:Ex w [])
 (h: ∀r1:Nat,∀r2:Nat,r1=r1/\Value.int .i64 (Int.fdiv (AW a) (2^1))=.int .i64 ((AW a)/2)/\r1=r1/\Value.int .u64 (Int.fdiv (AY a) (2^1))=.int .u64 ((AY a)/2)/\r1=r1/\Value.int .u64 (bits .or .u64 ((AY a)/2) (IntKind.u64.wrap ((IntKind.u64.wrap ((AW a)))*2^63)))=.int .u64 (AY (a/2))/\r1=r1/\Value.int .u64 (bits .and .u64 (AY a) 1)=.int .u64 (a%2)/\(r2=r2/\(r2=r2/\(True)))/\(r2=r2/\(True))/\(Bh R w [(r1,[.int .i64 (AW a),.int .u64 (AY a)]),(r2,[.int .i64 ((AW a)/2),.int .u64 (AY (a/2))])] [] (.tuple #[.agg #[.int .i64 ((AW a)/2),.int .u64 (AY (a/2))],.int .u64 (a%2)]))):Calls Tryz.prog 169 #[.agg #[.int .i64 (AW a),.int .u64 (AY a)]] w R:=
 B2 (f:=169) (es:=[]) (c:=Tryz.f169.body.getD .skip) (tmps:=#[.agg #[.int .i64 (AW a),.int .u64 (AY a)],undef,undef,undef,undef,undef,undef,undef,undef,undef,undef,undef,undef,undef,undef,undef,undef,undef,undef])
  (.s [.c,.c] (.new (λr1=>.new (λr2=>.s [.v,.c,.c,.d [1],.at 0 false,.v,.at 1 false,.own 0,.at 2 false,.v,.setv 6 (.int .i64 ((AW a)/2)),.at 3 false,.v,.at 4 false,.own 0,.at 5 false,.v,.setv 9 (.int .u64 ((AY a)/2)),.at 6 false,.v,.at 7 false,.own 0,.at 8 false,.v,.at 9 false,.v,.at 10 false,.v,.setv 14 (.int .u64 (AY (a/2))),.at 11 false,.v,.at 12 false,.v,.at 13 false,.own 0,.at 14 false,.v,.setv 18 (.int .u64 (a%2)),.at 15 true,.put 1,.at 16 false,.v,.c] (.ret [1])))))
  el hG hE Tryz.func169 el el (Eq.mpr el h)
theorem QE(a:Int)(w:World):Calls Tryz.prog 169 #[.agg #[.int .i64 (AW a),.int .u64 (AY a)]] w (λe w'=>e=.returned (.tuple #[.agg #[.int .i64 (AW (a/2)),.int .u64 (AY (a/2))],.int .u64 (a%2)])/\Below w.heap.size w w'):=by
 refine Jb a w _ (St.refl w) Ex.nil ?_
 intro r1
 intro r2
 refine⟨rfl,congrArg (Value.int .i64) (RN _ 1),rfl,congrArg (Value.int .u64) (RN _ 1),rfl,congrArg (Value.int .u64) (by exact Tf a),rfl,congrArg (Value.int .u64) (Pi a),⟨rfl,rfl,trivial⟩,⟨rfl,trivial⟩,?_⟩
 exactλW hS=>⟨by rw[<-SY],hS.bl⟩
theorem Ub(z:Int):bits .and .u64 (AY z) 1=z%2:=(La _ (Df _).1 (Df _).2).trans (by unfold AY;omega)
theorem Oi{a:Int}{k:Nat}(h1:Ci a k=1)(h:CQ a k=1∨dn a k%2=1):Al a (AI k)=dn a k+1:=by rw[Hm,if_pos ⟨h1,h⟩]
theorem Qa{a:Int}{k:Nat}(h: ¬Ci a k=1):Al a (AI k)=dn a k:=by rw[Hm,if_neg (λq=>h q.1)]
theorem SJ{a:Int}{k:Nat}(h: ¬CQ a k=1)(h2: ¬dn a k%2=1):Al a (AI k)=dn a k:=by rw[Hm,if_neg (λq=>q.2.elim h h2)]
set_option maxRecDepth 1000000 in
theorem GC(a:Int)(n:Nat)(w:World)(R:Ending->World->Prop)(hG:St w w [] [])(hE:Ex w [])
 (h: ∀r1:Nat,∀r2:Nat,Value.bool (decide (((n:Nat):Int)<0))=.bool false/\Value.bool (decide (((n:Nat):Int)>127))=.bool false/\(.int .i64 (AW a):Value)=.int .i64 (AW (dn a 0))/\(.int .u64 (AY a):Value)=.int .u64 (AY (dn a 0))/\((∃(k':Nat)(ξ':Nat->Int)(u':Nat->Value)(α':Nat->Option Addr×Nat),(k'<=n)/\(#[.agg #[.int .i64 (AW a),.int .u64 (AY a)],.int .i64 ((n:Nat):Int),.pointer (some ⟨r1,0,none⟩),undef,.pointer (some ⟨r2,0,none⟩),.int .i64 0,.int .u64 0,.int .u64 0,.int .i64 ((n:Nat):Int),.bool (decide (((n:Nat):Int)<0)),.bool false,.int .i64 ((n:Nat):Int),.bool (decide (((n:Nat):Int)>127)),.bool false,undef,.int .i64 ((n:Nat):Int),.int .i64 0,undef,undef,undef,undef,undef,undef,undef,undef,undef,undef,undef,undef,undef,undef,undef,undef,undef,undef,undef,undef,undef,undef,undef,undef,undef,undef]:Array Value)=#[.agg #[.int .i64 (AW a),.int .u64 (AY a)],.int .i64 ((n:Nat):Int),.pointer (some ⟨r1,0,none⟩),undef,.pointer (some ⟨r2,0,none⟩),.int .i64 0,.int .u64 (Ci a k'),.int .u64 (CQ a k'),.int .i64 ((n:Nat):Int),.bool (decide (((n:Nat):Int)<0)),.bool false,.int .i64 ((n:Nat):Int),.bool (decide (((n:Nat):Int)>127)),.bool false,undef,.int .i64 ((n:Nat):Int),.int .i64 ((k':Nat):Int),(u' 17),(u' 18),(u' 19),(u' 20),(u' 21),(u' 22),(u' 23),(u' 24),(u' 25),(u' 26),undef,undef,undef,undef,undef,undef,undef,undef,undef,undef,undef,undef,undef,undef,undef,undef]/\(∃t:AD,([(r1,[.int .i64 (AW (dn a 0)),.int .u64 (AY (dn a 0))]),(r2,[.int .i64 0,.int .u64 0])]:AD)=[(r1,[.int .i64 (AW (dn a k')),.int .u64 (AY (dn a k'))]),(r2,[.int .i64 0,.int .u64 0])]++t)/\([]:BN)⊆ [])/\(∀(k3:Nat)(X4:Nat->Int)(u5:Nat->Value)(α6:Nat->Option Addr×Nat),(k3<=n)->(((decide (((k3:Nat):Int)<((n:Nat):Int)))=true->Value.int .u64 (bits .or .u64 (CQ a k3) (Ci a k3))=.int .u64 (CQ a (k3+1))/\r1=r1/\CallV Tryz.prog w [(r1,[.int .i64 (AW (dn a k3)),.int .u64 (AY (dn a k3))]),(r2,[.int .i64 0,.int .u64 0])] [] 169 #[.agg #[.int .i64 (AW (dn a k3)),.int .u64 (AY (dn a k3))]] (.tuple #[.agg #[.int .i64 (AW ((dn a k3)/2)),.int .u64 (AY ((dn a k3)/2))],.int .u64 ((dn a k3)%2)])/\(r1=r1/\(r1=r1/\(True)))/\Value.int .i64 (IntKind.i64.wrap (((k3:Nat):Int)+1))=.int .i64 (((k3+1):Nat):Int)/\(.int .u64 ((dn a k3)%2):Value)=.int .u64 (Ci a (k3+1))/\(.int .i64 (AW ((dn a k3)/2)):Value)=.int .i64 (AW (dn a (k3+1)))/\(.int .u64 (AY ((dn a k3)/2)):Value)=.int .u64 (AY (dn a (k3+1)))/\((Ax 27 [false,true] [.code (Tryz.f108.body.getD .skip)])=(Ax 14 [false] [.code (Tryz.f108.body.getD .skip)])/\ ∃(k':Nat)(ξ':Nat->Int)(u':Nat->Value)(α':Nat->Option Addr×Nat),(k'<=n)/\(n-k')<(n-k3)/\(#[.agg #[.int .i64 (AW a),.int .u64 (AY a)],.int .i64 ((n:Nat):Int),.pointer (some ⟨r1,0,none⟩),undef,.pointer (some ⟨r2,0,none⟩),.int .i64 0,.int .u64 (Ci a (k3+1)),.int .u64 (CQ a (k3+1)),.int .i64 ((n:Nat):Int),.bool (decide (((n:Nat):Int)<0)),.bool false,.int .i64 ((n:Nat):Int),.bool (decide (((n:Nat):Int)>127)),.bool false,undef,.int .i64 ((n:Nat):Int),.int .i64 (((k3+1):Nat):Int),.bool true,.int .u64 (CQ a k3),.int .u64 (Ci a k3),.int .u64 (CQ a (k3+1)),.tuple #[.agg #[.int .i64 (AW ((dn a k3)/2)),.int .u64 (AY ((dn a k3)/2))],.int .u64 ((dn a k3)%2)],.agg #[.int .i64 (AW (dn a k3)),.int .u64 (AY (dn a k3))],.tuple #[.agg #[.int .i64 (AW ((dn a k3)/2)),.int .u64 (AY ((dn a k3)/2))],.int .u64 ((dn a k3)%2)],.agg #[.int .i64 (AW ((dn a k3)/2)),.int .u64 (AY ((dn a k3)/2))],.int .u64 ((dn a k3)%2),.int .i64 (((k3+1):Nat):Int),undef,undef,undef,undef,undef,undef,undef,undef,undef,undef,undef,undef,undef,undef,undef,undef]:Array Value)=#[.agg #[.int .i64 (AW a),.int .u64 (AY a)],.int .i64 ((n:Nat):Int),.pointer (some ⟨r1,0,none⟩),undef,.pointer (some ⟨r2,0,none⟩),.int .i64 0,.int .u64 (Ci a k'),.int .u64 (CQ a k'),.int .i64 ((n:Nat):Int),.bool (decide (((n:Nat):Int)<0)),.bool false,.int .i64 ((n:Nat):Int),.bool (decide (((n:Nat):Int)>127)),.bool false,undef,.int .i64 ((n:Nat):Int),.int .i64 ((k':Nat):Int),(u' 17),(u' 18),(u' 19),(u' 20),(u' 21),(u' 22),(u' 23),(u' 24),(u' 25),(u' 26),undef,undef,undef,undef,undef,undef,undef,undef,undef,undef,undef,undef,undef,undef,undef,undef]/\(∃t:AD,([(r1,[.int .i64 (AW (dn a (k3+1))),.int .u64 (AY (dn a (k3+1)))]),(r2,[.int .i64 0,.int .u64 0])]:AD)=[(r1,[.int .i64 (AW (dn a k')),.int .u64 (AY (dn a k'))]),(r2,[.int .i64 0,.int .u64 0])]++t)/\([]:BN)⊆ []))/\((decide (((k3:Nat):Int)<((n:Nat):Int)))=false->(((Ci a k3)==1)=true->(((CQ a k3)==1)=true->r1=r1/\CallV Tryz.prog w [(r1,[.int .i64 (AW (dn a k3)),.int .u64 (AY (dn a k3))]),(r2,[.int .i64 0,.int .u64 0])] [] 109 #[.int .i64 1] (.agg #[.int .i64 (AW 1),.int .u64 (AY 1)])/\CallV Tryz.prog w [(r1,[.int .i64 (AW (dn a k3)),.int .u64 (AY (dn a k3))]),(r2,[.int .i64 0,.int .u64 0])] [] 170 #[.agg #[.int .i64 (AW (dn a k3)),.int .u64 (AY (dn a k3))],.agg #[.int .i64 (AW 1),.int .u64 (AY 1)]] (.agg #[.int .i64 (AW (Aj (dn a k3+1))),.int .u64 (AY (Aj (dn a k3+1)))])/\(r1=r1/\(r1=r1/\(True)))/\r1=r1/\(r2=r2/\(r2=r2/\(True)))/\(r2=r2/\(True))/\(Bh R w [(r1,[.int .i64 (AW (Aj (dn a k3+1))),.int .u64 (AY (Aj (dn a k3+1)))]),(r2,[.int .i64 (AW (Aj (dn a k3+1))),.int .u64 (AY (Aj (dn a k3+1)))])] [] (.tuple #[.agg #[.int .i64 (AW (Aj (dn a k3+1))),.int .u64 (AY (Aj (dn a k3+1)))],.int .i64 0])))/\(((CQ a k3)==1)=false->r1=r1/\Value.int .u64 (bits .and .u64 (AY (dn a k3)) 1)=.int .u64 (dn a k3%2)/\((((dn a k3%2)==1)=true->r1=r1/\CallV Tryz.prog w [(r1,[.int .i64 (AW (dn a k3)),.int .u64 (AY (dn a k3))]),(r2,[.int .i64 0,.int .u64 0])] [] 109 #[.int .i64 1] (.agg #[.int .i64 (AW 1),.int .u64 (AY 1)])/\CallV Tryz.prog w [(r1,[.int .i64 (AW (dn a k3)),.int .u64 (AY (dn a k3))]),(r2,[.int .i64 0,.int .u64 0])] [] 170 #[.agg #[.int .i64 (AW (dn a k3)),.int .u64 (AY (dn a k3))],.agg #[.int .i64 (AW 1),.int .u64 (AY 1)]] (.agg #[.int .i64 (AW (Aj (dn a k3+1))),.int .u64 (AY (Aj (dn a k3+1)))])/\(r1=r1/\(r1=r1/\(True)))/\r1=r1/\(r2=r2/\(r2=r2/\(True)))/\(r2=r2/\(True))/\(Bh R w [(r1,[.int .i64 (AW (Aj (dn a k3+1))),.int .u64 (AY (Aj (dn a k3+1)))]),(r2,[.int .i64 (AW (Aj (dn a k3+1))),.int .u64 (AY (Aj (dn a k3+1)))])] [] (.tuple #[.agg #[.int .i64 (AW (Aj (dn a k3+1))),.int .u64 (AY (Aj (dn a k3+1)))],.int .i64 0])))/\(((dn a k3%2)==1)=false->r1=r1/\(r2=r2/\(r2=r2/\(True)))/\(r2=r2/\(True))/\(Bh R w [(r1,[.int .i64 (AW (dn a k3)),.int .u64 (AY (dn a k3))]),(r2,[.int .i64 (AW (dn a k3)),.int .u64 (AY (dn a k3))])] [] (.tuple #[.agg #[.int .i64 (AW (dn a k3)),.int .u64 (AY (dn a k3))],.int .i64 0]))))))/\(((Ci a k3)==1)=false->r1=r1/\(r2=r2/\(r2=r2/\(True)))/\(r2=r2/\(True))/\(Bh R w [(r1,[.int .i64 (AW (dn a k3)),.int .u64 (AY (dn a k3))]),(r2,[.int .i64 (AW (dn a k3)),.int .u64 (AY (dn a k3))])] [] (.tuple #[.agg #[.int .i64 (AW (dn a k3)),.int .u64 (AY (dn a k3))],.int .i64 0])))))))):Calls Tryz.prog 108 #[.agg #[.int .i64 (AW a),.int .u64 (AY a)],.int .i64 ((n:Nat):Int)] w R:=
 B2 (f:=108) (es:=[]) (c:=Tryz.f108.body.getD .skip) (tmps:=#[.agg #[.int .i64 (AW a),.int .u64 (AY a)],.int .i64 ((n:Nat):Int),undef,undef,undef,undef,undef,undef,undef,undef,undef,undef,undef,undef,undef,undef,undef,undef,undef,undef,undef,undef,undef,undef,undef,undef,undef,undef,undef,undef,undef,undef,undef,undef,undef,undef,undef,undef,undef,undef,undef,undef,undef])
  (.s [.c,.c] (.new (λr1=>.new (λr2=>.s [.v,.c,.c,.c,.c,.v,.v,.v,.setv 10 (.bool false),.v,.v,.v,.c,.setv 13 (.bool false),.c,.c,.c,.c,.v,.v,.c,.c,.c,.c,.v,.v,.c,.c,.c,.setc 0 0 (.int .i64 (AW (dn a 0))),.setc 0 1 (.int .u64 (AY (dn a 0)))] (.loop (λk' ξ'=>k'<=n) (λk' ξ'=>n-k') (λk' ξ' u' α'=>(#[.agg #[.int .i64 (AW a),.int .u64 (AY a)],.int .i64 ((n:Nat):Int),.pointer (some ⟨r1,0,none⟩),undef,.pointer (some ⟨r2,0,none⟩),.int .i64 0,.int .u64 (Ci a k'),.int .u64 (CQ a k'),.int .i64 ((n:Nat):Int),.bool (decide (((n:Nat):Int)<0)),.bool false,.int .i64 ((n:Nat):Int),.bool (decide (((n:Nat):Int)>127)),.bool false,undef,.int .i64 ((n:Nat):Int),.int .i64 ((k':Nat):Int),(u' 17),(u' 18),(u' 19),(u' 20),(u' 21),(u' 22),(u' 23),(u' 24),(u' 25),(u' 26),undef,undef,undef,undef,undef,undef,undef,undef,undef,undef,undef,undef,undef,undef,undef,undef],[(r1,[.int .i64 (AW (dn a k')),.int .u64 (AY (dn a k'))]),(r2,[.int .i64 0,.int .u64 0])],[])) (λk3 X4 u5 α6=>.s [.c,.c,.v,.c,.c] (.split 17 (.s [.c,.c,.c,.c,.c,.c,.v,.v,.v,.setv 20 (.int .u64 (CQ a (k3+1))),.v,.c,.c,.own 0,.call (.tuple #[.agg #[.int .i64 (AW ((dn a k3)/2)),.int .u64 (AY ((dn a k3)/2))],.int .u64 ((dn a k3)%2)]),.v,.v,.v,.put 0,.v,.c,.c,.c,.v,.setv 26 (.int .i64 (((k3+1):Nat):Int)),.v,.c,.c,.setv 6 (.int .u64 (Ci a (k3+1))),.setc 0 0 (.int .i64 (AW (dn a (k3+1)))),.setc 0 1 (.int .u64 (AY (dn a (k3+1))))] (.again 0)) (.s [.c,.c,.c,.c,.c,.v,.v,.v] (.split 29 (.s [.v,.v,.v] (.split 32 (.s [.u,.u,.u,.u,.v,.v,.c,.c,.d [],.at 0 false,.own 0,.at 1 true,.call (.agg #[.int .i64 (AW 1),.int .u64 (AY 1)]),.at 2 true,.call (.agg #[.int .i64 (AW (Aj (dn a k3+1))),.int .u64 (AY (Aj (dn a k3+1)))]),.at 3 true,.put 0,.c,.c,.c,.own 0,.put 1,.v,.c] (.ret [1])) (.s [.v,.own 0,.v,.setv 35 (.int .u64 (dn a k3%2)),.v,.v,.v,.c] (.split 38 (.s [.c,.d [],.at 0 false,.own 0,.at 1 true,.call (.agg #[.int .i64 (AW 1),.int .u64 (AY 1)]),.at 2 true,.call (.agg #[.int .i64 (AW (Aj (dn a k3+1))),.int .u64 (AY (Aj (dn a k3+1)))]),.at 3 true,.put 0,.c,.c,.c,.own 0,.put 1,.v,.c] (.ret [1])) (.s [.c,.c,.c,.c,.own 0,.put 1,.v,.c] (.ret [1])))))) (.s [.u,.u,.u,.u,.u,.u,.u,.u,.v,.c,.c,.c,.c,.c,.own 0,.put 1,.v,.c] (.ret [1])))))))))))
  el hG hE Tryz.func108 el el (Eq.mpr el h)
theorem Bg(a:Int)(n:Nat)(hn:n<=127)(ha:AS a)(w:World):Calls Tryz.prog 108 #[.agg #[.int .i64 (AW a),.int .u64 (AY a)],.int .i64 ((n:Nat):Int)] w (λe w'=>e=.returned (.tuple #[.agg #[.int .i64 (AW (Al a (AI n))),.int .u64 (AY (Al a (AI n)))],.int .i64 0])/\Below w.heap.size w w'):=by
 refine GC a n w _ (St.refl w) Ex.nil ?_
 intro r1
 intro r2
 refine⟨congrArg Value.bool (decide_eq_false en),congrArg Value.bool (decide_eq_false en),(by rw[Kr]),(by rw[Kr]),?_⟩
 refine⟨?_,?_⟩
 ·refine⟨0,λ_=>0,λi=>match i with|17=>undef|18=>undef|19=>undef|20=>undef|21=>undef|22=>undef|23=>undef|24=>undef|25=>undef|26=>undef|_=>undef,λ_=>(none,0),?_,by kernel_rfl,⟨[],by kernel_rfl⟩,by simp⟩
  omega
 intro k3 X4 u5 α6 hI
 refine⟨?_,?_⟩
 ·intro h7
  have h7p:((k3:Nat):Int)<((n:Nat):Int):=by simpa using h7
  refine⟨congrArg (Value.int .u64) (SX a k3),rfl,(CallV.be λW hS=>QE (dn a k3) W),⟨rfl,rfl,trivial⟩,congrArg (Value.int .i64) (by rw[BE en];rfl),rfl,(by rw[F0]),(by rw[F0]),?_⟩
  refine⟨by kernel_rfl,(k3+1),X4,λi=>match i with|17=>.bool true|18=>.int .u64 (CQ a k3)|19=>.int .u64 (Ci a k3)|20=>.int .u64 (CQ a (k3+1))|21=>.tuple #[.agg #[.int .i64 (AW ((dn a k3)/2)),.int .u64 (AY ((dn a k3)/2))],.int .u64 ((dn a k3)%2)]|22=>.agg #[.int .i64 (AW (dn a k3)),.int .u64 (AY (dn a k3))]|23=>.tuple #[.agg #[.int .i64 (AW ((dn a k3)/2)),.int .u64 (AY ((dn a k3)/2))],.int .u64 ((dn a k3)%2)]|24=>.agg #[.int .i64 (AW ((dn a k3)/2)),.int .u64 (AY ((dn a k3)/2))]|25=>.int .u64 ((dn a k3)%2)|26=>.int .i64 (((k3+1):Nat):Int)|_=>undef,λ_=>(none,0),?_,?_,by kernel_rfl,⟨[],by kernel_rfl⟩,by simp⟩
  ·omega
  omega
 intro h8
 have h8p: ¬(((k3:Nat):Int)<((n:Nat):Int)):=by simpa using h8
 refine⟨?_,?_⟩
 ·intro h9
  have h9p:(Ci a k3)=1:=by simpa using h9
  refine⟨?_,?_⟩
  ·intro h10
   have h10p:(CQ a k3)=1:=by simpa using h10
   refine⟨rfl,(CallV.be λW hS=>Cg 1 eo W),(CallV.be λW hS=>DU (dn a k3) 1 W),⟨rfl,rfl,trivial⟩,rfl,⟨rfl,rfl,trivial⟩,⟨rfl,trivial⟩,?_⟩
   obtain rfl:k3=n:=by omega
   have F:=Oi h9p (.inl h10p)
   exactλW hS=>⟨by rw[F,Di (IG ha _ h9p)],hS.bl⟩
  intro h11
  have h11p: ¬((CQ a k3)=1):=by simpa using h11
  refine⟨rfl,congrArg (Value.int .u64) (Ub _),?_⟩
  refine⟨?_,?_⟩
  ·intro h12
   have h12p:(dn a k3%2)=1:=by simpa using h12
   refine⟨rfl,(CallV.be λW hS=>Cg 1 eo W),(CallV.be λW hS=>DU (dn a k3) 1 W),⟨rfl,rfl,trivial⟩,rfl,⟨rfl,rfl,trivial⟩,⟨rfl,trivial⟩,?_⟩
   obtain rfl:k3=n:=by omega
   have F:=Oi h9p (.inr h12p)
   exactλW hS=>⟨by rw[F,Di (IG ha _ h9p)],hS.bl⟩
  intro h13
  have h13p: ¬((dn a k3%2)=1):=by simpa using h13
  refine⟨rfl,⟨rfl,rfl,trivial⟩,⟨rfl,trivial⟩,?_⟩
  obtain rfl:k3=n:=by omega
  have F:=SJ h11p h13p
  exactλW hS=>⟨by rw[F],hS.bl⟩
 intro h14
 have h14p: ¬((Ci a k3)=1):=by simpa using h14
 refine⟨rfl,⟨rfl,rfl,trivial⟩,⟨rfl,trivial⟩,?_⟩
 obtain rfl:k3=n:=by omega
 have F:=Qa h14p
 exactλW hS=>⟨by rw[F],hS.bl⟩
end
end Go.Proofs.YtikajapjkdloaaaGreatDoor
