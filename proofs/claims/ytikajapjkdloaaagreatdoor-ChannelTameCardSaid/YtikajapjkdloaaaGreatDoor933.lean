/- Walks of the laws of layer 11 (gain), by plans: GainPlays. -/
import Derived.Test.YtikajapjkdloaaaGreatDoor932
import Derived.Laws.BitsAllLaws
import Derived.Deep.LoopGhost
namespace Go.Proofs.YtikajapjkdloaaaGreatDoor
set_option linter.unusedVariables false
set_option linter.unusedSimpArgs false
section
set_option maxRecDepth 1000000
set_option maxHeartbeats 8000000
open Go.RowKit
def SQ(p:Nat->Int)(s:Int)(c:Bool)(t:Nat->Int):Int:=if c then(if Ab t then 0 else 1)else Eo p s
def RP(p:Nat->Int)(s:Int)(c:Bool)(t:Nat->Int)(i:Nat):Int:=if c then(if Ab t then t i else 0)else Bw p s i
theorem Qc{p t:Nat->Int}{s:Int}{c:Bool}(h:c=true):SQ p s c t=(if Ab t then 0 else 1)/\ ∀i,RP p s c t i=(if Ab t then t i else 0):=by subst h;exact⟨rfl,λ_=>rfl⟩
theorem SR{p t:Nat->Int}{s:Int}{c:Bool}(h:c=false):SQ p s c t=Eo p s/\ ∀i,RP p s c t i=Bw p s i:=by subst h;exact⟨rfl,λ_=>rfl⟩
theorem OJ(t:Nat->Int):Eb t (v3 0 0 0)=(if Ab t then 0 else 1)/\Bi t (v3 0 0 0) 0=(if Ab t then t 0 else 0)/\Bi t (v3 0 0 0) 1=(if Ab t then t 1 else 0)/\Bi t (v3 0 0 0) 2=(if Ab t then t 2 else 0):=by
 have hz:Ab (v3 0 0 0)=true:=by decide
 cases h:Ab t
 ·obtain⟨a,b⟩:=LZ (a:=t) (b:=v3 0 0 0) (by rw[h];rfl)
  exact⟨a,b 0,b 1,b 2⟩
 obtain⟨f0,f1,f2⟩:=Ch h
 obtain⟨a,b⟩:=Ix h hz
 have k: ∀z,AL z=true->AX z 0 (z+0)=0/\AR z 0 (z+0)=z:= λz q=>by
  have:=B8 (a:=z) (b:=0) (z:=z+0) q (by decide)
  rw[Int.add_zero]at this⊢
  rw[this.1,this.2];exact⟨(Cw q).2,(Cw q).1⟩
 have Y0:A7 t (v3 0 0 0) 0=0:=(k _ f0).1
 have Y1:A7 t (v3 0 0 0) 1=0:=(k _ f1).1
 have Y2:A7 t (v3 0 0 0) 2=0:=(k _ f2).1
 have E:=Iw (e0:=0) (e1:=0) (e2:=0) rfl rfl rfl
 rw[a,b 0,b 1,b 2,Y0,Y1,Y2,E.1,E.2,E.2,E.2]
 exact⟨rfl,(k _ f0).2,(k _ f1).2,(k _ f2).2⟩
theorem Qo(p:Nat->Int)(s:Int)(b1 b2:Nat)(hp6: ∀i,Ai (p i))(hs:Ai s)(w:World)(hg:GN w)(hl:GL w)(cb10:w.cell? ⟨b1,0,none⟩=some (.int .i64 (p 0)))(cb11:w.cell? ⟨b1,1,none⟩=some (.int .i64 (p 1)))(cb12:w.cell? ⟨b1,2,none⟩=some (.int .i64 (p 2)))(cb13:w.cell? ⟨b1,3,none⟩=some (.int .i64 (p 3)))(cb14:w.cell? ⟨b1,4,none⟩=some (.int .i64 (p 4)))(cb15:w.cell? ⟨b1,5,none⟩=some (.int .i64 (p 5)))(cb20:w.cell? ⟨b2,0,none⟩=some (.int .i64 s)):Calls Tryz.prog 158 #[.pointer (some ⟨b1,0,none⟩),.pointer (some ⟨b2,0,none⟩)] w (λe w'=>e=.returned (.tuple #[.agg #[.int .i64 (Bw p s 0),.int .i64 (Bw p s 1),.int .i64 (Bw p s 2)],.int .i64 (Eo p s)])/\Below w.heap.size w w'):=by
 exact(let B:Base:=(⟨w,λ_=>False⟩:Base);let R:Ending->World->Prop:=(λe w'=>e=.returned (.tuple #[.agg #[.int .i64 (Bw p s 0),.int .i64 (Bw p s 1),.int .i64 (Bw p s 2)],.int .i64 (Eo p s)])/\Below w.heap.size w w');AC (f:=158) (B:=B) (R:=R) (es:=[(b1,[.int .i64 (p 0),.int .i64 (p 1),.int .i64 (p 2),.int .i64 (p 3),.int .i64 (p 4),.int .i64 (p 5)]),(b2,[.int .i64 s])]) (c:=Tryz.f158.body.getD .skip) (tmps:=#[vP b1,vP b2,vN,vN,vN,vN,vN,vN,vN])
  (.s [.c,.c] (.new (λr1=>.s [.v,.c,.c,.c,.ext 0,.ext 1,.call (.tuple #[.agg #[vI (Bw p s 0),vI (Bw p s 1),vI (Bw p s 2)],vI (Eo p s)]),.v,.v,.put 0] (.s [.v,.c] (.ret [0])))))
  (by kernel_rfl) (Sx.refl w _) (by exact ExX.cons (Ib (λh=>h) (show Az w b1 0 [.int .i64 (p 0),.int .i64 (p 1),.int .i64 (p 2),.int .i64 (p 3),.int .i64 (p 4),.int .i64 (p 5)]from by exact⟨cb10,cb11,cb12,cb13,cb14,cb15,trivial⟩)) (ExX.cons (Ib (λh=>h) (show Az w b2 0 [.int .i64 s]from by exact⟨cb20,trivial⟩)) (ExX.nil))) Tryz.func158 (by kernel_rfl) (by kernel_rfl) (Eq.mp (by kernel_rfl) (λ(r1:Nat)=>let e3:Nat×List Value:=(r1,[vI 0,vI 0,vI 0]);let bs2:AD:=[e3];let rs4:Aw:=[(0,23,3)];aI (Eq.refl b1) (aI (Eq.refl b2) (aI (cv B bs2 [] rs4 [] λW hS=>QI p s hp6 hs W (hg.below hS.bl) (hl.below hS.bl)) (aI (Dm r1) (aI trivial (let e6:Nat×List Value:=(r1,[vI (Bw p s 0),vI (Bw p s 1),vI (Bw p s 2)]);let bs5:AD:=[e6];aI (A_ r1) ((show AO B R bs5 [] rs4 [] (.tuple #[.agg #[vI (Bw p s 0),vI (Bw p s 1),vI (Bw p s 2)],vI (Eo p s)])from by
      exactλW hS=>⟨rfl,hS.bl⟩))))))))))
theorem Q4(t:Nat->Int)(b1:Nat)(ht: ∀i,Ai (t i))(w:World)(cb10:w.cell? ⟨b1,0,none⟩=some (.int .i64 (t 0)))(cb11:w.cell? ⟨b1,1,none⟩=some (.int .i64 (t 1)))(cb12:w.cell? ⟨b1,2,none⟩=some (.int .i64 (t 2))):Calls Tryz.prog 160 #[.pointer (some ⟨b1,0,none⟩)] w (λe w'=>e=.returned (.tuple #[.agg #[.int .i64 (if Ab t then t 0 else 0),.int .i64 (if Ab t then t 1 else 0),.int .i64 (if Ab t then t 2 else 0)],.int .i64 (if Ab t then 0 else 1)])/\Below w.heap.size w w'):=by
 exact(let B:Base:=(⟨w,λ_=>False⟩:Base);let R:Ending->World->Prop:=(λe w'=>e=.returned (.tuple #[.agg #[.int .i64 (if Ab t then t 0 else 0),.int .i64 (if Ab t then t 1 else 0),.int .i64 (if Ab t then t 2 else 0)],.int .i64 (if Ab t then 0 else 1)])/\Below w.heap.size w w');AC (f:=160) (B:=B) (R:=R) (es:=[(b1,[.int .i64 (t 0),.int .i64 (t 1),.int .i64 (t 2)])]) (c:=Tryz.f160.body.getD .skip) (tmps:=#[vP b1,vN,vN,vN,vN,vN,vN,vN])
  (.s [.c,.c] (.new (λr1=>.s [.v,.c,.c,.c,.ext 0,.v,.call (.tuple #[.agg #[vI (Bi t (v3 0 0 0) 0),vI (Bi t (v3 0 0 0) 1),vI (Bi t (v3 0 0 0) 2)],vI (Eb t (v3 0 0 0))]),.v,.v,.put 0] (.s [.v,.c] (.ret [0])))))
  (by kernel_rfl) (Sx.refl w _) (by exact ExX.cons (Ib (λh=>h) (show Az w b1 0 [.int .i64 (t 0),.int .i64 (t 1),.int .i64 (t 2)]from by exact⟨cb10,cb11,cb12,trivial⟩)) (ExX.nil)) Tryz.func160 (by kernel_rfl) (by kernel_rfl) (Eq.mp (by kernel_rfl) (λ(r1:Nat)=>let e3:Nat×List Value:=(r1,[vI 0,vI 0,vI 0]);let bs2:AD:=[e3];let rs4:Aw:=[(0,23,3)];aI (Eq.refl b1) (aI (cv B bs2 [] rs4 [] λW hS=>LL t (v3 0 0 0) ht (Hj (p:=Ai) (by decide) (by decide) (by decide)) W) (aI (Dm r1) (aI trivial (let e6:Nat×List Value:=(r1,[vI (Bi t (v3 0 0 0) 0),vI (Bi t (v3 0 0 0) 1),vI (Bi t (v3 0 0 0) 2)]);let bs5:AD:=[e6];aI (A_ r1) ((show AO B R bs5 [] rs4 [] (.tuple #[.agg #[vI (Bi t (v3 0 0 0) 0),vI (Bi t (v3 0 0 0) 1),vI (Bi t (v3 0 0 0) 2)],vI (Eb t (v3 0 0 0))])from by
      have F:=OJ t
      exactλW hS=>⟨by rw[F.1,F.2.1,F.2.2.1,F.2.2.2],hS.bl⟩)))))))))
theorem Tq(p:Nat->Int)(s:Int)(c:Bool)(t:Nat->Int)(hp6: ∀i,Ai (p i))(hs:Ai s)(_hc:True)(ht: ∀i,Ai (t i))(w:World)(hg:GN w)(hl:GL w):Calls Tryz.prog 104 #[.agg #[.int .i64 (p 0),.int .i64 (p 1),.int .i64 (p 2),.int .i64 (p 3),.int .i64 (p 4),.int .i64 (p 5)],.int .i64 s,.bool c,.agg #[.int .i64 (t 0),.int .i64 (t 1),.int .i64 (t 2)]] w (λe w'=>e=.returned (.tuple #[.agg #[.int .i64 (RP p s c t 0),.int .i64 (RP p s c t 1),.int .i64 (RP p s c t 2)],.int .i64 (SQ p s c t)])/\Below w.heap.size w w'):=by
 exact(let B:Base:=(⟨w,λ_=>False⟩:Base);let R:Ending->World->Prop:=(λe w'=>e=.returned (.tuple #[.agg #[.int .i64 (RP p s c t 0),.int .i64 (RP p s c t 1),.int .i64 (RP p s c t 2)],.int .i64 (SQ p s c t)])/\Below w.heap.size w w');AC (f:=104) (B:=B) (R:=R) (es:=[]) (c:=Tryz.f104.body.getD .skip) (tmps:=#[.agg #[vI (p 0),vI (p 1),vI (p 2),vI (p 3),vI (p 4),vI (p 5)],vI s,.bool c,.agg #[vI (t 0),vI (t 1),vI (t 2)],vN,vN,vN,vN,vN,vN,vN,vN,vN,vN,vN,vN,vN,vN,vN,vN,vN])
  (.s [.c,.c] (.new (λr1=>.new (λr5=>.new (λr8=>.new (λr12=>.s [.v,.c,.c,.c,.v,.v] (.new (λr16=>.s [.put 4] (.s [.c,.c,.c,.c,.v,.c] (.split 13 (.s [.c,.c,.v,.v,.put 4] (.s [.c,.c,.c,.v,.own 4,.call (.tuple #[.agg #[vI (if Ab t then t 0 else 0),vI (if Ab t then t 1 else 0),vI (if Ab t then t 2 else 0)],vI (if Ab t then 0 else 1)]),.v,.v,.put 3] (.s [.v,.c] (.ret [3])))) (.s [.c,.c,.c,.c,.v,.own 4,.call (.tuple #[.agg #[vI (Bw p s 0),vI (Bw p s 1),vI (Bw p s 2)],vI (Eo p s)]),.v,.v,.put 3] (.s [.v,.c] (.ret [3])))))))))))))
  (by kernel_rfl) (Sx.refl w _) ExX.nil Tryz.func104 (by kernel_rfl) (by kernel_rfl) (Eq.mp (by kernel_rfl) (λ(r1:Nat)=>let e3:Nat×List Value:=(r1,[vI (p 0),vI (p 1),vI (p 2),vI (p 3),vI (p 4),vI (p 5)]); λ(r5:Nat)=> λ(r8:Nat)=>let e10:Nat×List Value:=(r8,[vI (t 0),vI (t 1),vI (t 2)]); λ(r12:Nat)=>let e14:Nat×List Value:=(r12,[vI 0,vI 0,vI 0]); λ(r16:Nat)=>let rs18:Aw:=[(0,45,6),(1,2,1),(2,23,3),(3,23,3),(4,206,1)];aI (A_ r16) (aI trivial (let e20:Nat×List Value:=(r16,[.func (.func 158) #[] #[vP r1,vP r5]]);let bs19:AD:=[e3,(r5,[vI s]),e10,e14,e20];And.intro (λ(h21:c=true)=>aI (A_ r16) (aI trivial (let e23:Nat×List Value:=(r16,[.func (.func 160) #[] #[vP r8]]);let bs22:AD:=[e3,(r5,[vI s]),e10,e14,e23];aI (Eq.refl r16) (aI (cv B bs22 [] rs18 [] λW hS=>Q4 t r8 ht W (hS.cell 2 0 rfl rfl) (hS.cell 2 1 rfl rfl) (hS.cell 2 2 rfl rfl)) (aI (Dm r12) (aI trivial (let e25:Nat×List Value:=(r12,[vI (if Ab t then t 0 else 0),vI (if Ab t then t 1 else 0),vI (if Ab t then t 2 else 0)]);let bs24:AD:=[e3,(r5,[vI s]),e10,e25,e23];aI (A_ r12) ((show AO B R bs24 [] rs18 [] (.tuple #[.agg #[vI (if Ab t then t 0 else 0),vI (if Ab t then t 1 else 0),vI (if Ab t then t 2 else 0)],vI (if Ab t then 0 else 1)])from by
      have F:=Qc (p:=p) (t:=t) (s:=s) h21
      exactλW hS=>⟨by simp only[F.1,F.2],hS.bl⟩))))))))) (λ(h26:c=false)=>aI (Eq.refl r16) (aI (cv B bs19 [] rs18 [] λW hS=>Qo p s r1 r5 hp6 hs W (hg.below hS.bl) (hl.below hS.bl) (hS.cell 0 0 rfl rfl) (hS.cell 0 1 rfl rfl) (hS.cell 0 2 rfl rfl) (hS.cell 0 3 rfl rfl) (hS.cell 0 4 rfl rfl) (hS.cell 0 5 rfl rfl) (hS.cell 1 0 rfl rfl)) (aI (Dm r12) (aI trivial (let e28:Nat×List Value:=(r12,[vI (Bw p s 0),vI (Bw p s 1),vI (Bw p s 2)]);let bs27:AD:=[e3,(r5,[vI s]),e10,e28,e20];aI (A_ r12) ((show AO B R bs27 [] rs18 [] (.tuple #[.agg #[vI (Bw p s 0),vI (Bw p s 1),vI (Bw p s 2)],vI (Eo p s)])from by
      have F:=SR (p:=p) (t:=t) (s:=s) h26
      exactλW hS=>⟨by simp only[F.1,F.2],hS.bl⟩))))))))))))
end
section
def I7:Nat->Nat
 |0=>0
 |n+1=>if(I7 n+1)*(I7 n+1)<=n+1 then I7 n+1 else I7 n
theorem Mx(n:Nat):I7 n*I7 n<=n/\n<(I7 n+1)*(I7 n+1):=by
 induction n with
 |zero=>decide
 |succ n ih=>
  rw[I7]
  split
  ·rename_i h
   refine⟨h,?_⟩
   have e:(I7 n+1+1)*(I7 n+1+1)=(I7 n+1)*(I7 n+1)+2*(I7 n+1)+1:=by simp only[Nat.mul_add,Nat.add_mul,Nat.one_mul,Nat.mul_one];omega
   omega
  omega
def rt(a:Int):Int:=I7 a.toNat
theorem Kd(a:Int):0<=rt a:=Int.natCast_nonneg _
theorem T9{a:Int}(h:0<=a):rt a*rt a<=a:=by
 have:=(Mx a.toNat).1
 unfold rt
 have e:((I7 a.toNat*I7 a.toNat:Nat):Int)=(I7 a.toNat:Int)*I7 a.toNat:=Int.natCast_mul _ _
 omega
theorem Vd{a:Int}(h:0<=a):a<(rt a+1)*(rt a+1):=by
 have:=(Mx a.toNat).2
 unfold rt
 have e:(((I7 a.toNat+1)*(I7 a.toNat+1):Nat):Int)=((I7 a.toNat:Int)+1)*(I7 a.toNat+1):=by rw[Int.natCast_mul];rfl
 omega
theorem Vr{x y:Int}(h0:0<=x)(h:x<y):x*x<y*y:=by
 have h1:x*x<=x*y:=Int.mul_le_mul_of_nonneg_left (by omega) h0
 have h2:x*y<y*y:=Int.mul_lt_mul_of_pos_right h (by omega)
 omega
theorem Vq{x y:Int}(h0:0<=x)(h:x<=y):x*x<=y*y:=Int.mul_le_mul h h h0 (by omega)
theorem I6{x y:Int}(hy:0<=y)(h:x*x<y*y):x<y:=by
 rcases Int.lt_or_le x y with k|k
 ·exact k
 have:=Vq hy k;omega
theorem Ti{a r:Int}(h0:0<=r)(h1:r*r<=a)(h2:a<(r+1)*(r+1)):rt a=r:=by
 have ha:0<=a:=by have:=Int.mul_nonneg h0 h0;omega
 have k1:=T9 ha
 have k2:=Vd ha
 have k0:=Kd a
 have q1:rt a<r+1:=I6 (by omega) (by omega)
 have q2:r<rt a+1:=I6 (by omega) (by omega)
 omega
theorem Vb{a:Int}{m:Int}(h0:0<=a)(hm:0<=m)(h:a<m*m):rt a<m:=I6 hm (by have:=T9 h0;omega)
theorem Um{a o:Int}{i:Nat}(h1:o*o<=a)(h2:a<(o+2^(i+1))*(o+2^(i+1))):(a<(o+2^i)*(o+2^i)->o*o<=a/\a<(o+2^i)*(o+2^i))/\((o+2^i)*(o+2^i)<=a->(o+2^i)*(o+2^i)<=a/\a<(o+2^i+2^i)*(o+2^i+2^i)):=by
 refine⟨λh=>⟨h1,h⟩,λh=>⟨h,?_⟩⟩
 rw[show o+2^i+2^i=o+2^(i+1) by rw[Int.pow_succ];omega]
 exact h2
end
section
open Go.RowKit
attribute [local go_sem] CE CA CF CG B_ CB CD CC Be Bc Ba
theorem PJ{k l:IntKind}{x y a b:Int}(h:x=a)(h2:y=b):Ending.returned (.tuple #[.int k x,.int l y])=.returned (.tuple #[.int k a,.int l b]):=by rw[h,h2]
theorem MF{i:Nat}(h:i<=63):(2:Int)^i<18446744073709551616:=by
 have:(2:Nat)^i<2^64:=Nat.pow_lt_pow_right (by omega) (by omega)
 have e:((2^i:Nat):Int)=(2:Int)^i:=Int.natCast_pow 2 i
 omega
theorem US(m i:Nat)(hi:i<=63)(h:(2:Int)^(i+1)*m+2^(i+1)<=18446744073709551616):bits .or .u64 ((2:Int)^(i+1)*m) (IntKind.u64.wrap (2^i))=2^(i+1)*m+2^i:=by
 have e1:(2:Int)^(i+1)*m=((2^(i+1)*m:Nat):Int):=by rw[Int.natCast_mul,Int.natCast_pow];rfl
 have e2:(2:Int)^i=((2^i:Nat):Int):=(Int.natCast_pow 2 i).symm
 have e3:(2:Int)^(i+1)=((2^(i+1):Nat):Int):=(Int.natCast_pow 2 (i+1)).symm
 have hlt:(2:Nat)^i<2^(i+1):=Nat.pow_lt_pow_right (by omega) (by omega)
 have hp:0<(2:Nat)^(i+1):=Nat.pow_pos (by omega)
 have hw:IntKind.u64.wrap (2^i)=((2^i:Nat):Int):=by rw[IntKind.wrap_u64,e2];have:=MF hi;omega
 rw[hw,e1,u64_or_nat _ _ (by omega) (by have:=MF hi;omega),<-Nat.two_pow_add_eq_or_of_lt hlt,e2,Int.natCast_add]
theorem WM(x:Int)(hx:0<=x)(hx2:x<18446744073709551616)(w:World):
 Calls Tryz.prog 194 #[.int .u64 x,.int .u64 x] w λe w'=>e=.returned (.tuple #[.int .u64 (x*x/18446744073709551616),.int .u64 (x*x%18446744073709551616)])/\w=w':=by
 obtain⟨x,rfl⟩:=Int.eq_ofNat_of_zero_le hx
 refine(JT x x (by omega) (by omega) w).mono ?_
 rintro e w' ⟨rfl,rfl⟩
 exact⟨by congr 1,rfl⟩
set_option maxRecDepth 100000 in
set_option maxHeartbeats 4000000 in
theorem Tj(a:Int)(ha:AS a)(h0:0<=a)(w:World):
 Calls Tryz.prog 174 #[.agg #[.int .i64 (AW a),.int .u64 (AY a)]] w λe w'=>e=.returned (.tuple #[.int .u64 (rt a),.int .i64 0])/\Below w.heap.size w w':=by
 have HA:=Asd.mk ha
 have H0:=Asd.mk h0
 have q:0<=AW a:=by have:=F9 a;omega
 have QA:=Asd.mk (show 0*0<=a/\a<(0+2^64)*(0+2^64) by unfold AS at ha;omega)
 clear ha h0
 go_enter Tryz.func174,Tryz.ntmps174
 go_wp2
 go_step3
 go_wp2
 go_step3
 go_wp2
 go_outline
 go_loop [4,5] (λv4 v5=> ∃(k:Nat)(o:Int),k<=64/\v5=.int .i64 (k-1)/\v4=.int .u64 o/\0<=o/\Asd (∃m:Nat,o=2^k*m/\o*o<=a/\a<(o+2^k)*(o+2^k)/\o+2^k<=18446744073709551616)) (λ_ v5=>(intOf v5+1).toNat)
 case atStart=>exact⟨64,0,by omega,rfl,rfl,by omega,⟨0,by omega,QA.out.1,QA.out.2,by omega⟩⟩
 case round=>
  obtain⟨k,o,hk,rfl,rfl,ho,HV⟩:=hrel
  by_cases hgo:0<k
  ·obtain⟨i,rfl⟩: ∃m,k=m+1:=⟨k-1,by omega⟩
   rw[show(((i+1:Nat):Int)-1)=(i:Int)from by omega]
   have hi:i<=63:=by omega
   obtain⟨m,e,k1,k2,k3⟩:=HV.out
   have hp:(0:Int)<2^i:=Int.pow_pos (by omega)
   have hs:(2:Int)^(i+1)=2^i+2^i:=by rw[Int.pow_succ];omega
   have hb:=Um k1 k2
   obtain⟨X,hX⟩: ∃X,X=o+2^i:=⟨_,rfl⟩
   have EO:bits BinOp.or IntKind.u64 o (IntKind.u64.wrap (2^i))=X:=by rw[hX,e];exact US m i hi (by rw[<-e];exact k3)
   have hX0:0<=X:=by omega
   have hX1:X<18446744073709551616:=by omega
   have hsq:0<=X*X:=Int.mul_nonneg hX0 hX0
   obtain⟨H,hH⟩: ∃H,H=X*X/18446744073709551616:=⟨_,rfl⟩
   obtain⟨L,hL⟩: ∃L,L=X*X%18446744073709551616:=⟨_,rfl⟩
   have MC:=Asd.mk (λW=>WM X hX0 hX1 W)
   rw[<-hH,<-hL]at MC
   have bH:0<=H/\H<18446744073709551616:=by
    have:X*X<18446744073709551616*18446744073709551616:=Vr hX0 hX1
    omega
   have bL:0<=L/\L<18446744073709551616:=by omega
   have hwa:AW a*18446744073709551616+AY a=a:=by unfold AW AY;omega
   have hwl:=Df a
   have hq:AW a<=9223372036854775807:=(TQ HA.out).2
   have UP:Asd (a<X*X-> ∃m:Nat,o=2^i*m/\o*o<=a/\a<(o+2^i)*(o+2^i)/\o+2^i<=18446744073709551616):=⟨λh=>by
    rw[hX]at h
    have:=hb.1 h
    exact⟨2*m,by rw[e,hs];push_cast;rw[Int.add_mul,<-Int.mul_assoc,Int.mul_comm (2^i) 2,Int.mul_assoc];omega,this.1,this.2,by omega⟩⟩
   have DN:Asd (X*X<=a-> ∃m:Nat,X=2^i*m/\X*X<=a/\a<(X+2^i)*(X+2^i)/\X+2^i<=18446744073709551616):=⟨λh=>by
    rw[hX]at h⊢
    have:=hb.2 h
    exact⟨2*m+1,by rw[e,hs];push_cast;rw[Int.mul_add,Int.add_mul,<-Int.mul_assoc,Int.mul_comm (2^i) 2,Int.mul_assoc];omega,this.1,this.2,by omega⟩⟩
   have HW:=Asd.mk hwa
   have HH:=Asd.mk (show X*X=H*18446744073709551616+L by omega)
   have EX:=Asd.mk hX
   have HB:=Asd.mk bH
   have HBL:=Asd.mk bL
   clear hb hsq hH hL hwa hX e k1 k2 k3 hs
   obtain⟨b1,b2⟩:=bH
   obtain⟨b3,b4⟩:=bL
   obtain⟨b5,b6⟩:=hwl
   rcases Int.lt_trichotomy (AW a) H with c|c|c
   ·go_wp2_with (go_at_call 194;refine(MC.out _).mono ?_;rintro e w' ⟨rfl,rfl⟩)
    go_round
    case rel=>exact⟨i,o,by omega,rfl,rfl,ho,⟨UP.out (by have:=HH.out;have:=HW.out;omega)⟩⟩
    case measure=>simp[intOf]
   ·subst c
    by_cases c:AY a<L
    ·go_wp2_with (go_at_call 194;refine(MC.out _).mono ?_;rintro e w' ⟨rfl,rfl⟩)
     go_round
     case rel=>exact⟨i,o,by omega,rfl,rfl,ho,⟨UP.out (by have:=HH.out;have:=HW.out;omega)⟩⟩
     case measure=>simp[intOf]
    go_wp2_with (go_at_call 194;refine(MC.out _).mono ?_;rintro e w' ⟨rfl,rfl⟩)
    go_round
    case rel=>exact⟨i,X,by omega,rfl,rfl,hX0,⟨DN.out (by have:=HH.out;have:=HW.out;omega)⟩⟩
    case measure=>simp[intOf]
   have c2:(H==AW a)=false:=beq_eq_false_iff_ne.2 (by omega)
   have c3:=Asd.mk c
   go_wp2_with (go_at_call 194;refine(MC.out _).mono ?_;rintro e w' ⟨rfl,rfl⟩)
   go_round
   case rel=>exact⟨i,X,by omega,rfl,rfl,hX0,⟨DN.out (by have:=HH.out;have:=HW.out;have:=c3.out;omega)⟩⟩
   case measure=>simp[intOf]
  obtain rfl:k=0:=by omega
  rw[show(((0:Nat):Int)-1)= -1 from by omega]
  have HF:=Asd.mk (show o=rt a by
   obtain⟨m,_,k1,k2,_⟩:=HV.out
   exact(Ti ho k1 (by simpa using k2)).symm)
  go_wp2
  go_ret2
  exact⟨PJ HF.out rfl,LC⟩
end
section
open Go.RowKit
attribute [local go_sem] CE CA CF CG B_ CB CD CC Be Bc Ba
attribute [local go_sem] Gq
end
section
open Go.RowKit
attribute [local go_sem] CE CA CF CG B_ CB CD CC Be Bc Ba
attribute [local go_sem] Gq
def mn(x y:Int):Int:=if x<0∨y<0 then 0 else rt (x*y)
theorem T4{x y:Int}(hx:Ai x)(hy:Ai y)(h: ¬(x<0∨y<0)):0<=x*y/\x*y<85070591730234615865843651857942052864:=by
 have h1:0<=x*y:=Int.mul_nonneg (by omega) (by omega)
 have:=Fa (a:=x) (b:=y) 9223372036854775807 (by omega) (by omega) (by unfold Ai at hx;omega) (by unfold Ai at hy;omega)
 omega
theorem Rq{x y:Int}(hx:Ai x)(hy:Ai y):0<=mn x y/\mn x y<=9223372036854775807:=by
 unfold mn
 split
 ·omega
 rename_i h
 have hp:=T4 hx hy h
 have:=Vb (m:=9223372036854775808) hp.1 (by omega) (by omega)
 have:=Kd (x*y)
 omega
set_option maxRecDepth 100000 in
set_option maxHeartbeats 4000000 in
theorem IC(x y:Int)(hx:Ai x)(hy:Ai y)(w:World)(hg:GN w):
 Calls Tryz.prog 126 #[.int .i64 x,.int .i64 y] w λe w'=>e=.returned (.int .i64 (mn x y))/\Below w.heap.size w w':=by
 by_cases h:x<0∨y<0
 ·have e:mn x y=0:=by unfold mn;rw[if_pos h]
  rw[e]
  rcases Decidable.em (x<0)with h1|h1
  ·go_enter Tryz.func126,Tryz.ntmps126
   go_wp2
   go_ret
   exact⟨rfl,LC⟩
  have h2:y<0:=h.resolve_left h1
  go_enter Tryz.func126,Tryz.ntmps126
  go_wp2
  go_ret
  exact⟨rfl,LC⟩
 have e:mn x y=rt (x*y):=by unfold mn;rw[if_neg h]
 have hp:=T4 hx hy h
 have hm:=Rq hx hy
 rw[e]at hm⊢
 have hW:AS (x*y):=F5 hx hy
 have HP:=Asd.mk hp
 have HW:=Asd.mk hW
 have HE:=Asd.mk (show wrap64 (rt (x*y))=rt (x*y) by unfold wrap64;omega)
 have HG:=Asd.mk hg
 have h1:0<=x:=by omega
 have h2:0<=y:=by omega
 have S0:=Asd.mk (St.refl w)
 clear e h hp hm hW hg
 go_enter Tryz.func126,Tryz.ntmps126
 go_wp2_with (first
  |(go_at_call 174;replace S1:=S1;refine(Tj (x*y) HW.out HP.out.1 _).mono ?_;rintro e w2 ⟨rfl,hb2⟩;apply St.step (w0:=w) (hb:=hb2);(focus(with_reducible repeat (first|exact S1.out|apply St.lay|apply St.drew|apply St.drewN)));intro S2;(try simp only[Gs,Ik,Hb]at S2);clear hb2 S1;(try clear C1);have C2:=S2.out.facts;simp only[facts,apart,Az,Nat.zero_add,Nat.reduceAdd,and_true]at C2)
  |(go_at_call 148;replace S0:=S0;refine(Ah x y hx hy _ (by exact HG.out.below (by with_reducible repeat (first|exact S0.out.bl|refine AM ?_ _|refine AJ ?_ _|refine AP ?_)))).mono ?_;rintro e w1 ⟨rfl,hb1⟩;apply St.step (w0:=w) (hb:=hb1);(focus(with_reducible repeat (first|exact S0.out|apply St.lay|apply St.drew|apply St.drewN)));intro S1;(try simp only[Gs,Ik,Hb]at S1);clear hb1 S0;(try clear C0);have C1:=S1.out.facts;simp only[facts,apart,Az,Nat.zero_add,Nat.reduceAdd,and_true]at C1))
 have HBf:=S2.out.bl
 go_ret
 exact⟨Gv HE.out,LC⟩
end
section
theorem KY{f c:Nat->Int}(h:E5 f c=true):(0<=f 0/\f 0<=c 0/\c 0<=288230376151711744)/\(0<=f 1/\f 1<=c 1/\c 1<=288230376151711744)/\(0<=f 2/\f 2<=c 2/\c 2<=288230376151711744):=by
 unfold E5 LT at h;simp only[Bool.and_eq_true,decide_eq_true_eq]at h;exact h
def NL(x f c:Int):Int:=min (max x f) c
def tm(p f c:Nat->Int):Nat->Int
 |0=>NL (p 0) (f 0) (c 0)
 |1=>Ac (p 1) (mn (NL (p 0) (f 0) (c 0)-f 0) (NL (p 3) (f 1) (c 1)-f 1))
 |2=>Ac (p 2) (mn (NL (p 0) (f 0) (c 0)-f 0) (NL (p 5) (f 2) (c 2)-f 2))
 |3=>NL (p 3) (f 1) (c 1)
 |4=>Ac (p 4) (mn (NL (p 3) (f 1) (c 1)-f 1) (NL (p 5) (f 2) (c 2)-f 2))
 |_=>NL (p 5) (f 2) (c 2)
def CK(p f c:Nat->Int)(i:Nat):Int:=if E5 f c then tm p f c i else 0
def RE(f c:Nat->Int):Int:=if E5 f c then 0 else 1
def bB(p f c:Nat->Int):Bool:=E5 f c&&([tm p f c 0,tm p f c 1,tm p f c 2,tm p f c 3,tm p f c 4,tm p f c 5]== [p 0,p 1,p 2,p 3,p 4,p 5])
theorem VM{p f c:Nat->Int}(h:E5 f c=true):RE f c=0/\ ∀i,CK p f c i=tm p f c i:=⟨by simp[RE,h],λi=>by simp[CK,h]⟩
theorem Ve{p f c:Nat->Int}(h:E5 f c=false):RE f c=1/\ ∀i,CK p f c i=0:=⟨by simp[RE,h],λi=>by simp[CK,h]⟩
theorem Lu(x y:Int):mn x y=mn y x:=by
 unfold mn;rw[Int.mul_comm]
 by_cases h:x<0∨y<0
 ·rw[if_pos h,if_pos h.symm]
 rw[if_neg h,if_neg (λq=>h q.symm)]
theorem IE{x y:Int}(hx:Ai x)(hy:Ai y):Ai (mn x y):=by have:=Rq hx hy;unfold Ai;omega
theorem ZV{x m:Int}(hm:0<=m): -m<=Ac x m/\Ac x m<=m:=by unfold Ac;(repeat' split)<;>omega
theorem FE{x m:Int}(hx:Ai x)(hm:Ai m):Ai (Ac x m):=by unfold Ai Ac at*;(repeat' split)<;>omega
theorem clampZ_self{x m:Int}:Ac x m=x<->(0<=m/\ -m<=x/\x<=m)∨x=0/\m<0:=by unfold Ac;(repeat' split)<;>omega
theorem aR{x y:Int}(hx:0<=x)(hy:0<=y):0<=mn x y/\mn x y*mn x y<=x*y:=by
 have h0:0<=x*y:=Int.mul_nonneg hx hy
 unfold mn;rw[if_neg (by omega)]
 exact⟨Kd _,T9 h0⟩
theorem cj{x y:Int}(hx:0<=x)(hy:0<=y):x*y<(mn x y+1)*(mn x y+1):=by
 have h0:0<=x*y:=Int.mul_nonneg hx hy
 unfold mn;rw[if_neg (by omega)]
 exact Vd h0
theorem Nc{x f c:Int}(h:f<=c):f<=NL x f c/\NL x f c<=c:=by unfold NL;omega
theorem Un{p f c:Nat->Int}(hp: ∀i,Ai (p i))(h:E5 f c=true): ∀i,Ai (tm p f c i):=by
 obtain⟨⟨a1,a2,a3⟩,⟨b1,b2,b3⟩,c1,c2,c3⟩:=KY h
 have d0:=Nc (x:=p 0) a2
 have d1:=Nc (x:=p 3) b2
 have d2:=Nc (x:=p 5) c2
 intro i
 match i with
 |0=>show Ai (NL _ _ _);unfold Ai;omega
 |1=>exact FE (hp 1) (IE (by unfold Ai;omega) (by unfold Ai;omega))
 |2=>exact FE (hp 2) (IE (by unfold Ai;omega) (by unfold Ai;omega))
 |3=>show Ai (NL _ _ _);unfold Ai;omega
 |4=>exact FE (hp 4) (IE (by unfold Ai;omega) (by unfold Ai;omega))
 |_+5=>show Ai (NL _ _ _);unfold Ai;omega
theorem Oc{p f c:Nat->Int}(hp: ∀i,Ai (p i)): ∀i,Ai (CK p f c i):=by
 intro i
 unfold CK
 split
 ·rename_i h;exact Un hp h i
 decide
end
end Go.Proofs.YtikajapjkdloaaaGreatDoor
