/- Walks of layer 7 (motion) and of its reference, by plans. -/
import Derived.Test.YtikajapjkdloaaaGreatDoor926
import Derived.ScopeJumps
namespace Go.Proofs.YtikajapjkdloaaaGreatDoor
set_option linter.unusedVariables false
set_option linter.unusedSimpArgs false
section
set_option maxRecDepth 1000000
set_option maxHeartbeats 8000000
open Go.RowKit
def Jr(x:Nat->Int)(t:Int):Bool:=AL (x 0+Al (x 1*256+(t-x 2)) (AI 15))&&AL (x 1+Al (t-x 2) (AI 7))
def E7(x:Nat->Int)(t:Int):Int:=if Ab x&&AL t then(if AL (t-x 2)&&Jr x t then 0 else 3)else 1
def B9(x:Nat->Int)(t:Int)(i:Nat):Int:=if Ab x&&AL t&&(AL (t-x 2)&&Jr x t)then v3 (x 0+Al (x 1*256+(t-x 2)) (AI 15)) (x 1+Al (t-x 2) (AI 7)) (x 2) i else 0
theorem Br(a b:Int)(ha:AS a)(hb:AS b)(h:AS (a+b))(w:World)(hg:GN w):Calls Tryz.prog 193 #[.agg #[.int .i64 (AW a),.int .u64 (AY a)],.agg #[.int .i64 (AW b),.int .u64 (AY b)]] w λe w'=>e=.returned (.tuple #[.agg #[.int .i64 (AW (a+b)),.int .u64 (AY (a+b))],.int .i64 0])/\Below w.heap.size w w':=by
 have k:=Fp a b ha hb w hg
 rw[(C9 h).1,(C9 h).2]at k;exact k
theorem TM:AI 15=32768:=by decide
theorem Uh:AI 7=128:=by decide
theorem VS{z:Int}(h: -1180591620717411303424<=z/\z<=1180591620717411303424): -36028797018963969<=Al z (AI 15)/\Al z (AI 15)<=36028797018963969:=by
 unfold Al;rw[TM];split<;>omega
theorem WO{z:Int}(h: -1152921504606846976<=z/\z<=1152921504606846976): -9007199254740993<=Al z (AI 7)/\Al z (AI 7)<=9007199254740993:=by
 unfold Al;rw[Uh];split<;>omega
theorem MK{z:Int}(h: -1180591620717411303424<=z/\z<=1180591620717411303424):Ai (Al z (AI 15)):=by have:=VS h;unfold Ai;omega
theorem Oy{z:Int}(h: -1152921504606846976<=z/\z<=1152921504606846976):Ai (Al z (AI 7)):=by have:=WO h;unfold Ai;omega
theorem Jf{z:Int}(h:Ai z):Ae z=z:=by unfold Ae;rw[if_pos h]
theorem SW{a b z:Int}(ha:AL a=true)(hb:AL b=true)(h:AX a b z=0):AR a b z=z/\AL z=true:=by
 obtain⟨h1,h2⟩:=B8 (z:=z) ha hb
 rw[h2]at h
 cases q:AL z
 ·rw[(Cr q).2]at h;cases h
 exact⟨h1.trans (Cw q).1,rfl⟩
theorem SI{a b z:Int}(ha:AL a=true)(hb:AL b=true)(h: ¬AX a b z=0):AX a b z=3/\AL z=false:=by
 obtain⟨h1,h2⟩:=B8 (z:=z) ha hb
 rw[h2]at h⊢
 cases q:AL z
 ·exact⟨(Cr q).2,rfl⟩
 exact absurd (Cw q).2 h
theorem Vm{x:Nat->Int}{t:Int}(h:(Ab x&&AL t)=false):E7 x t=1/\ ∀i,B9 x t i=0:=⟨by unfold E7;rw[h];rfl,λi=>by unfold B9;rw[h];rfl⟩
theorem WJ{x:Nat->Int}{t:Int}(h:(Ab x&&AL t)=true)(h2:AL (t-x 2)=false):E7 x t=3/\ ∀i,B9 x t i=0:=⟨by unfold E7;rw[h,h2];rfl,λi=>by unfold B9;rw[h,h2];rfl⟩
theorem Vy{x:Nat->Int}{t:Int}(h:(Ab x&&AL t)=true)(h2:Jr x t=false):E7 x t=3/\ ∀i,B9 x t i=0:=⟨by unfold E7;rw[h,h2,Bool.and_false];rfl,λi=>by unfold B9;rw[h,h2,Bool.and_false];rfl⟩
theorem WK{x:Nat->Int}{t:Int}(h:(Ab x&&AL t)=true)(h2:AL (t-x 2)=true)(h3:Jr x t=true):E7 x t=0/\ ∀i,B9 x t i=v3 (x 0+Al (x 1*256+(t-x 2)) (AI 15)) (x 1+Al (t-x 2) (AI 7)) (x 2) i:=⟨by unfold E7;rw[h,h2,h3];rfl,λi=>by unfold B9;rw[h,h2,h3];rfl⟩
theorem VK{x:Nat->Int}{t:Int}(h1:AL (x 0+Al (x 1*256+(t-x 2)) (AI 15))=true)(h2:AL (x 1+Al (t-x 2) (AI 7))=true):Jr x t=true:=by unfold Jr;rw[h1,h2];rfl
theorem VD{x:Nat->Int}{t:Int}(h1:AL (x 0+Al (x 1*256+(t-x 2)) (AI 15))=false):Jr x t=false:=by unfold Jr;rw[h1];rfl
theorem VE{x:Nat->Int}{t:Int}(h2:AL (x 1+Al (t-x 2) (AI 7))=false):Jr x t=false:=by unfold Jr;rw[h2,Bool.and_false]
theorem Ue{x:Nat->Int}{t:Int}(hx:Ab x=true)(ht:AL t=true)(hd:AL (t-x 2)=true):
 Eb x (v3 (Al (x 1*256+(t-x 2)) (AI 15)) (Al (t-x 2) (AI 7)) 0)=E7 x t/\Bi x (v3 (Al (x 1*256+(t-x 2)) (AI 15)) (Al (t-x 2) (AI 7)) 0) 0=B9 x t 0/\Bi x (v3 (Al (x 1*256+(t-x 2)) (AI 15)) (Al (t-x 2) (AI 7)) 0) 1=B9 x t 1/\Bi x (v3 (Al (x 1*256+(t-x 2)) (AI 15)) (Al (t-x 2) (AI 7)) 0) 2=B9 x t 2:=by
 obtain⟨f0,f1,f2⟩:=Ch hx
 have b1:=fitB_true.1 f1
 have b3:=fitB_true.1 hd
 have e1:=VS (z:=x 1*256+(t-x 2)) (by omega)
 have e2:=WO (z:=t-x 2) (by omega)
 have hA:(Ab x&&AL t)=true:=by rw[hx,ht];rfl
 have k1:AL (Al (x 1*256+(t-x 2)) (AI 15))=true:=fitB_true.2 (by omega)
 have k2:AL (Al (t-x 2) (AI 7))=true:=fitB_true.2 (by omega)
 have hv:Ab (v3 (Al (x 1*256+(t-x 2)) (AI 15)) (Al (t-x 2) (AI 7)) 0)=true:=by
  show(AL (Al (x 1*256+(t-x 2)) (AI 15))&&(AL (Al (t-x 2) (AI 7))&&AL 0))=true
  rw[k1,k2];rfl
 obtain⟨p,q⟩:=Ix hx hv
 have y0:=B8 (z:=x 0+Al (x 1*256+(t-x 2)) (AI 15)) f0 k1
 have y1:=B8 (z:=x 1+Al (t-x 2) (AI 7)) f1 k2
 have y2:=B8 (a:=x 2) (b:=0) (z:=x 2+0) f2 (by decide)
 rw[Int.add_zero]at y2
 have y3:=Cw f2
 have Y0:A7 x (v3 (Al (x 1*256+(t-x 2)) (AI 15)) (Al (t-x 2) (AI 7)) 0) 0=BK (x 0+Al (x 1*256+(t-x 2)) (AI 15)):=y0.2
 have Y1:A7 x (v3 (Al (x 1*256+(t-x 2)) (AI 15)) (Al (t-x 2) (AI 7)) 0) 1=BK (x 1+Al (t-x 2) (AI 7)):=y1.2
 have Y2:A7 x (v3 (Al (x 1*256+(t-x 2)) (AI 15)) (Al (t-x 2) (AI 7)) 0) 2=0:=by
  show AX (x 2) 0 (x 2+0)=0
  rw[Int.add_zero,y2.2,y3.2]
 have X0:CS x (v3 (Al (x 1*256+(t-x 2)) (AI 15)) (Al (t-x 2) (AI 7)) 0) 0=Au (x 0+Al (x 1*256+(t-x 2)) (AI 15)):=y0.1
 have X1:CS x (v3 (Al (x 1*256+(t-x 2)) (AI 15)) (Al (t-x 2) (AI 7)) 0) 1=Au (x 1+Al (t-x 2) (AI 7)):=y1.1
 have X2:CS x (v3 (Al (x 1*256+(t-x 2)) (AI 15)) (Al (t-x 2) (AI 7)) 0) 2=x 2:=by
  show AR (x 2) 0 (x 2+0)=x 2
  rw[Int.add_zero,y2.1,y3.1]
 rw[p,q 0,q 1,q 2,Y0,Y1,Y2,X0,X1,X2]
 cases c0:AL (x 0+Al (x 1*256+(t-x 2)) (AI 15))
 ·have F:=Vy hA (VD c0)
  have E:=LU (e0:=BK (x 0+Al (x 1*256+(t-x 2)) (AI 15))) (e1:=BK (x 1+Al (t-x 2) (AI 7))) (e2:=0) (by rw[(Cr c0).2];decide)
  rw[E.1,E.2,E.2,E.2,F.1,F.2,F.2,F.2,(Cr c0).2];exact⟨rfl,rfl,rfl,rfl⟩
 cases c1:AL (x 1+Al (t-x 2) (AI 7))
 ·have F:=Vy hA (VE c1)
  have E:=Lj (e0:=BK (x 0+Al (x 1*256+(t-x 2)) (AI 15))) (e1:=BK (x 1+Al (t-x 2) (AI 7))) (e2:=0) (Cw c0).2 (by rw[(Cr c1).2];decide)
  rw[E.1,E.2,E.2,E.2,F.1,F.2,F.2,F.2,(Cr c1).2];exact⟨rfl,rfl,rfl,rfl⟩
 have F:=WK hA hd (VK c0 c1)
 have E:=Iw (e0:=BK (x 0+Al (x 1*256+(t-x 2)) (AI 15))) (e1:=BK (x 1+Al (t-x 2) (AI 7))) (e2:=0) (Cw c0).2 (Cw c1).2 rfl
 rw[E.1,E.2,E.2,E.2,F.1,F.2,F.2,F.2];exact⟨rfl,(Cw c0).1,(Cw c1).1,rfl⟩
theorem KG(b:Nat)(x y:Int)(hx: -590295810358705651712<=x/\x<=590295810358705651712)(hy: -590295810358705651712<=y/\y<=590295810358705651712)(w:World)(hg:GN w)(c0:w.cell? ⟨b,0,none⟩=some (.int .i64 (AW x)))(c1:w.cell? ⟨b,1,none⟩=some (.int .u64 (AY x)))(c2:w.cell? ⟨b,2,none⟩=some (.int .i64 (AW y)))(c3:w.cell? ⟨b,3,none⟩=some (.int .u64 (AY y))):Calls Tryz.prog 147 #[.int .i64 15,.slice (some ⟨b,0,none⟩) 2 2] w (λe w'=>e=.returned (.int .i64 (Al (x+y) (AI 15)))/\Below w.heap.size w w'):=by
 exact(let B:Base:=(⟨w,λ_=>False⟩:Base);let R:Ending->World->Prop:=(λe w'=>e=.returned (.int .i64 (Al (x+y) (AI 15)))/\Below w.heap.size w w');AC (f:=147) (B:=B) (R:=R) (es:=[(b,[.int .i64 (AW x),.int .u64 (AY x),.int .i64 (AW y),.int .u64 (AY y)])]) (c:=Tryz.f147.body.getD .skip) (tmps:=#[vI 15,vS b 2 2,vN,vN,vN,vN,vN,vN,vN,vN,vN,vN,vN,vN,vN,vN,vN,vN,vN,vN,vN,vN,vN,vN,vN,vN,vN,vN,vN,vN,vN,vN,vN,vN,vN,vN])
  (.s [.c,.c,.v,.c,.c,.c,.call (.agg #[vI (AW 0),vU (AY 0)])] (.new (λr1=>.s [.put 0] (.s [.c,.c,.c,.c,.v,.v,.v,.c,.c,.c,.c,.c,.v,.c,.c,.c,.c,.c,.c,.c,.c,.v,.ext 0] (.new (λr7=>.s [.put 1] (.s [.c,.c,.own 0,.own 1,.call (.tuple #[.agg #[vI (AW (0+x)),vU (AY (0+x))],vI 0]),.v,.v,.v,.put 0] (.s [.c,.c,.c,.v,.v,.c,.c,.c,.c,.v,.c,.c,.c,.c,.c,.c,.c,.c,.v,.ext 0] (.new (λr15=>.s [.put 2] (.s [.c,.c,.own 0,.own 2,.call (.tuple #[.agg #[vI (AW ((0+x)+y)),vU (AY ((0+x)+y))],vI 0]),.v,.v,.v,.put 0] (.s [.c,.c,.c,.v,.v,.c,.c,.c,.c,.v,.c,.c,.c,.c,.c,.c,.own 0,.v,.call (.tuple #[.agg #[vI (AW (Al ((0+x)+y) (AI 15))),vU (AY (Al ((0+x)+y) (AI 15)))],vI 0]),.v,.v,.v,.put 0] (.s [.c,.c,.c,.own 0,.call (.tuple #[vI (Ae (Al ((0+x)+y) (AI 15))),vI (CN (Al ((0+x)+y) (AI 15)))]),.v,.v,.v,.v,.v,.c,.c,.c,.v,.v,.c] (.ret []))))))))))))))
  (by kernel_rfl) (Sx.refl w _) (by exact ExX.cons (Ib (λh=>h) (show Az w b 0 [.int .i64 (AW x),.int .u64 (AY x),.int .i64 (AW y),.int .u64 (AY y)]from by exact⟨c0,c1,c2,c3,trivial⟩)) (ExX.nil)) Tryz.func147 (by kernel_rfl) (by kernel_rfl) (Eq.mp (by kernel_rfl) (aI (cv B [] [] [] [] λW hS=>Cg 0 (by decide) W) (λ(r1:Nat)=>aI (DR r1) (aI trivial (let e6:Nat×List Value:=(r1,[vI (AW 0),vU (AY 0)]);aI (Eq.refl b) (λ(r7:Nat)=>let rs10:Aw:=[(0,165,2),(1,165,2)];aI (DR r7) (aI trivial (let e12:Nat×List Value:=(r7,[vI (AW x),vU (AY x)]);let bs11:AD:=[e6,e12];aI (Eq.refl r1) (aI (Eq.refl r7) (aI (cv B bs11 [] rs10 [] λW hS=>Br 0 x (by unfold AS;omega) (by unfold AS;omega) (by unfold AS;omega) W (hg.below hS.bl)) (aI (DR r1) (aI trivial (let e14:Nat×List Value:=(r1,[vI (AW (0+x)),vU (AY (0+x))]);aI (Eq.refl b) (λ(r15:Nat)=>let rs18:Aw:=[(0,165,2),(1,165,2),(2,165,2)];aI (DR r15) (aI trivial (let e20:Nat×List Value:=(r15,[vI (AW y),vU (AY y)]);let bs19:AD:=[e14,e12,e20];aI (Eq.refl r1) (aI (Eq.refl r15) (aI (cv B bs19 [] rs18 [] λW hS=>Br (0+x) y (by unfold AS;omega) (by unfold AS;omega) (by unfold AS;omega) W (hg.below hS.bl)) (aI (DR r1) (aI trivial (let e22:Nat×List Value:=(r1,[vI (AW ((0+x)+y)),vU (AY ((0+x)+y))]);let bs21:AD:=[e22,e12,e20];aI (Eq.refl r1) (aI (cv B bs21 [] rs18 [] λW hS=>Bg ((0+x)+y) 15 (by decide) (by unfold AS;omega) W) (aI (DR r1) (aI trivial (let e24:Nat×List Value:=(r1,[vI (AW (Al ((0+x)+y) (AI 15))),vU (AY (Al ((0+x)+y) (AI 15)))]);let bs23:AD:=[e24,e12,e20];aI (Eq.refl r1) (aI (cv B bs23 [] rs18 [] λW hS=>Cn (Al ((0+x)+y) (AI 15)) W) (aI trivial ((show AO B R bs23 [] rs18 [] (vI (Ae (Al ((0+x)+y) (AI 15))))from by
      exactλW hS=>⟨by rw[Int.zero_add,Jf (MK (by omega))],hS.bl⟩))))))))))))))))))))))))))))))
theorem Kv(b:Nat)(x:Int)(hx: -1152921504606846976<=x/\x<=1152921504606846976)(w:World)(hg:GN w)(c0:w.cell? ⟨b,0,none⟩=some (.int .i64 (AW x)))(c1:w.cell? ⟨b,1,none⟩=some (.int .u64 (AY x))):Calls Tryz.prog 147 #[.int .i64 7,.slice (some ⟨b,0,none⟩) 1 1] w (λe w'=>e=.returned (.int .i64 (Al (x) (AI 7)))/\Below w.heap.size w w'):=by
 exact(let B:Base:=(⟨w,λ_=>False⟩:Base);let R:Ending->World->Prop:=(λe w'=>e=.returned (.int .i64 (Al (x) (AI 7)))/\Below w.heap.size w w');AC (f:=147) (B:=B) (R:=R) (es:=[(b,[.int .i64 (AW x),.int .u64 (AY x)])]) (c:=Tryz.f147.body.getD .skip) (tmps:=#[vI 7,vS b 1 1,vN,vN,vN,vN,vN,vN,vN,vN,vN,vN,vN,vN,vN,vN,vN,vN,vN,vN,vN,vN,vN,vN,vN,vN,vN,vN,vN,vN,vN,vN,vN,vN,vN,vN])
  (.s [.c,.c,.v,.c,.c,.c,.call (.agg #[vI (AW 0),vU (AY 0)])] (.new (λr1=>.s [.put 0] (.s [.c,.c,.c,.c,.v,.v,.v,.c,.c,.c,.c,.c,.v,.c,.c,.c,.c,.c,.c,.c,.c,.v,.ext 0] (.new (λr7=>.s [.put 1] (.s [.c,.c,.own 0,.own 1,.call (.tuple #[.agg #[vI (AW (0+x)),vU (AY (0+x))],vI 0]),.v,.v,.v,.put 0] (.s [.c,.c,.c,.v,.v,.c,.c,.c,.c,.v,.c,.c,.c,.c,.c,.c,.own 0,.v,.call (.tuple #[.agg #[vI (AW (Al (0+x) (AI 7))),vU (AY (Al (0+x) (AI 7)))],vI 0]),.v,.v,.v,.put 0] (.s [.c,.c,.c,.own 0,.call (.tuple #[vI (Ae (Al (0+x) (AI 7))),vI (CN (Al (0+x) (AI 7)))]),.v,.v,.v,.v,.v,.c,.c,.c,.v,.v,.c] (.ret []))))))))))
  (by kernel_rfl) (Sx.refl w _) (by exact ExX.cons (Ib (λh=>h) (show Az w b 0 [.int .i64 (AW x),.int .u64 (AY x)]from by exact⟨c0,c1,trivial⟩)) (ExX.nil)) Tryz.func147 (by kernel_rfl) (by kernel_rfl) (Eq.mp (by kernel_rfl) (aI (cv B [] [] [] [] λW hS=>Cg 0 (by decide) W) (λ(r1:Nat)=>aI (DR r1) (aI trivial (let e6:Nat×List Value:=(r1,[vI (AW 0),vU (AY 0)]);aI (Eq.refl b) (λ(r7:Nat)=>let rs10:Aw:=[(0,165,2),(1,165,2)];aI (DR r7) (aI trivial (let e12:Nat×List Value:=(r7,[vI (AW x),vU (AY x)]);let bs11:AD:=[e6,e12];aI (Eq.refl r1) (aI (Eq.refl r7) (aI (cv B bs11 [] rs10 [] λW hS=>Br 0 x (by unfold AS;omega) (by unfold AS;omega) (by unfold AS;omega) W (hg.below hS.bl)) (aI (DR r1) (aI trivial (let e14:Nat×List Value:=(r1,[vI (AW (0+x)),vU (AY (0+x))]);let bs13:AD:=[e14,e12];aI (Eq.refl r1) (aI (cv B bs13 [] rs10 [] λW hS=>Bg (0+x) 7 (by decide) (by unfold AS;omega) W) (aI (DR r1) (aI trivial (let e16:Nat×List Value:=(r1,[vI (AW (Al (0+x) (AI 7))),vU (AY (Al (0+x) (AI 7)))]);let bs15:AD:=[e16,e12];aI (Eq.refl r1) (aI (cv B bs15 [] rs10 [] λW hS=>Cn (Al (0+x) (AI 7)) W) (aI trivial ((show AO B R bs15 [] rs10 [] (vI (Ae (Al (0+x) (AI 7))))from by
      exactλW hS=>⟨by rw[Int.zero_add,Jf (Oy (by omega))],hS.bl⟩))))))))))))))))))))))
theorem Fz(x:Nat->Int)(t:Int)(hx: ∀i,Ai (x i))(ht:Ai t)(w:World)(hg:GN w):Calls Tryz.prog 97 #[.agg #[.int .i64 (x 0),.int .i64 (x 1),.int .i64 (x 2)],.int .i64 t] w (λe w'=>e=.returned (.tuple #[.agg #[.int .i64 (B9 x t 0),.int .i64 (B9 x t 1),.int .i64 (B9 x t 2)],.int .i64 (E7 x t)])/\Below w.heap.size w w'):=by
 exact(let B:Base:=(⟨w,λ_=>False⟩:Base);let R:Ending->World->Prop:=(λe w'=>e=.returned (.tuple #[.agg #[.int .i64 (B9 x t 0),.int .i64 (B9 x t 1),.int .i64 (B9 x t 2)],.int .i64 (E7 x t)])/\Below w.heap.size w w');AC (f:=97) (B:=B) (R:=R) (es:=[]) (c:=Tryz.f97.body.getD .skip) (tmps:=#[.agg #[vI (x 0),vI (x 1),vI (x 2)],vI t,vN,vN,vN,vN,vN,vN,vN,vN,vN,vN,vN,vN,vN,vN,vN,vN,vN,vN,vN,vN,vN,vN,vN,vN,vN,vN,vN,vN,vN,vN,vN,vN,vN,vN,vN,vN,vN,vN,vN,vN,vN,vN])
  (.s [.c,.c] (.new (λr1=>.new (λr5=>.s [.v,.c,.c,.c,.c,.own 0,.call (.bool (Ab x)),.v,.v] (.split 11 (.s [.u,.u,.u,.v,.c,.c,.c,.c,.v,.put 1,.v,.c] (.ret [1])) (.s [.v,.call (.bool (AL t)),.v,.v,.c] (.split 15 (.s [.c,.c,.c,.v,.put 1,.v,.c] (.ret [1])) (.s [.c,.c,.c,.c,.v,.v,.own 0,.call (.tuple #[vI (AR t (x 2) (t-(x 2))),vI (AX t (x 2) (t-(x 2)))]),.v,.v,.v,.v,.v,.c,.c,.c,.c,.v,.v,.c] (.split 25 (.s [.c,.c,.c,.v,.v,.put 1,.v,.c] (.ret [1])) (.s [.c,.c,.c,.d [],.at 0 false,.own 0,.at 1 false,.v,.at 2 false,.own 0,.at 4 false,.v,.at 8 false,.v,.at 3 true,.call (.agg #[vI (AW ((x 1)*256)),vU (AY ((x 1)*256))]),.at 5 true,.call (.agg #[vI (AW (AR t (x 2) (t-(x 2)))),vU (AY (AR t (x 2) (t-(x 2))))]),.at 6 true] (.new (λr15=>.s [.at 7 true,.call (vI (Al (((x 1)*256)+(AR t (x 2) (t-(x 2)))) (AI 15))),.at 9 true,.call (.agg #[vI (AW (AR t (x 2) (t-(x 2)))),vU (AY (AR t (x 2) (t-(x 2))))]),.at 10 true] (.new (λr19=>.s [.at 11 true,.call (vI (Al (AR t (x 2) (t-(x 2))) (AI 7))),.at 12 false,.v,.at 13 true,.call (.tuple #[.agg #[vI (Bi x (v3 (Al (((x 1)*256)+(AR t (x 2) (t-(x 2)))) (AI 15)) (Al (AR t (x 2) (t-(x 2))) (AI 7)) 0) 0),vI (Bi x (v3 (Al (((x 1)*256)+(AR t (x 2) (t-(x 2)))) (AI 15)) (Al (AR t (x 2) (t-(x 2))) (AI 7)) 0) 1),vI (Bi x (v3 (Al (((x 1)*256)+(AR t (x 2) (t-(x 2)))) (AI 15)) (Al (AR t (x 2) (t-(x 2))) (AI 7)) 0) 2)],vI (Eb x (v3 (Al (((x 1)*256)+(AR t (x 2) (t-(x 2)))) (AI 15)) (Al (AR t (x 2) (t-(x 2))) (AI 7)) 0))]),.at 14 false,.v,.at 15 false,.v,.at 16 true,.put 1] (.s [.at 17 false,.v,.c] (.ret [1]))))))))))))))))
  (by kernel_rfl) (Sx.refl w _) ExX.nil Tryz.func97 (by kernel_rfl) (by kernel_rfl) (Eq.mp (by kernel_rfl) (λ(r1:Nat)=>let e3:Nat×List Value:=(r1,[vI (x 0),vI (x 1),vI (x 2)]); λ(r5:Nat)=>let e7:Nat×List Value:=(r5,[vI 0,vI 0,vI 0]);let bs6:AD:=[e3,e7];let rs8:Aw:=[(0,23,3),(1,23,3)];aI (Eq.refl r1) (aI (cv B bs6 [] rs8 [] λW hS=>DY x hx W) (And.intro (λ(h90:(!(Ab x))=true)=>hv (show(Ab x)=false from(by simpa using h90)) (λh9=>aI (Dm r5) (aI trivial (aI (A_ r5) ((show AO B R bs6 [] rs8 [] (.tuple #[.agg #[vI 0,vI 0,vI 0],vI 1])from by
      have F:=Vm (x:=x) (t:=t) (by rw[h9];rfl)
      exactλW hS=>⟨by simp only[F.1,F.2],hS.bl⟩)))))) (λ(h100:(!(Ab x))=false)=>hv (show(Ab x)=true from(by simpa using h100)) (λh10=>hv (fitB_true.1 (Ch h10).1) (λX0=>hv (fitB_true.1 (Ch h10).2.1) (λX1=>hv (fitB_true.1 (Ch h10).2.2) (λX2=>aI (cw B bs6 [] rs8 [] λW hS=>As t W) (And.intro (λ(h110:(!(AL t))=true)=>hv (show(AL t)=false from(by simpa using h110)) (λh11=>aI (Dm r5) (aI trivial (aI (A_ r5) ((show AO B R bs6 [] rs8 [] (.tuple #[.agg #[vI 0,vI 0,vI 0],vI 1])from by
      have F:=Vm (x:=x) (t:=t) (by rw[h10,h11];rfl)
      exactλW hS=>⟨by simp only[F.1,F.2],hS.bl⟩)))))) (λ(h120:(!(AL t))=false)=>hv (show(AL t)=true from(by simpa using h120)) (λh12=>hv (fitB_true.1 h12) (λT0=>aI (Eq.refl r1) (aI (cv B bs6 [] rs8 [] λW hS=>K8 t (x 2) W) (And.intro (λ(h13:((AX t (x 2) (t-(x 2)))!=0)=true)=>hv (show¬((AX t (x 2) (t-(x 2)))=0)from(by simpa using h13)) (λh13p=>hv (SI (z:=t-x 2) h12 (Ch h10).2.2 h13p) (λGd=>aI (Dm r5) (aI trivial (aI (A_ r5) ((show AO B R bs6 [] rs8 [] (.tuple #[.agg #[vI 0,vI 0,vI 0],vI (AX t (x 2) (t-(x 2)))])from by
      have A:(Ab x&&AL t)=true:=by rw[h10,h12];rfl
      have F:=WJ A Gd.2
      exactλW hS=>⟨by simp only[F.1,F.2,Gd.1],hS.bl⟩))))))) ((show((AX t (x 2) (t-(x 2)))!=0)=false->r1=r1/\r1=r1/\CallVX Tryz.prog B bs6 [] rs8 [] 148 #[vI (x 1),vI 256] (.agg #[vI (AW ((x 1)*256)),vU (AY ((x 1)*256))])/\CallVX Tryz.prog B bs6 [] rs8 [] 109 #[vI (AR t (x 2) (t-(x 2)))] (.agg #[vI (AW (AR t (x 2) (t-(x 2)))),vU (AY (AR t (x 2) (t-(x 2))))])/\(∀r15:Nat,let e17:Nat×List Value:=(r15,[vI (AW ((x 1)*256)),vU (AY ((x 1)*256)),vI (AW (AR t (x 2) (t-(x 2)))),vU (AY (AR t (x 2) (t-(x 2))))]);let bs16:AD:=[e3,e7,e17];let rs18:Aw:=[(0,23,3),(1,23,3),(2,165,4)];(CallVX Tryz.prog B bs16 [] rs18 [] 147 #[vI 15,vS r15 2 2] (vI (Al (((x 1)*256)+(AR t (x 2) (t-(x 2)))) (AI 15)))/\CallVX Tryz.prog B bs16 [] rs18 [] 109 #[vI (AR t (x 2) (t-(x 2)))] (.agg #[vI (AW (AR t (x 2) (t-(x 2)))),vU (AY (AR t (x 2) (t-(x 2))))])/\(∀r19:Nat,let e21:Nat×List Value:=(r19,[vI (AW (AR t (x 2) (t-(x 2)))),vU (AY (AR t (x 2) (t-(x 2))))]);let bs20:AD:=[e3,e7,e17,e21];let rs22:Aw:=[(0,23,3),(1,23,3),(2,165,4),(3,165,2)];(CallVX Tryz.prog B bs20 [] rs22 [] 147 #[vI 7,vS r19 1 1] (vI (Al (AR t (x 2) (t-(x 2))) (AI 7)))/\CallVX Tryz.prog B bs20 [] rs22 [] 146 #[.agg #[vI (x 0),vI (x 1),vI (x 2)],.agg #[vI (Al (((x 1)*256)+(AR t (x 2) (t-(x 2)))) (AI 15)),vI (Al (AR t (x 2) (t-(x 2))) (AI 7)),vI 0]] (.tuple #[.agg #[vI (Bi x (v3 (Al (((x 1)*256)+(AR t (x 2) (t-(x 2)))) (AI 15)) (Al (AR t (x 2) (t-(x 2))) (AI 7)) 0) 0),vI (Bi x (v3 (Al (((x 1)*256)+(AR t (x 2) (t-(x 2)))) (AI 15)) (Al (AR t (x 2) (t-(x 2))) (AI 7)) 0) 1),vI (Bi x (v3 (Al (((x 1)*256)+(AR t (x 2) (t-(x 2)))) (AI 15)) (Al (AR t (x 2) (t-(x 2))) (AI 7)) 0) 2)],vI (Eb x (v3 (Al (((x 1)*256)+(AR t (x 2) (t-(x 2)))) (AI 15)) (Al (AR t (x 2) (t-(x 2))) (AI 7)) 0))])/\(r5=r5/\(r5=r5/\(r5=r5/\(True))))/\(True)/\(let e24:Nat×List Value:=(r5,[vI (Bi x (v3 (Al (((x 1)*256)+(AR t (x 2) (t-(x 2)))) (AI 15)) (Al (AR t (x 2) (t-(x 2))) (AI 7)) 0) 0),vI (Bi x (v3 (Al (((x 1)*256)+(AR t (x 2) (t-(x 2)))) (AI 15)) (Al (AR t (x 2) (t-(x 2))) (AI 7)) 0) 1),vI (Bi x (v3 (Al (((x 1)*256)+(AR t (x 2) (t-(x 2)))) (AI 15)) (Al (AR t (x 2) (t-(x 2))) (AI 7)) 0) 2)]);let bs23:AD:=[e3,e24,e17,e21];((r5=r5/\(True))/\(AO B R bs23 [] rs22 [] (.tuple #[.agg #[vI (Bi x (v3 (Al (((x 1)*256)+(AR t (x 2) (t-(x 2)))) (AI 15)) (Al (AR t (x 2) (t-(x 2))) (AI 7)) 0) 0),vI (Bi x (v3 (Al (((x 1)*256)+(AR t (x 2) (t-(x 2)))) (AI 15)) (Al (AR t (x 2) (t-(x 2))) (AI 7)) 0) 1),vI (Bi x (v3 (Al (((x 1)*256)+(AR t (x 2) (t-(x 2)))) (AI 15)) (Al (AR t (x 2) (t-(x 2))) (AI 7)) 0) 2)],vI (Eb x (v3 (Al (((x 1)*256)+(AR t (x 2) (t-(x 2)))) (AI 15)) (Al (AR t (x 2) (t-(x 2))) (AI 7)) 0))]))))))))from by
      intro h14
      have h14p:(AX t (x 2) (t-(x 2)))=0:=(by simpa using h14)
      obtain⟨Gd,hd⟩:=SW (z:=t-x 2) h12 (Ch h10).2.2 h14p
      have D0:=fitB_true.1 hd
      exact(aI (Eq.refl r1) (aI (Eq.refl r1) (aI (cv B bs6 [] rs8 [] λW hS=>Ah (x 1) 256 (hx 1) (by decide) W (hg.below hS.bl)) (aI (cv B bs6 [] rs8 [] λW hS=>Cg (AR t (x 2) (t-(x 2))) (by unfold Ai;omega) W) (λ(r15:Nat)=>let e17:Nat×List Value:=(r15,[vI (AW ((x 1)*256)),vU (AY ((x 1)*256)),vI (AW (AR t (x 2) (t-(x 2)))),vU (AY (AR t (x 2) (t-(x 2))))]);let bs16:AD:=[e3,e7,e17];let rs18:Aw:=[(0,23,3),(1,23,3),(2,165,4)];aI (cv B bs16 [] rs18 [] λW hS=>KG r15 ((x 1)*256) (AR t (x 2) (t-(x 2))) (by omega) (by omega) W (hg.below hS.bl) (hS.cell 2 0 rfl rfl) (hS.cell 2 1 rfl rfl) (hS.cell 2 2 rfl rfl) (hS.cell 2 3 rfl rfl)) (aI (cv B bs16 [] rs18 [] λW hS=>Cg (AR t (x 2) (t-(x 2))) (by unfold Ai;omega) W) (λ(r19:Nat)=>let e21:Nat×List Value:=(r19,[vI (AW (AR t (x 2) (t-(x 2)))),vU (AY (AR t (x 2) (t-(x 2))))]);let bs20:AD:=[e3,e7,e17,e21];let rs22:Aw:=[(0,23,3),(1,23,3),(2,165,4),(3,165,2)];aI (cv B bs20 [] rs22 [] λW hS=>Kv r19 (AR t (x 2) (t-(x 2))) (by omega) W (hg.below hS.bl) (hS.cell 3 0 rfl rfl) (hS.cell 3 1 rfl rfl)) (aI (cv B bs20 [] rs22 [] λW hS=>LL x (v3 (Al (((x 1)*256)+(AR t (x 2) (t-(x 2)))) (AI 15)) (Al (AR t (x 2) (t-(x 2))) (AI 7)) 0) hx (Hj (p:=Ai) (MK (by omega)) (Oy (by omega)) (by decide)) W) (aI (Dm r5) (aI trivial (let e24:Nat×List Value:=(r5,[vI (Bi x (v3 (Al (((x 1)*256)+(AR t (x 2) (t-(x 2)))) (AI 15)) (Al (AR t (x 2) (t-(x 2))) (AI 7)) 0) 0),vI (Bi x (v3 (Al (((x 1)*256)+(AR t (x 2) (t-(x 2)))) (AI 15)) (Al (AR t (x 2) (t-(x 2))) (AI 7)) 0) 1),vI (Bi x (v3 (Al (((x 1)*256)+(AR t (x 2) (t-(x 2)))) (AI 15)) (Al (AR t (x 2) (t-(x 2))) (AI 7)) 0) 2)]);let bs23:AD:=[e3,e24,e17,e21];aI (A_ r5) ((show AO B R bs23 [] rs22 [] (.tuple #[.agg #[vI (Bi x (v3 (Al (((x 1)*256)+(AR t (x 2) (t-(x 2)))) (AI 15)) (Al (AR t (x 2) (t-(x 2))) (AI 7)) 0) 0),vI (Bi x (v3 (Al (((x 1)*256)+(AR t (x 2) (t-(x 2)))) (AI 15)) (Al (AR t (x 2) (t-(x 2))) (AI 7)) 0) 1),vI (Bi x (v3 (Al (((x 1)*256)+(AR t (x 2) (t-(x 2)))) (AI 15)) (Al (AR t (x 2) (t-(x 2))) (AI 7)) 0) 2)],vI (Eb x (v3 (Al (((x 1)*256)+(AR t (x 2) (t-(x 2)))) (AI 15)) (Al (AR t (x 2) (t-(x 2))) (AI 7)) 0))])from by
       have F:=Ue h10 h12 hd
       exactλW hS=>⟨by rw[Gd,F.1,F.2.1,F.2.2.1,F.2.2.2],hS.bl⟩)))))))))))))))))))))))))))))))
theorem MT(x b:Nat->Int)(hx: ∀i,Ai (x i))(hb: ∀i,Ai (b i))(w:World):Calls Tryz.prog 151 #[.agg #[.int .i64 (x 0),.int .i64 (x 1),.int .i64 (x 2)],.agg #[.int .i64 (b 0),.int .i64 (b 1),.int .i64 (b 2)]] w (λe w'=>e=.returned (.agg #[.int .i64 (Ac (x 0) (b 0)),.int .i64 (Ac (x 1) (b 1)),.int .i64 (Ac (x 2) (b 2))])/\Below w.heap.size w w'):=by
 exact(let B:Base:=(⟨w,λ_=>False⟩:Base);let R:Ending->World->Prop:=(λe w'=>e=.returned (.agg #[.int .i64 (Ac (x 0) (b 0)),.int .i64 (Ac (x 1) (b 1)),.int .i64 (Ac (x 2) (b 2))])/\Below w.heap.size w w');AC (f:=151) (B:=B) (R:=R) (es:=[]) (c:=Tryz.f151.body.getD .skip) (tmps:=#[.agg #[vI (x 0),vI (x 1),vI (x 2)],.agg #[vI (b 0),vI (b 1),vI (b 2)],vN,vN,vN,vN,vN,vN])
  (.s [.c,.c] (.new (λr1=>.new (λr5=>.new (λr9=>.s [.c,.c,.c,.own 0,.own 1,.call (.agg #[vI (Ac (x 0) (b 0)),vI (Ac (x 1) (b 1)),vI (Ac (x 2) (b 2))]),.put 2] (.s [.c] (.ret [2])))))))
  (by kernel_rfl) (Sx.refl w _) ExX.nil Tryz.func151 (by kernel_rfl) (by kernel_rfl) (Eq.mp (by kernel_rfl) (λ(r1:Nat)=>let e3:Nat×List Value:=(r1,[vI (x 0),vI (x 1),vI (x 2)]); λ(r5:Nat)=>let e7:Nat×List Value:=(r5,[vI (b 0),vI (b 1),vI (b 2)]); λ(r9:Nat)=>let e11:Nat×List Value:=(r9,[vI 0,vI 0,vI 0]);let bs10:AD:=[e3,e7,e11];let rs12:Aw:=[(0,23,3),(1,23,3),(2,23,3)];aI (Eq.refl r1) (aI (Eq.refl r5) (aI (cv B bs10 [] rs12 [] λW hS=>KV x b hx hb W) (aI (Dm r9) (aI trivial (let e14:Nat×List Value:=(r9,[vI (Ac (x 0) (b 0)),vI (Ac (x 1) (b 1)),vI (Ac (x 2) (b 2))]);let bs13:AD:=[e3,e7,e14];aI (A_ r9) ((show AO B R bs13 [] rs12 [] (.agg #[vI (Ac (x 0) (b 0)),vI (Ac (x 1) (b 1)),vI (Ac (x 2) (b 2))])from by
      exactλW hS=>⟨rfl,hS.bl⟩))))))))))
end
section
open Go.RowKit
def sp(b:Int):Int:=Al (b*256) (AI 15)
end
section
open Go.RowKit
attribute [local go_sem] CE CA CF CG B_ CB CD CC Be Bc Ba
theorem Pb{l:Nat}{J J':Act->World->Prop}{Q:Exit->Act->World->Prop}(h: ∀a w,J' a w->J a w): ∀e a w,Exit.jump l J' Q e a w->Exit.jump l J Q e a w:=by
 intro e a w hh
 cases e<;>first|exact hh|exact⟨hh.1,h _ _ hh.2⟩
theorem I9(a:Int)(w:World):
 Calls Tryz.prog 196 #[.agg #[.int .i64 0,.int .u64 0],.agg #[.int .i64 (AW a),.int .u64 (AY a)]] w λe w'=>e=.returned (.agg #[.int .i64 (AW (Aj (-a))),.int .u64 (AY (Aj (-a)))])/\Below w.heap.size w w':=by
 have h:=H7 0 a w
 rw[R6,Ry,Int.zero_sub]at h
 exact h
theorem QZ{P:Program}{y:Code}{Q:Exit->Act->World->Prop}{a:Act}{w:World}(h:y.wp P Q a w):(Code.seq .skip y).wp P Q a w:=wp_seq (wp_skip h)
theorem NE{P:Program}{c y:Code}{Q:Exit->Act->World->Prop}{a:Act}{w:World}(l:Nat)(J:Act->World->Prop)(μ:Act->World->Nat)(hf:findLabel c l=some (.seq .skip y))
 (first:(∀a w,J a w->y.wp P (Exit.jump l J Q) a w)->c.wp P (Exit.jump l J Q) a w)
 (pass: ∀a w,J a w->y.wp P (Exit.jump l (λa' w'=>J a' w'/\μ a' w'<μ a w) Q) a w):(Code.scope c).wp P Q a w:=
 wp_scope_jumps l J μ hf (first (λa w h=>Code.wp_mono (Pb (λ_ _ k=>k.1)) (pass a w h))) (λa w h=>QZ (pass a w h))
set_option maxRecDepth 1000000 in
set_option maxHeartbeats 4000000 in
theorem Gk(a b:Int)(ha:AS a)(hb:0<b)(hb2:b<=9223372036854775808)(w:World)(hg:GN w):
 Calls Tryz.prog 219 #[.agg #[.int .i64 (AW a),.int .u64 (AY a)],.int .u64 b] w λe w'=>e=.returned (.tuple #[.agg #[.int .i64 (AW (Aj (a.natAbs/b))),.int .u64 (AY (Aj (a.natAbs/b)))],.int .u64 (a.natAbs%b)])/\Below w.heap.size w w':=by
 have hlt:=World.block_lt_of_cell? w _ hg.1
 obtain⟨hlo,hlo',hlol⟩:=DS hlt
 obtain⟨g0,g1⟩:=hg
 obtain⟨A,hAe⟩: ∃A:Int,A=a.natAbs:=⟨_,rfl⟩
 have hA:SA A:=by unfold AS at ha;unfold SA;omega
 rw[<-hAe]
 have HAe:=Lib.hid hAe
 clear hAe
 obtain⟨HE1,HE2⟩:=UX hA hb
 have HE1:=Lib.hid HE1
 have HE2:=Lib.hid HE2
 have hb2':b<=9223372036854775808:=hb2
 have HB2:=Lib.hid hb2'
 clear hb2 hb2'
 go_enter Tryz.func219,Tryz.ntmps219
 go_wp2
 refine NE 0 (λa' w'=> ∃(k:Nat)(u0 u2 u3 u8 u10 u11 u12 u13 u14 u15 u16 u17 u18 u19 u20 u21 u22 u23 u24 u25 u26 u27 u28 u29 u30 u31 u32 u33 u34 u35 u36 u37 u38 u39 u40 u41 u42 u43 u44 u45 u46 u47 u48 u49 u50 u51 u52 u53 u54 u55:Value),k<=128/\a'=({tmps:=#[u0,.int .u64 b,u2,u3,.pointer (some ⟨w.heap.size+1,0,none⟩),.int .u64 (rs A b k),.int .u64 (OZ A k),.int .u64 (R8 A k),u8,.int .i64 (128-k),u10,u11,u12,u13,u14,u15,u16,u17,u18,u19,u20,u21,u22,u23,u24,u25,u26,u27,u28,u29,u30,u31,u32,u33,u34,u35,u36,u37,u38,u39,u40,u41,u42,u43,u44,u45,u46,u47,u48,u49,u50,u51,u52,u53,u54,u55],defers:=[]}:Act)/\Blk w' (w.heap.size+1) (AW (Aj (qs A b k))) (AY (Aj (qs A b k)))/\Hid (Below w.heap.size w w')/\w.heap.size+1<w'.heap.size) (λa' _=>(intOf (a'.tmps.getD 9 undef)).toNat) rfl ?first ?pass
 case first=>
  intro again
  by_cases h:a<0
  ·have hs:decide (AW a<0)=true:=by rw[decide_eq_true_iff,F9];exact h
   obtain⟨_,hhi,hlo⟩:=RL ha h
   have Hhi:=Lib.hid hhi
   have Hlo:=Lib.hid hlo
   clear hhi hlo
   go_wp2
   go_region_held3 (λw'=>w'.cell? ⟨w.heap.size,0,none⟩=some (.int .i64 (AW a))/\w'.cell? ⟨w.heap.size,1,none⟩=some (.int .u64 (AY a))) (first|(simp[go_sem];done)|(simp[go_sem, *];done)) (fail)
   go_wp2_with (go_at_call 196;refine(I9 a _).mono ?_;rintro e w1 ⟨rfl,hb1⟩;obtain⟨hc1,hf1⟩:=Bz hb1;have hz1_0:w.heap.size<w1.heap.size:=Nat.lt_of_lt_of_le ZB hb1.size;have hz1_1:w.heap.size+1<w1.heap.size:=Nat.lt_of_lt_of_le ZB hb1.size;have hg11:1<w1.heap.size:=Nat.lt_of_lt_of_le ZB hb1.size)
   go_region_held3 (λw'=>w'.cell? ⟨w1.heap.size,0,none⟩=some (.int .i64 (AW (Aj (-a))))/\w'.cell? ⟨w1.heap.size,1,none⟩=some (.int .u64 (AY (Aj (-a))))) (first|(simp[go_sem];done)|(simp[go_sem, *];done)) (fail)
   go_wp2
   go_step3
   rename_i aK
   refine aK _ _ ?_
   refine again _ _ ?_
   rw[Hhi.out,Hlo.out,<-HAe.out]
   refine⟨0,_,_,_,_,_,_,_,_,_,_,_,_,_,_,_,_,_,_,_,_,_,_,_,_,_,_,_,_,_,_,_,_,_,_,_,_,_,_,_,_,_,_,_,_,_,_,_,_,_,_,by omega,rfl,?_,?_,?_⟩
   ·simp[Blk,go_sem, *];exact⟨rfl,rfl⟩
   ·exact LC
   simp;omega
  obtain⟨_,hhi,hlo⟩:=R_ ha h
  have hs:decide (AW a<0)=false:=by rw[decide_eq_false_iff_not,F9];exact h
  have Hhi:=Lib.hid hhi
  have Hlo:=Lib.hid hlo
  clear hhi hlo
  go_wp2
  go_region_held3 (λw'=>w'.cell? ⟨w.heap.size,0,none⟩=some (.int .i64 (AW a))/\w'.cell? ⟨w.heap.size,1,none⟩=some (.int .u64 (AY a))) (first|(simp[go_sem];done)|(simp[go_sem, *];done)) (fail)
  go_wp2
  go_step3
  rename_i aK
  refine aK _ _ ?_
  refine again _ _ ?_
  rw[Hhi.out,Hlo.out,<-HAe.out]
  refine⟨0,_,_,_,_,_,_,_,_,_,_,_,_,_,_,_,_,_,_,_,_,_,_,_,_,_,_,_,_,_,_,_,_,_,_,_,_,_,_,_,_,_,_,_,_,_,_,_,_,_,_,by omega,rfl,?_,?_,?_⟩
  ·simp[Blk,go_sem];exact⟨rfl,rfl⟩
  ·exact LC
  simp
 case pass=>
  intro a1 w1 hJ
  obtain⟨k,u0,u2,u3,u8,u10,u11,u12,u13,u14,u15,u16,u17,u18,u19,u20,u21,u22,u23,u24,u25,u26,u27,u28,u29,u30,u31,u32,u33,u34,u35,u36,u37,u38,u39,u40,u41,u42,u43,u44,u45,u46,u47,u48,u49,u50,u51,u52,u53,u54,u55,hk,rfl,⟨b0,b1,f0,f1⟩,HB,hz⟩:=hJ
  by_cases hk2:k=128
  ·subst hk2
   have HB':=HB.out
   go_wp2
   simp only[Exit.jump]
   refine bodyPost_ret (v:=.tuple #[.agg #[.int .i64 (AW (Aj (qs A b 128))),.int .u64 (AY (Aj (qs A b 128)))],.int .u64 (rs A b 128)]) (by simp(maxDischargeDepth:=9) [results,Tryz.results219,go_sem, *]) rfl ⟨by rw[HE1.out,HE2.out],LC⟩
  have hk3:k<128:=by omega
  have hi0:((128:Int)-k==0)=false:=by rw[beq_eq_false_iff_ne];omega
  clear hk2
  have e5:Hid ((128:Int)-k-1=128-((k+1:Nat):Int)):=by show _=_;omega
  obtain⟨T,hT⟩: ∃T,T=2*rs A b k+bt A k:=⟨_,rfl⟩
  have E1:bits .or .u64 (IntKind.u64.wrap (rs A b k*2)) (OZ A k/9223372036854775808)=T:=(Tp hA hb HB2.out k).trans hT.symm
  have E2:=Lib.hid (VX hA k)
  have E3:=Lib.hid (Vu A k)
  have hr:=RG hA hb k
  have ht:=Ru hA k
  have T0:0<=T:=by omega
  have T1:Hid (T<18446744073709551616):=by have:=HB2.out;show T<_;omega
  have HT:=Lib.hid hT
  clear hT hr ht
  have one:Ai 1:=by unfold Ai;omega
  by_cases hge:b<=T
  ·have ER:rs A b (k+1)=T-b:=by rw[HT.out];exact if_pos (by rw[<-HT.out];exact hge)
   have EQ:qs A b (k+1)=2*qs A b k+1:=if_pos (by rw[<-HT.out];exact hge)
   have WT:=Lib.hid (show IntKind.u64.wrap (T-b)=rs A b (k+1) by have:=T1.out;rw[ER,IntKind.wrap_u64];omega)
   have ZZ:=Lib.hid (show Aj (Aj (Aj (qs A b k)+Aj (qs A b k))+1)=Aj (2*qs A b k+1) by rw[Kj,No];congr 1;omega)
   clear ER
   have EQ:=Lib.hid EQ
   go_wp2_with (go_at_call 170;refine(DU _ _ _).mono ?_;rintro e w2 ⟨rfl,hb2⟩;obtain⟨b2,b3,f2,f3⟩:=Blk.below hb2 hz ⟨b0,b1,f0,f1⟩;have hz2:w.heap.size+1<w2.heap.size:=Nat.lt_of_lt_of_le hz hb2.size)
   go_region_with (first|(go_at_call 109;refine(Cg 1 one _).mono ?_;rintro e w3 ⟨rfl,hb3⟩;obtain⟨b4,b5,f4,f5⟩:Blk w3 (w.heap.size+1) (AW (Aj (Aj (qs A b k)+Aj (qs A b k)))) (AY (Aj (Aj (qs A b k)+Aj (qs A b k)))):=Blk.below hb3 (by simp;omega) (by simp[Blk,go_sem, *]);have hz3:w.heap.size+1<w3.heap.size:=Nat.lt_of_lt_of_le (by simp;omega) hb3.size)|(go_at_call 170;refine(DU _ 1 _).mono ?_;rintro e w4 ⟨rfl,hb4⟩;obtain⟨b6,b7,f6,f7⟩:=Blk.below hb4 hz3 ⟨b4,b5,f4,f5⟩;have hz4:w.heap.size+1<w4.heap.size:=Nat.lt_of_lt_of_le hz3 hb4.size))
   all_goals go_wp2
   all_goals go_step3
   all_goals rw[E2.out,E3.out,e5.out,WT.out]
   all_goals have HB':=HB.out
   all_goals refine⟨rfl,⟨k+1,_,_,_,_,_,_,_,_,_,_,_,_,_,_,_,_,_,_,_,_,_,_,_,_,_,_,_,_,_,_,_,_,_,_,_,_,_,_,_,_,_,_,_,_,_,_,_,_,_,_,by omega,rfl,?_,LC,by simp;omega⟩,?_⟩
   all_goals first|(rw[EQ.out,<-ZZ.out];simp[Blk,go_sem, *];done)|(simp[intOf];omega)
  have ER:rs A b (k+1)=T:=by rw[HT.out];exact if_neg (by rw[<-HT.out];exact hge)
  have EQ:qs A b (k+1)=2*qs A b k:=if_neg (by rw[<-HT.out];exact hge)
  have ZZ:=Lib.hid (show Aj (Aj (qs A b k)+Aj (qs A b k))=Aj (2*qs A b k) by rw[Kj];congr 1;omega)
  have ER:=Lib.hid ER
  have EQ:=Lib.hid EQ
  go_wp2_with (go_at_call 170;refine(DU _ _ _).mono ?_;rintro e w2 ⟨rfl,hb2⟩;obtain⟨b2,b3,f2,f3⟩:=Blk.below hb2 hz ⟨b0,b1,f0,f1⟩;have hz2:w.heap.size+1<w2.heap.size:=Nat.lt_of_lt_of_le hz hb2.size)
  go_step3
  rw[E2.out,E3.out,e5.out,<-ER.out]
  have HB':=HB.out
  refine⟨rfl,⟨k+1,_,_,_,_,_,_,_,_,_,_,_,_,_,_,_,_,_,_,_,_,_,_,_,_,_,_,_,_,_,_,_,_,_,_,_,_,_,_,_,_,_,_,_,_,_,_,_,_,_,_,by omega,rfl,?_,LC,by simp;omega⟩,?_⟩
  ·rw[EQ.out,<-ZZ.out];simp[Blk,go_sem, *]
  simp[intOf];omega
end
end Go.Proofs.YtikajapjkdloaaaGreatDoor
