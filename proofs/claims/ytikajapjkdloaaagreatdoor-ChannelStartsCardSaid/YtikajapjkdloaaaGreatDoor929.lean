/- Walks of layer 7 (motion) and of its reference, by plans. -/
import Derived.Test.YtikajapjkdloaaaGreatDoor925
namespace Go.Proofs.YtikajapjkdloaaaGreatDoor
set_option linter.unusedVariables false
set_option linter.unusedSimpArgs false
set_option maxRecDepth 1000000
set_option maxHeartbeats 8000000
open Go.RowKit
section
def Jr(x:Nat->Int)(t:Int):Bool:=AL (x 0+Al (x 1*256+(t-x 2)) (AI 15))&&AL (x 1+Al (t-x 2) (AI 7))
def E7(x:Nat->Int)(t:Int):Int:=if Ab x&&AL t then(if AL (t-x 2)&&Jr x t then 0 else 3)else 1
def B9(x:Nat->Int)(t:Int)(i:Nat):Int:=if Ab x&&AL t&&(AL (t-x 2)&&Jr x t)then v3 (x 0+Al (x 1*256+(t-x 2)) (AI 15)) (x 1+Al (t-x 2) (AI 7)) (x 2) i else 0
theorem Br(a b:Int)(ha:AS a)(hb:AS b)(h:AS (a+b))(w:World)(hg:GN w):Calls Tryz.prog 193 #[.agg #[.int .i64 (AW a),.int .u64 (AY a)],.agg #[.int .i64 (AW b),.int .u64 (AY b)]] w λe w'=>e=.returned (.tuple #[.agg #[.int .i64 (AW (a+b)),.int .u64 (AY (a+b))],.int .i64 0])/\Below w.heap.size w w':=by
 have k:=Fp a b ha hb w hg
 rw[(C9 h).1,(C9 h).2]at k;exact k
theorem TM:AI 15=32768:=by decide
theorem Uh:AI 7=128:=by decide
theorem VS{z:Int}(h: -1180591620717411303424<=z/\z<=1180591620717411303424): -36028797018963969<=Al z (AI 15)/\Al z (AI 15)<=36028797018963969:=by
 unfold Al;rw[TM];split<;>omega
theorem WO{z:Int}(h: -1152921504606846976<=z/\z<=1152921504606846976): -9007199254740993<=Al z (AI 7)/\Al z (AI 7)<=9007199254740993:=by
 unfold Al;rw[Uh];split<;>omega
theorem MK{z:Int}(h: -1180591620717411303424<=z/\z<=1180591620717411303424):Ai (Al z (AI 15)):=by have:=VS h;unfold Ai;omega
theorem Oy{z:Int}(h: -1152921504606846976<=z/\z<=1152921504606846976):Ai (Al z (AI 7)):=by have:=WO h;unfold Ai;omega
theorem Jf{z:Int}(h:Ai z):Ae z=z:=by unfold Ae;rw[if_pos h]
theorem SW{a b z:Int}(ha:AL a=true)(hb:AL b=true)(h:AX a b z=0):AR a b z=z/\AL z=true:=by
 obtain⟨h1,h2⟩:=B8 (z:=z) ha hb
 rw[h2]at h
 cases q:AL z
 ·rw[(Cr q).2]at h;cases h
 exact⟨h1.trans (Cw q).1,rfl⟩
theorem SI{a b z:Int}(ha:AL a=true)(hb:AL b=true)(h: ¬AX a b z=0):AX a b z=3/\AL z=false:=by
 obtain⟨h1,h2⟩:=B8 (z:=z) ha hb
 rw[h2]at h⊢
 cases q:AL z
 ·exact⟨(Cr q).2,rfl⟩
 exact absurd (Cw q).2 h
theorem Vm{x:Nat->Int}{t:Int}(h:(Ab x&&AL t)=false):E7 x t=1/\ ∀i,B9 x t i=0:=⟨by unfold E7;rw[h];rfl,λi=>by unfold B9;rw[h];rfl⟩
theorem WJ{x:Nat->Int}{t:Int}(h:(Ab x&&AL t)=true)(h2:AL (t-x 2)=false):E7 x t=3/\ ∀i,B9 x t i=0:=⟨by unfold E7;rw[h,h2];rfl,λi=>by unfold B9;rw[h,h2];rfl⟩
theorem Vy{x:Nat->Int}{t:Int}(h:(Ab x&&AL t)=true)(h2:Jr x t=false):E7 x t=3/\ ∀i,B9 x t i=0:=⟨by unfold E7;rw[h,h2,Bool.and_false];rfl,λi=>by unfold B9;rw[h,h2,Bool.and_false];rfl⟩
theorem WK{x:Nat->Int}{t:Int}(h:(Ab x&&AL t)=true)(h2:AL (t-x 2)=true)(h3:Jr x t=true):E7 x t=0/\ ∀i,B9 x t i=v3 (x 0+Al (x 1*256+(t-x 2)) (AI 15)) (x 1+Al (t-x 2) (AI 7)) (x 2) i:=⟨by unfold E7;rw[h,h2,h3];rfl,λi=>by unfold B9;rw[h,h2,h3];rfl⟩
theorem VK{x:Nat->Int}{t:Int}(h1:AL (x 0+Al (x 1*256+(t-x 2)) (AI 15))=true)(h2:AL (x 1+Al (t-x 2) (AI 7))=true):Jr x t=true:=by unfold Jr;rw[h1,h2];rfl
theorem VD{x:Nat->Int}{t:Int}(h1:AL (x 0+Al (x 1*256+(t-x 2)) (AI 15))=false):Jr x t=false:=by unfold Jr;rw[h1];rfl
theorem VE{x:Nat->Int}{t:Int}(h2:AL (x 1+Al (t-x 2) (AI 7))=false):Jr x t=false:=by unfold Jr;rw[h2,Bool.and_false]
theorem Ue{x:Nat->Int}{t:Int}(hx:Ab x=true)(ht:AL t=true)(hd:AL (t-x 2)=true):
 Eb x (v3 (Al (x 1*256+(t-x 2)) (AI 15)) (Al (t-x 2) (AI 7)) 0)=E7 x t/\Bi x (v3 (Al (x 1*256+(t-x 2)) (AI 15)) (Al (t-x 2) (AI 7)) 0) 0=B9 x t 0/\Bi x (v3 (Al (x 1*256+(t-x 2)) (AI 15)) (Al (t-x 2) (AI 7)) 0) 1=B9 x t 1/\Bi x (v3 (Al (x 1*256+(t-x 2)) (AI 15)) (Al (t-x 2) (AI 7)) 0) 2=B9 x t 2:=by
 obtain⟨f0,f1,f2⟩:=Ch hx
 have b1:=fitB_true.1 f1
 have b3:=fitB_true.1 hd
 have e1:=VS (z:=x 1*256+(t-x 2)) en
 have e2:=WO (z:=t-x 2) en
 have hA:(Ab x&&AL t)=true:=by rw[hx,ht];rfl
 have k1:AL (Al (x 1*256+(t-x 2)) (AI 15))=true:=fitB_true.2 en
 have k2:AL (Al (t-x 2) (AI 7))=true:=fitB_true.2 en
 have hv:Ab (v3 (Al (x 1*256+(t-x 2)) (AI 15)) (Al (t-x 2) (AI 7)) 0)=true:=by
  show(AL (Al (x 1*256+(t-x 2)) (AI 15))&&(AL (Al (t-x 2) (AI 7))&&AL 0))=true
  rw[k1,k2];rfl
 obtain⟨p,q⟩:=Ix hx hv
 have y0:=B8 (z:=x 0+Al (x 1*256+(t-x 2)) (AI 15)) f0 k1
 have y1:=B8 (z:=x 1+Al (t-x 2) (AI 7)) f1 k2
 have y2:=B8 (a:=x 2) (b:=0) (z:=x 2+0) f2 eo
 rw[Int.add_zero]at y2
 have y3:=Cw f2
 have Y0:A7 x (v3 (Al (x 1*256+(t-x 2)) (AI 15)) (Al (t-x 2) (AI 7)) 0) 0=BK (x 0+Al (x 1*256+(t-x 2)) (AI 15)):=y0.2
 have Y1:A7 x (v3 (Al (x 1*256+(t-x 2)) (AI 15)) (Al (t-x 2) (AI 7)) 0) 1=BK (x 1+Al (t-x 2) (AI 7)):=y1.2
 have Y2:A7 x (v3 (Al (x 1*256+(t-x 2)) (AI 15)) (Al (t-x 2) (AI 7)) 0) 2=0:=by
  show AX (x 2) 0 (x 2+0)=0
  rw[Int.add_zero,y2.2,y3.2]
 have X0:CS x (v3 (Al (x 1*256+(t-x 2)) (AI 15)) (Al (t-x 2) (AI 7)) 0) 0=Au (x 0+Al (x 1*256+(t-x 2)) (AI 15)):=y0.1
 have X1:CS x (v3 (Al (x 1*256+(t-x 2)) (AI 15)) (Al (t-x 2) (AI 7)) 0) 1=Au (x 1+Al (t-x 2) (AI 7)):=y1.1
 have X2:CS x (v3 (Al (x 1*256+(t-x 2)) (AI 15)) (Al (t-x 2) (AI 7)) 0) 2=x 2:=by
  show AR (x 2) 0 (x 2+0)=x 2
  rw[Int.add_zero,y2.1,y3.1]
 rw[p,q 0,q 1,q 2,Y0,Y1,Y2,X0,X1,X2]
 cases c0:AL (x 0+Al (x 1*256+(t-x 2)) (AI 15))
 ·have F:=Vy hA (VD c0)
  have E:=LU (e0:=BK (x 0+Al (x 1*256+(t-x 2)) (AI 15))) (e1:=BK (x 1+Al (t-x 2) (AI 7))) (e2:=0) (by rw[(Cr c0).2];decide)
  rw[E.1,E.2,E.2,E.2,F.1,F.2,F.2,F.2,(Cr c0).2];exact⟨rfl,rfl,rfl,rfl⟩
 cases c1:AL (x 1+Al (t-x 2) (AI 7))
 ·have F:=Vy hA (VE c1)
  have E:=Lj (e0:=BK (x 0+Al (x 1*256+(t-x 2)) (AI 15))) (e1:=BK (x 1+Al (t-x 2) (AI 7))) (e2:=0) (Cw c0).2 (by rw[(Cr c1).2];decide)
  rw[E.1,E.2,E.2,E.2,F.1,F.2,F.2,F.2,(Cr c1).2];exact⟨rfl,rfl,rfl,rfl⟩
 have F:=WK hA hd (VK c0 c1)
 have E:=Iw (e0:=BK (x 0+Al (x 1*256+(t-x 2)) (AI 15))) (e1:=BK (x 1+Al (t-x 2) (AI 7))) (e2:=0) (Cw c0).2 (Cw c1).2 rfl
 rw[E.1,E.2,E.2,E.2,F.1,F.2,F.2,F.2];exact⟨rfl,(Cw c0).1,(Cw c1).1,rfl⟩
theorem KG(b:Nat)(x y:Int)(hx: -590295810358705651712<=x/\x<=590295810358705651712)(hy: -590295810358705651712<=y/\y<=590295810358705651712)(w:World)(hg:GN w)(c0:w.cell? ⟨b,0,none⟩=some (.int .i64 (AW x)))(c1:w.cell? ⟨b,1,none⟩=some (.int .u64 (AY x)))(c2:w.cell? ⟨b,2,none⟩=some (.int .i64 (AW y)))(c3:w.cell? ⟨b,3,none⟩=some (.int .u64 (AY y))):Calls Tryz.prog 147 #[.int .i64 15,.slice (some ⟨b,0,none⟩) 2 2] w (λe w'=>e=.returned (.int .i64 (Al (x+y) (AI 15)))/\Below w.heap.size w w'):=by
 exact(let B:Base:=(⟨w,λ_=>False⟩:Base);let R:Ending->World->Prop:=(λe w'=>e=.returned (.int .i64 (Al (x+y) (AI 15)))/\Below w.heap.size w w');AC (f:=147) (B:=B) (R:=R) (es:=[(b,[.int .i64 (AW x),.int .u64 (AY x),.int .i64 (AW y),.int .u64 (AY y)])]) (c:=Tryz.f147.body.getD .skip) (tmps:=#[vI 15,vS b 2 2,vN,vN,vN,vN,vN,vN,vN,vN,vN,vN,vN,vN,vN,vN,vN,vN,vN,vN,vN,vN,vN,vN,vN,vN,vN,vN,vN,vN,vN,vN,vN,vN,vN,vN])
  (.s [.c,.c,.v,.c,.c,.c,.call (.agg #[vI (AW 0),vU (AY 0)])] (.new (λr1=>.s [.put 0] (.s [.c,.c,.c,.c,.v,.v,.v,.c,.c,.c,.c,.c,.v,.c,.c,.c,.c,.c,.c,.c,.c,.v,.ext 0] (.new (λr7=>.s [.put 1] (.s [.c,.c,.own 0,.own 1,.call (.tuple #[.agg #[vI (AW (0+x)),vU (AY (0+x))],vI 0]),.v,.v,.v,.put 0] (.s [.c,.c,.c,.v,.v,.c,.c,.c,.c,.v,.c,.c,.c,.c,.c,.c,.c,.c,.v,.ext 0] (.new (λr15=>.s [.put 2] (.s [.c,.c,.own 0,.own 2,.call (.tuple #[.agg #[vI (AW ((0+x)+y)),vU (AY ((0+x)+y))],vI 0]),.v,.v,.v,.put 0] (.s [.c,.c,.c,.v,.v,.c,.c,.c,.c,.v,.c,.c,.c,.c,.c,.c,.own 0,.v,.call (.tuple #[.agg #[vI (AW (Al ((0+x)+y) (AI 15))),vU (AY (Al ((0+x)+y) (AI 15)))],vI 0]),.v,.v,.v,.put 0] (.s [.c,.c,.c,.own 0,.call (.tuple #[vI (Ae (Al ((0+x)+y) (AI 15))),vI (CN (Al ((0+x)+y) (AI 15)))]),.v,.v,.v,.v,.v,.c,.c,.c,.v,.v,.c] (.ret []))))))))))))))
  el (Sx.refl w _) (by exact ExX.cons (Ib (λh=>h) (show Az w b 0 [.int .i64 (AW x),.int .u64 (AY x),.int .i64 (AW y),.int .u64 (AY y)]from by exact⟨c0,c1,c2,c3,trivial⟩)) (ExX.nil)) Tryz.func147 el el (Eq.mp el (aI (cv B [] [] [] [] λW hS=>Cg 0 eo W) (λ(r1:Nat)=>aI (DR r1) (aI trivial (let e6:Nat×List Value:=(r1,[vI (AW 0),vU (AY 0)]);aI (Eq.refl b) (λ(r7:Nat)=>let rs10:Aw:=[(0,165,2),(1,165,2)];aI (DR r7) (aI trivial (let e12:Nat×List Value:=(r7,[vI (AW x),vU (AY x)]);let bs11:AD:=[e6,e12];aI (Eq.refl r1) (aI (Eq.refl r7) (aI (cv B bs11 [] rs10 [] λW hS=>Br 0 x ep ep ep W (hg.below hS.bl)) (aI (DR r1) (aI trivial (let e14:Nat×List Value:=(r1,[vI (AW (0+x)),vU (AY (0+x))]);aI (Eq.refl b) (λ(r15:Nat)=>let rs18:Aw:=[(0,165,2),(1,165,2),(2,165,2)];aI (DR r15) (aI trivial (let e20:Nat×List Value:=(r15,[vI (AW y),vU (AY y)]);let bs19:AD:=[e14,e12,e20];aI (Eq.refl r1) (aI (Eq.refl r15) (aI (cv B bs19 [] rs18 [] λW hS=>Br (0+x) y ep ep ep W (hg.below hS.bl)) (aI (DR r1) (aI trivial (let e22:Nat×List Value:=(r1,[vI (AW ((0+x)+y)),vU (AY ((0+x)+y))]);let bs21:AD:=[e22,e12,e20];aI (Eq.refl r1) (aI (cv B bs21 [] rs18 [] λW hS=>Bg ((0+x)+y) 15 eo ep W) (aI (DR r1) (aI trivial (let e24:Nat×List Value:=(r1,[vI (AW (Al ((0+x)+y) (AI 15))),vU (AY (Al ((0+x)+y) (AI 15)))]);let bs23:AD:=[e24,e12,e20];aI (Eq.refl r1) (aI (cv B bs23 [] rs18 [] λW hS=>Cn (Al ((0+x)+y) (AI 15)) W) (aI trivial ((show AO B R bs23 [] rs18 [] (vI (Ae (Al ((0+x)+y) (AI 15))))from by
     exactλW hS=>⟨by rw[Int.zero_add,Jf (MK en)],hS.bl⟩))))))))))))))))))))))))))))))
theorem Kv(b:Nat)(x:Int)(hx: -1152921504606846976<=x/\x<=1152921504606846976)(w:World)(hg:GN w)(c0:w.cell? ⟨b,0,none⟩=some (.int .i64 (AW x)))(c1:w.cell? ⟨b,1,none⟩=some (.int .u64 (AY x))):Calls Tryz.prog 147 #[.int .i64 7,.slice (some ⟨b,0,none⟩) 1 1] w (λe w'=>e=.returned (.int .i64 (Al (x) (AI 7)))/\Below w.heap.size w w'):=by
 exact(let B:Base:=(⟨w,λ_=>False⟩:Base);let R:Ending->World->Prop:=(λe w'=>e=.returned (.int .i64 (Al (x) (AI 7)))/\Below w.heap.size w w');AC (f:=147) (B:=B) (R:=R) (es:=[(b,[.int .i64 (AW x),.int .u64 (AY x)])]) (c:=Tryz.f147.body.getD .skip) (tmps:=#[vI 7,vS b 1 1,vN,vN,vN,vN,vN,vN,vN,vN,vN,vN,vN,vN,vN,vN,vN,vN,vN,vN,vN,vN,vN,vN,vN,vN,vN,vN,vN,vN,vN,vN,vN,vN,vN,vN])
  (.s [.c,.c,.v,.c,.c,.c,.call (.agg #[vI (AW 0),vU (AY 0)])] (.new (λr1=>.s [.put 0] (.s [.c,.c,.c,.c,.v,.v,.v,.c,.c,.c,.c,.c,.v,.c,.c,.c,.c,.c,.c,.c,.c,.v,.ext 0] (.new (λr7=>.s [.put 1] (.s [.c,.c,.own 0,.own 1,.call (.tuple #[.agg #[vI (AW (0+x)),vU (AY (0+x))],vI 0]),.v,.v,.v,.put 0] (.s [.c,.c,.c,.v,.v,.c,.c,.c,.c,.v,.c,.c,.c,.c,.c,.c,.own 0,.v,.call (.tuple #[.agg #[vI (AW (Al (0+x) (AI 7))),vU (AY (Al (0+x) (AI 7)))],vI 0]),.v,.v,.v,.put 0] (.s [.c,.c,.c,.own 0,.call (.tuple #[vI (Ae (Al (0+x) (AI 7))),vI (CN (Al (0+x) (AI 7)))]),.v,.v,.v,.v,.v,.c,.c,.c,.v,.v,.c] (.ret []))))))))))
  el (Sx.refl w _) (by exact ExX.cons (Ib (λh=>h) (show Az w b 0 [.int .i64 (AW x),.int .u64 (AY x)]from by exact⟨c0,c1,trivial⟩)) (ExX.nil)) Tryz.func147 el el (Eq.mp el (aI (cv B [] [] [] [] λW hS=>Cg 0 eo W) (λ(r1:Nat)=>aI (DR r1) (aI trivial (let e6:Nat×List Value:=(r1,[vI (AW 0),vU (AY 0)]);aI (Eq.refl b) (λ(r7:Nat)=>let rs10:Aw:=[(0,165,2),(1,165,2)];aI (DR r7) (aI trivial (let e12:Nat×List Value:=(r7,[vI (AW x),vU (AY x)]);let bs11:AD:=[e6,e12];aI (Eq.refl r1) (aI (Eq.refl r7) (aI (cv B bs11 [] rs10 [] λW hS=>Br 0 x ep ep ep W (hg.below hS.bl)) (aI (DR r1) (aI trivial (let e14:Nat×List Value:=(r1,[vI (AW (0+x)),vU (AY (0+x))]);let bs13:AD:=[e14,e12];aI (Eq.refl r1) (aI (cv B bs13 [] rs10 [] λW hS=>Bg (0+x) 7 eo ep W) (aI (DR r1) (aI trivial (let e16:Nat×List Value:=(r1,[vI (AW (Al (0+x) (AI 7))),vU (AY (Al (0+x) (AI 7)))]);let bs15:AD:=[e16,e12];aI (Eq.refl r1) (aI (cv B bs15 [] rs10 [] λW hS=>Cn (Al (0+x) (AI 7)) W) (aI trivial ((show AO B R bs15 [] rs10 [] (vI (Ae (Al (0+x) (AI 7))))from by
     exactλW hS=>⟨by rw[Int.zero_add,Jf (Oy en)],hS.bl⟩))))))))))))))))))))))
theorem Fz(x:Nat->Int)(t:Int)(hx: ∀i,Ai (x i))(ht:Ai t)(w:World)(hg:GN w):Calls Tryz.prog 97 #[.agg #[.int .i64 (x 0),.int .i64 (x 1),.int .i64 (x 2)],.int .i64 t] w (λe w'=>e=.returned (.tuple #[.agg #[.int .i64 (B9 x t 0),.int .i64 (B9 x t 1),.int .i64 (B9 x t 2)],.int .i64 (E7 x t)])/\Below w.heap.size w w'):=by
 exact(let B:Base:=(⟨w,λ_=>False⟩:Base);let R:Ending->World->Prop:=(λe w'=>e=.returned (.tuple #[.agg #[.int .i64 (B9 x t 0),.int .i64 (B9 x t 1),.int .i64 (B9 x t 2)],.int .i64 (E7 x t)])/\Below w.heap.size w w');AC (f:=97) (B:=B) (R:=R) (es:=[]) (c:=Tryz.f97.body.getD .skip) (tmps:=#[.agg #[vI (x 0),vI (x 1),vI (x 2)],vI t,vN,vN,vN,vN,vN,vN,vN,vN,vN,vN,vN,vN,vN,vN,vN,vN,vN,vN,vN,vN,vN,vN,vN,vN,vN,vN,vN,vN,vN,vN,vN,vN,vN,vN,vN,vN,vN,vN,vN,vN,vN,vN])
  (.s [.c,.c] (.new (λr1=>.new (λr5=>.s [.v,.c,.c,.c,.c,.own 0,.call (.bool (Ab x)),.v,.v] (.split 11 (.s [.u,.u,.u,.v,.c,.c,.c,.c,.v,.put 1,.v,.c] (.ret [1])) (.s [.v,.call (.bool (AL t)),.v,.v,.c] (.split 15 (.s [.c,.c,.c,.v,.put 1,.v,.c] (.ret [1])) (.s [.c,.c,.c,.c,.v,.v,.own 0,.call (.tuple #[vI (AR t (x 2) (t-(x 2))),vI (AX t (x 2) (t-(x 2)))]),.v,.v,.v,.v,.v,.c,.c,.c,.c,.v,.v,.c] (.split 25 (.s [.c,.c,.c,.v,.v,.put 1,.v,.c] (.ret [1])) (.s [.c,.c,.c,.d [],.at 0 false,.own 0,.at 1 false,.v,.at 2 false,.own 0,.at 4 false,.v,.at 8 false,.v,.at 3 true,.call (.agg #[vI (AW ((x 1)*256)),vU (AY ((x 1)*256))]),.at 5 true,.call (.agg #[vI (AW (AR t (x 2) (t-(x 2)))),vU (AY (AR t (x 2) (t-(x 2))))]),.at 6 true] (.new (λr15=>.s [.at 7 true,.call (vI (Al (((x 1)*256)+(AR t (x 2) (t-(x 2)))) (AI 15))),.at 9 true,.call (.agg #[vI (AW (AR t (x 2) (t-(x 2)))),vU (AY (AR t (x 2) (t-(x 2))))]),.at 10 true] (.new (λr19=>.s [.at 11 true,.call (vI (Al (AR t (x 2) (t-(x 2))) (AI 7))),.at 12 false,.v,.at 13 true,.call (.tuple #[.agg #[vI (Bi x (v3 (Al (((x 1)*256)+(AR t (x 2) (t-(x 2)))) (AI 15)) (Al (AR t (x 2) (t-(x 2))) (AI 7)) 0) 0),vI (Bi x (v3 (Al (((x 1)*256)+(AR t (x 2) (t-(x 2)))) (AI 15)) (Al (AR t (x 2) (t-(x 2))) (AI 7)) 0) 1),vI (Bi x (v3 (Al (((x 1)*256)+(AR t (x 2) (t-(x 2)))) (AI 15)) (Al (AR t (x 2) (t-(x 2))) (AI 7)) 0) 2)],vI (Eb x (v3 (Al (((x 1)*256)+(AR t (x 2) (t-(x 2)))) (AI 15)) (Al (AR t (x 2) (t-(x 2))) (AI 7)) 0))]),.at 14 false,.v,.at 15 false,.v,.at 16 true,.put 1] (.s [.at 17 false,.v,.c] (.ret [1]))))))))))))))))
  el (Sx.refl w _) ExX.nil Tryz.func97 el el (Eq.mp el (λ(r1:Nat)=>let e3:Nat×List Value:=(r1,[vI (x 0),vI (x 1),vI (x 2)]); λ(r5:Nat)=>let e7:Nat×List Value:=(r5,[vI 0,vI 0,vI 0]);let bs6:AD:=[e3,e7];let rs8:Aw:=[(0,23,3),(1,23,3)];aI (Eq.refl r1) (aI (cv B bs6 [] rs8 [] λW hS=>DY x hx W) (And.intro (λ(h90:(!(Ab x))=true)=>hv (show(Ab x)=false from(by simpa using h90)) (λh9=>aI (Dm r5) (aI trivial (aI (A_ r5) ((show AO B R bs6 [] rs8 [] (.tuple #[.agg #[vI 0,vI 0,vI 0],vI 1])from by
     have F:=Vm (x:=x) (t:=t) (by rw[h9];rfl)
     exactλW hS=>⟨by simp only[F.1,F.2],hS.bl⟩)))))) (λ(h100:(!(Ab x))=false)=>hv (show(Ab x)=true from(by simpa using h100)) (λh10=>hv (fitB_true.1 (Ch h10).1) (λX0=>hv (fitB_true.1 (Ch h10).2.1) (λX1=>hv (fitB_true.1 (Ch h10).2.2) (λX2=>aI (cw B bs6 [] rs8 [] λW hS=>As t W) (And.intro (λ(h110:(!(AL t))=true)=>hv (show(AL t)=false from(by simpa using h110)) (λh11=>aI (Dm r5) (aI trivial (aI (A_ r5) ((show AO B R bs6 [] rs8 [] (.tuple #[.agg #[vI 0,vI 0,vI 0],vI 1])from by
     have F:=Vm (x:=x) (t:=t) (by rw[h10,h11];rfl)
     exactλW hS=>⟨by simp only[F.1,F.2],hS.bl⟩)))))) (λ(h120:(!(AL t))=false)=>hv (show(AL t)=true from(by simpa using h120)) (λh12=>hv (fitB_true.1 h12) (λT0=>aI (Eq.refl r1) (aI (cv B bs6 [] rs8 [] λW hS=>K8 t (x 2) W) (And.intro (λ(h13:((AX t (x 2) (t-(x 2)))!=0)=true)=>hv (show¬((AX t (x 2) (t-(x 2)))=0)from(by simpa using h13)) (λh13p=>hv (SI (z:=t-x 2) h12 (Ch h10).2.2 h13p) (λGd=>aI (Dm r5) (aI trivial (aI (A_ r5) ((show AO B R bs6 [] rs8 [] (.tuple #[.agg #[vI 0,vI 0,vI 0],vI (AX t (x 2) (t-(x 2)))])from by
     have A:(Ab x&&AL t)=true:=by rw[h10,h12];rfl
     have F:=WJ A Gd.2
     exactλW hS=>⟨by simp only[F.1,F.2,Gd.1],hS.bl⟩))))))) ((show((AX t (x 2) (t-(x 2)))!=0)=false->r1=r1/\r1=r1/\CallVX Tryz.prog B bs6 [] rs8 [] 148 #[vI (x 1),vI 256] (.agg #[vI (AW ((x 1)*256)),vU (AY ((x 1)*256))])/\CallVX Tryz.prog B bs6 [] rs8 [] 109 #[vI (AR t (x 2) (t-(x 2)))] (.agg #[vI (AW (AR t (x 2) (t-(x 2)))),vU (AY (AR t (x 2) (t-(x 2))))])/\(∀r15:Nat,let e17:Nat×List Value:=(r15,[vI (AW ((x 1)*256)),vU (AY ((x 1)*256)),vI (AW (AR t (x 2) (t-(x 2)))),vU (AY (AR t (x 2) (t-(x 2))))]);let bs16:AD:=[e3,e7,e17];let rs18:Aw:=[(0,23,3),(1,23,3),(2,165,4)];(CallVX Tryz.prog B bs16 [] rs18 [] 147 #[vI 15,vS r15 2 2] (vI (Al (((x 1)*256)+(AR t (x 2) (t-(x 2)))) (AI 15)))/\CallVX Tryz.prog B bs16 [] rs18 [] 109 #[vI (AR t (x 2) (t-(x 2)))] (.agg #[vI (AW (AR t (x 2) (t-(x 2)))),vU (AY (AR t (x 2) (t-(x 2))))])/\(∀r19:Nat,let e21:Nat×List Value:=(r19,[vI (AW (AR t (x 2) (t-(x 2)))),vU (AY (AR t (x 2) (t-(x 2))))]);let bs20:AD:=[e3,e7,e17,e21];let rs22:Aw:=[(0,23,3),(1,23,3),(2,165,4),(3,165,2)];(CallVX Tryz.prog B bs20 [] rs22 [] 147 #[vI 7,vS r19 1 1] (vI (Al (AR t (x 2) (t-(x 2))) (AI 7)))/\CallVX Tryz.prog B bs20 [] rs22 [] 146 #[.agg #[vI (x 0),vI (x 1),vI (x 2)],.agg #[vI (Al (((x 1)*256)+(AR t (x 2) (t-(x 2)))) (AI 15)),vI (Al (AR t (x 2) (t-(x 2))) (AI 7)),vI 0]] (.tuple #[.agg #[vI (Bi x (v3 (Al (((x 1)*256)+(AR t (x 2) (t-(x 2)))) (AI 15)) (Al (AR t (x 2) (t-(x 2))) (AI 7)) 0) 0),vI (Bi x (v3 (Al (((x 1)*256)+(AR t (x 2) (t-(x 2)))) (AI 15)) (Al (AR t (x 2) (t-(x 2))) (AI 7)) 0) 1),vI (Bi x (v3 (Al (((x 1)*256)+(AR t (x 2) (t-(x 2)))) (AI 15)) (Al (AR t (x 2) (t-(x 2))) (AI 7)) 0) 2)],vI (Eb x (v3 (Al (((x 1)*256)+(AR t (x 2) (t-(x 2)))) (AI 15)) (Al (AR t (x 2) (t-(x 2))) (AI 7)) 0))])/\(r5=r5/\(r5=r5/\(r5=r5/\(True))))/\(True)/\(let e24:Nat×List Value:=(r5,[vI (Bi x (v3 (Al (((x 1)*256)+(AR t (x 2) (t-(x 2)))) (AI 15)) (Al (AR t (x 2) (t-(x 2))) (AI 7)) 0) 0),vI (Bi x (v3 (Al (((x 1)*256)+(AR t (x 2) (t-(x 2)))) (AI 15)) (Al (AR t (x 2) (t-(x 2))) (AI 7)) 0) 1),vI (Bi x (v3 (Al (((x 1)*256)+(AR t (x 2) (t-(x 2)))) (AI 15)) (Al (AR t (x 2) (t-(x 2))) (AI 7)) 0) 2)]);let bs23:AD:=[e3,e24,e17,e21];((r5=r5/\(True))/\(AO B R bs23 [] rs22 [] (.tuple #[.agg #[vI (Bi x (v3 (Al (((x 1)*256)+(AR t (x 2) (t-(x 2)))) (AI 15)) (Al (AR t (x 2) (t-(x 2))) (AI 7)) 0) 0),vI (Bi x (v3 (Al (((x 1)*256)+(AR t (x 2) (t-(x 2)))) (AI 15)) (Al (AR t (x 2) (t-(x 2))) (AI 7)) 0) 1),vI (Bi x (v3 (Al (((x 1)*256)+(AR t (x 2) (t-(x 2)))) (AI 15)) (Al (AR t (x 2) (t-(x 2))) (AI 7)) 0) 2)],vI (Eb x (v3 (Al (((x 1)*256)+(AR t (x 2) (t-(x 2)))) (AI 15)) (Al (AR t (x 2) (t-(x 2))) (AI 7)) 0))]))))))))from by
     intro h14
     have h14p:(AX t (x 2) (t-(x 2)))=0:=(by simpa using h14)
     obtain⟨Gd,hd⟩:=SW (z:=t-x 2) h12 (Ch h10).2.2 h14p
     have D0:=fitB_true.1 hd
     exact(aI (Eq.refl r1) (aI (Eq.refl r1) (aI (cv B bs6 [] rs8 [] λW hS=>Ah (x 1) 256 (hx 1) eo W (hg.below hS.bl)) (aI (cv B bs6 [] rs8 [] λW hS=>Cg (AR t (x 2) (t-(x 2))) eu W) (λ(r15:Nat)=>let e17:Nat×List Value:=(r15,[vI (AW ((x 1)*256)),vU (AY ((x 1)*256)),vI (AW (AR t (x 2) (t-(x 2)))),vU (AY (AR t (x 2) (t-(x 2))))]);let bs16:AD:=[e3,e7,e17];let rs18:Aw:=[(0,23,3),(1,23,3),(2,165,4)];aI (cv B bs16 [] rs18 [] λW hS=>KG r15 ((x 1)*256) (AR t (x 2) (t-(x 2))) en en W (hg.below hS.bl) (hS.cell 2 0 rfl rfl) (hS.cell 2 1 rfl rfl) (hS.cell 2 2 rfl rfl) (hS.cell 2 3 rfl rfl)) (aI (cv B bs16 [] rs18 [] λW hS=>Cg (AR t (x 2) (t-(x 2))) eu W) (λ(r19:Nat)=>let e21:Nat×List Value:=(r19,[vI (AW (AR t (x 2) (t-(x 2)))),vU (AY (AR t (x 2) (t-(x 2))))]);let bs20:AD:=[e3,e7,e17,e21];let rs22:Aw:=[(0,23,3),(1,23,3),(2,165,4),(3,165,2)];aI (cv B bs20 [] rs22 [] λW hS=>Kv r19 (AR t (x 2) (t-(x 2))) en W (hg.below hS.bl) (hS.cell 3 0 rfl rfl) (hS.cell 3 1 rfl rfl)) (aI (cv B bs20 [] rs22 [] λW hS=>LL x (v3 (Al (((x 1)*256)+(AR t (x 2) (t-(x 2)))) (AI 15)) (Al (AR t (x 2) (t-(x 2))) (AI 7)) 0) hx (Hj (p:=Ai) (MK en) (Oy en) eo) W) (aI (Dm r5) (aI trivial (let e24:Nat×List Value:=(r5,[vI (Bi x (v3 (Al (((x 1)*256)+(AR t (x 2) (t-(x 2)))) (AI 15)) (Al (AR t (x 2) (t-(x 2))) (AI 7)) 0) 0),vI (Bi x (v3 (Al (((x 1)*256)+(AR t (x 2) (t-(x 2)))) (AI 15)) (Al (AR t (x 2) (t-(x 2))) (AI 7)) 0) 1),vI (Bi x (v3 (Al (((x 1)*256)+(AR t (x 2) (t-(x 2)))) (AI 15)) (Al (AR t (x 2) (t-(x 2))) (AI 7)) 0) 2)]);let bs23:AD:=[e3,e24,e17,e21];aI (A_ r5) ((show AO B R bs23 [] rs22 [] (.tuple #[.agg #[vI (Bi x (v3 (Al (((x 1)*256)+(AR t (x 2) (t-(x 2)))) (AI 15)) (Al (AR t (x 2) (t-(x 2))) (AI 7)) 0) 0),vI (Bi x (v3 (Al (((x 1)*256)+(AR t (x 2) (t-(x 2)))) (AI 15)) (Al (AR t (x 2) (t-(x 2))) (AI 7)) 0) 1),vI (Bi x (v3 (Al (((x 1)*256)+(AR t (x 2) (t-(x 2)))) (AI 15)) (Al (AR t (x 2) (t-(x 2))) (AI 7)) 0) 2)],vI (Eb x (v3 (Al (((x 1)*256)+(AR t (x 2) (t-(x 2)))) (AI 15)) (Al (AR t (x 2) (t-(x 2))) (AI 7)) 0))])from by
      have F:=Ue h10 h12 hd
      exactλW hS=>⟨by rw[Gd,F.1,F.2.1,F.2.2.1,F.2.2.2],hS.bl⟩)))))))))))))))))))))))))))))))
theorem MT(x b:Nat->Int)(hx: ∀i,Ai (x i))(hb: ∀i,Ai (b i))(w:World):Calls Tryz.prog 151 #[.agg #[.int .i64 (x 0),.int .i64 (x 1),.int .i64 (x 2)],.agg #[.int .i64 (b 0),.int .i64 (b 1),.int .i64 (b 2)]] w (λe w'=>e=.returned (.agg #[.int .i64 (Ac (x 0) (b 0)),.int .i64 (Ac (x 1) (b 1)),.int .i64 (Ac (x 2) (b 2))])/\Below w.heap.size w w'):=by
 exact(let B:Base:=(⟨w,λ_=>False⟩:Base);let R:Ending->World->Prop:=(λe w'=>e=.returned (.agg #[.int .i64 (Ac (x 0) (b 0)),.int .i64 (Ac (x 1) (b 1)),.int .i64 (Ac (x 2) (b 2))])/\Below w.heap.size w w');AC (f:=151) (B:=B) (R:=R) (es:=[]) (c:=Tryz.f151.body.getD .skip) (tmps:=#[.agg #[vI (x 0),vI (x 1),vI (x 2)],.agg #[vI (b 0),vI (b 1),vI (b 2)],vN,vN,vN,vN,vN,vN])
  (.s [.c,.c] (.new (λr1=>.new (λr5=>.new (λr9=>.s [.c,.c,.c,.own 0,.own 1,.call (.agg #[vI (Ac (x 0) (b 0)),vI (Ac (x 1) (b 1)),vI (Ac (x 2) (b 2))]),.put 2] (.s [.c] (.ret [2])))))))
  el (Sx.refl w _) ExX.nil Tryz.func151 el el (Eq.mp el (λ(r1:Nat)=>let e3:Nat×List Value:=(r1,[vI (x 0),vI (x 1),vI (x 2)]); λ(r5:Nat)=>let e7:Nat×List Value:=(r5,[vI (b 0),vI (b 1),vI (b 2)]); λ(r9:Nat)=>let e11:Nat×List Value:=(r9,[vI 0,vI 0,vI 0]);let bs10:AD:=[e3,e7,e11];let rs12:Aw:=[(0,23,3),(1,23,3),(2,23,3)];aI (Eq.refl r1) (aI (Eq.refl r5) (aI (cv B bs10 [] rs12 [] λW hS=>KV x b hx hb W) (aI (Dm r9) (aI trivial (let e14:Nat×List Value:=(r9,[vI (Ac (x 0) (b 0)),vI (Ac (x 1) (b 1)),vI (Ac (x 2) (b 2))]);let bs13:AD:=[e3,e7,e14];aI (A_ r9) ((show AO B R bs13 [] rs12 [] (.agg #[vI (Ac (x 0) (b 0)),vI (Ac (x 1) (b 1)),vI (Ac (x 2) (b 2))])from by
     exactλW hS=>⟨rfl,hS.bl⟩))))))))))
end
section
def sp(b:Int):Int:=Al (b*256) (AI 15)
end
end Go.Proofs.YtikajapjkdloaaaGreatDoor
