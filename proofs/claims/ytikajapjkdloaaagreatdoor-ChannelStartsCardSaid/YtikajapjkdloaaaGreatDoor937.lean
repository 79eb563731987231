/- Layer 8 (spread): what a tick makes of a doubt; the reference's product; by plans. -/
import Derived.Test.YtikajapjkdloaaaGreatDoor936
import Derived.Test.YtikajapjkdloaaaGreatDoor918
import Derived.Test.YtikajapjkdloaaaGreatDoor931
import Derived.Test.YtikajapjkdloaaaGreatDoor929
import Derived.Test.YtikajapjkdloaaaGreatDoor928
namespace Go.Proofs.YtikajapjkdloaaaGreatDoor
set_option linter.unusedVariables false
set_option linter.unusedSimpArgs false
open Go.RowKit
section
theorem Rj{p:Nat->Int}(h:Ap p=true): ∀k,-314400000000000000000000000<=Aa p k/\Aa p k<=314400000000000000000000000:=by
 obtain⟨q0,q1,q2,q3,q4,q5⟩:=Ea h
 intro k
 rw[(LS h).2]
 match k with
 |0=>show _<=DW p/\DW p<=_;unfold DW;omega
 |1=>show _<=Dy p/\Dy p<=_;unfold Dy;omega
 |2=>show _<=Em p/\Em p<=_;unfold Em;omega
 |3=>show _<=FX p/\FX p<=_;unfold FX;omega
 |4=>show _<=HU p/\HU p<=_;unfold HU;omega
 |_+5=>show _<=J6 p/\J6 p<=_;unfold J6;omega
theorem KO{p:Nat->Int}(h:Ap p=true)(k:Nat):AS (Aa p k):=by have:=Rj h k;unfold AS;omega
theorem TS:AI 30=1073741824:=by decide
def SP(p:Nat->Int)(k:Nat):Int:=Al (Aa p k) (AI 30)
theorem TT{p:Nat->Int}(h:Ap p=true)(k:Nat):Ai (SP p k):=by
 have:=Rj h k
 unfold SP Al;rw[TS];unfold Ai;split<;>omega
theorem BL{p:Nat->Int}(h:Ap p=true)(k:Nat):Ae (Al (Aa p k) (AI 30))=SP p k/\CN (Al (Aa p k) (AI 30))=0:=by
 have:=TT h k
 unfold SP at this⊢
 exact⟨by unfold Ae;rw[if_pos this],by unfold CN;rw[if_pos this]⟩
def OE(p:Nat->Int):Nat->Int:=v6 (SP p 0) (SP p 1) (SP p 2) (SP p 3) (SP p 4) (SP p 5)
def WA(d:Nat->Int):Nat->Int:=v6 (d 0) 0 0 (d 1) 0 (d 2)
def EN(p d:Nat->Int):Int:=if Ap p&&Ab d then(if Ap (OE p)then BD (OE p) (WA d)else 3)else 1
def B0(p d:Nat->Int)(i:Nat):Int:=if Ap p&&Ab d then(if Ap (OE p)then AF (OE p) (WA d) i else 0)else 0
theorem V3{p d:Nat->Int}(h:(Ap p&&Ab d)=false):EN p d=1/\ ∀i,B0 p d i=0:=⟨by unfold EN;rw[h];rfl,λi=>by unfold B0;rw[h];rfl⟩
theorem PN{p d:Nat->Int}(h:Ap p=true)(h2:Ab d=true)(h3:Ap (OE p)=false):EN p d=3/\ ∀i,B0 p d i=0:=⟨by unfold EN;rw[h,h2,h3];rfl,λi=>by unfold B0;rw[h,h2,h3];rfl⟩
theorem WG{p d:Nat->Int}(h:Ap p=true)(h2:Ab d=true)(h3:Ap (OE p)=true):EN p d=BD (OE p) (WA d)/\ ∀i,B0 p d i=AF (OE p) (WA d) i:=⟨by unfold EN;rw[h,h2,h3];rfl,λi=>by unfold B0;rw[h,h2,h3];rfl⟩
theorem SC{p:Nat->Int}(h:IV p=0):Ap p=true:=by
 cases q:Ap p
 ·rw[(Rd q).1]at h;cases h
 rfl
theorem Q_{p:Nat->Int}(h: ¬IV p=0):Ap p=false:=by
 cases q:Ap p
 ·rfl
 exact absurd (LS q).1 h
set_option maxRecDepth 1000000 in
set_option maxHeartbeats 8000000 in
theorem CP(p d:Nat->Int)(hp6: ∀i,Ai (p i))(hd: ∀i,Ai (d i))(w:World)(hg:GN w)(hp:GP w)(hgr:GR w):Calls Tryz.prog 98 #[.agg #[.int .i64 (p 0),.int .i64 (p 1),.int .i64 (p 2),.int .i64 (p 3),.int .i64 (p 4),.int .i64 (p 5)],.agg #[.int .i64 (d 0),.int .i64 (d 1),.int .i64 (d 2)]] w (λe w'=>e=.returned (.tuple #[.agg #[.int .i64 (B0 p d 0),.int .i64 (B0 p d 1),.int .i64 (B0 p d 2),.int .i64 (B0 p d 3),.int .i64 (B0 p d 4),.int .i64 (B0 p d 5)],.int .i64 (EN p d)])/\Below w.heap.size w w'):=by
 exact(let B:Base:=(⟨w,λ_=>False⟩:Base);let R:Ending->World->Prop:=(λe w'=>e=.returned (.tuple #[.agg #[.int .i64 (B0 p d 0),.int .i64 (B0 p d 1),.int .i64 (B0 p d 2),.int .i64 (B0 p d 3),.int .i64 (B0 p d 4),.int .i64 (B0 p d 5)],.int .i64 (EN p d)])/\Below w.heap.size w w');AC (f:=98) (B:=B) (R:=R) (es:=[]) (c:=Tryz.f98.body.getD .skip) (tmps:=(Gn [.agg #[vI (p 0),vI (p 1),vI (p 2),vI (p 3),vI (p 4),vI (p 5)],.agg #[vI (d 0),vI (d 1),vI (d 2)]] 59))
  (.s [.c,.c] (.new (λr1=>.new (λr5=>.new (λr9=>.s [.v,.c,.c,.c,.own 0,.call (.tuple #[.agg #[vI (AW (Aa p 0)),vU (AY (Aa p 0)),vI (AW (Aa p 1)),vU (AY (Aa p 1)),vI (AW (Aa p 2)),vU (AY (Aa p 2)),vI (AW (Aa p 3)),vU (AY (Aa p 3)),vI (AW (Aa p 4)),vU (AY (Aa p 4)),vI (AW (Aa p 5)),vU (AY (Aa p 5))],vI (IV p)]),.v,.v,.v] (.new (λr13=>.s [.put 3] (.s [.v,.c,.c,.c,.c,.v,.v,.v] (.split 22 (.s [.u,.u,.u,.v,.c,.c,.c,.c,.v,.put 2,.v,.c] (.ret [2])) (.s [.own 1,.call (.bool (Ab d)),.v,.v,.c] (.split 26 (.s [.c,.c,.c,.v,.put 2,.v,.c] (.ret [2])) (.s [.c,.c,.c,.c] (.new (λr23=>.s [.c,.c,.c,.c,.own 3,.v,.c,.c,.c,.c,.c,.v,.c,.c,.c,.c,.c,.c,.c,.c,.v,.v] (.new (λr27=>.s [.v,.put 5] (.s [.c,.c,.c,.own 5,.call (.tuple #[.agg #[vI (AW (Al (Aa p 0) (AI 30))),vU (AY (Al (Aa p 0) (AI 30)))],vI 0]),.v,.v,.v] (.new (λr33=>.s [.put 6] (.s [.v,.c,.c,.c,.own 6,.call (.tuple #[vI (Ae (Al (Aa p 0) (AI 30))),vI (CN (Al (Aa p 0) (AI 30)))]),.v,.v,.v,.v,.v,.c,.c,.c,.c,.v,.v,.v,.setv 45 (vF),.v,.call (.bool (AL (Ae (Al (Aa p 0) (AI 30))))),.v,.v,.c] (.split 49 (.s [.c,.c,.c,.v,.put 2,.v,.c] (.ret [2])) (.s [.c,.c,.c,.v,.v,.v,.put 4] (.s [.c,.c,.c,.v,.v,.c,.c,.c,.c,.v,.c,.c,.c,.c,.c,.c,.c,.c,.v,.v] (.new (λr43=>.s [.v,.put 7] (.s [.c,.c,.c,.own 7,.call (.tuple #[.agg #[vI (AW (Al (Aa p 1) (AI 30))),vU (AY (Al (Aa p 1) (AI 30)))],vI 0]),.v,.v,.v] (.new (λr49=>.s [.put 8] (.s [.v,.c,.c,.c,.own 8,.call (.tuple #[vI (Ae (Al (Aa p 1) (AI 30))),vI (CN (Al (Aa p 1) (AI 30)))]),.v,.v,.v,.v,.v,.c,.c,.c,.c,.v,.v,.v,.setv 45 (vF),.v,.call (.bool (AL (Ae (Al (Aa p 1) (AI 30))))),.v,.v,.c] (.split 49 (.s [.c,.c,.c,.v,.put 2,.v,.c] (.ret [2])) (.s [.c,.c,.c,.v,.v,.v,.put 4] (.s [.c,.c,.c,.v,.v,.c,.c,.c,.c,.v,.c,.c,.c,.c,.c,.c,.c,.c,.v,.v] (.new (λr59=>.s [.v,.put 9] (.s [.c,.c,.c,.own 9,.call (.tuple #[.agg #[vI (AW (Al (Aa p 2) (AI 30))),vU (AY (Al (Aa p 2) (AI 30)))],vI 0]),.v,.v,.v] (.new (λr65=>.s [.put 10] (.s [.v,.c,.c,.c,.own 10,.call (.tuple #[vI (Ae (Al (Aa p 2) (AI 30))),vI (CN (Al (Aa p 2) (AI 30)))]),.v,.v,.v,.v,.v,.c,.c,.c,.c,.v,.v,.v,.setv 45 (vF),.v,.call (.bool (AL (Ae (Al (Aa p 2) (AI 30))))),.v,.v,.c] (.split 49 (.s [.c,.c,.c,.v,.put 2,.v,.c] (.ret [2])) (.s [.c,.c,.c,.v,.v,.v,.put 4] (.s [.c,.c,.c,.v,.v,.c,.c,.c,.c,.v,.c,.c,.c,.c,.c,.c,.c,.c,.v,.v] (.new (λr75=>.s [.v,.put 11] (.s [.c,.c,.c,.own 11,.call (.tuple #[.agg #[vI (AW (Al (Aa p 3) (AI 30))),vU (AY (Al (Aa p 3) (AI 30)))],vI 0]),.v,.v,.v] (.new (λr81=>.s [.put 12] (.s [.v,.c,.c,.c,.own 12,.call (.tuple #[vI (Ae (Al (Aa p 3) (AI 30))),vI (CN (Al (Aa p 3) (AI 30)))]),.v,.v,.v,.v,.v,.c,.c,.c,.c,.v,.v,.v,.setv 45 (vF),.v,.call (.bool (AL (Ae (Al (Aa p 3) (AI 30))))),.v,.v,.c] (.split 49 (.s [.c,.c,.c,.v,.put 2,.v,.c] (.ret [2])) (.s [.c,.c,.c,.v,.v,.v,.put 4] (.s [.c,.c,.c,.v,.v,.c,.c,.c,.c,.v,.c,.c,.c,.c,.c,.c,.c,.c,.v,.v] (.new (λr91=>.s [.v,.put 13] (.s [.c,.c,.c,.own 13,.call (.tuple #[.agg #[vI (AW (Al (Aa p 4) (AI 30))),vU (AY (Al (Aa p 4) (AI 30)))],vI 0]),.v,.v,.v] (.new (λr97=>.s [.put 14] (.s [.v,.c,.c,.c,.own 14,.call (.tuple #[vI (Ae (Al (Aa p 4) (AI 30))),vI (CN (Al (Aa p 4) (AI 30)))]),.v,.v,.v,.v,.v,.c,.c,.c,.c,.v,.v,.v,.setv 45 (vF),.v,.call (.bool (AL (Ae (Al (Aa p 4) (AI 30))))),.v,.v,.c] (.split 49 (.s [.c,.c,.c,.v,.put 2,.v,.c] (.ret [2])) (.s [.c,.c,.c,.v,.v,.v,.put 4] (.s [.c,.c,.c,.v,.v,.c,.c,.c,.c,.v,.c,.c,.c,.c,.c,.c,.c,.c,.v,.v] (.new (λr107=>.s [.v,.put 15] (.s [.c,.c,.c,.own 15,.call (.tuple #[.agg #[vI (AW (Al (Aa p 5) (AI 30))),vU (AY (Al (Aa p 5) (AI 30)))],vI 0]),.v,.v,.v] (.new (λr113=>.s [.put 16] (.s [.v,.c,.c,.c,.own 16,.call (.tuple #[vI (Ae (Al (Aa p 5) (AI 30))),vI (CN (Al (Aa p 5) (AI 30)))]),.v,.v,.v,.v,.v,.c,.c,.c,.c,.v,.v,.v,.setv 45 (vF),.v,.call (.bool (AL (Ae (Al (Aa p 5) (AI 30))))),.v,.v,.c] (.split 49 (.s [.c,.c,.c,.v,.put 2,.v,.c] (.ret [2])) (.s [.c,.c,.c,.v,.v,.v,.put 4] (.s [.c,.c,.c,.v,.v,.c,.c,.c,.c,.v,.c,.c,.c,.c,.c,.d [],.at 0 false,.own 4,.at 1 false,.own 1,.at 2 true,.call (.agg #[vI (d 0),vI 0,vI 0,vI (d 1),vI 0,vI (d 2)]),.at 3 true,.call (.tuple #[.agg #[vI (AF (v6 (Ae (Al (Aa p 0) (AI 30))) (Ae (Al (Aa p 1) (AI 30))) (Ae (Al (Aa p 2) (AI 30))) (Ae (Al (Aa p 3) (AI 30))) (Ae (Al (Aa p 4) (AI 30))) (Ae (Al (Aa p 5) (AI 30)))) (v6 (d 0) 0 0 (d 1) 0 (d 2)) 0),vI (AF (v6 (Ae (Al (Aa p 0) (AI 30))) (Ae (Al (Aa p 1) (AI 30))) (Ae (Al (Aa p 2) (AI 30))) (Ae (Al (Aa p 3) (AI 30))) (Ae (Al (Aa p 4) (AI 30))) (Ae (Al (Aa p 5) (AI 30)))) (v6 (d 0) 0 0 (d 1) 0 (d 2)) 1),vI (AF (v6 (Ae (Al (Aa p 0) (AI 30))) (Ae (Al (Aa p 1) (AI 30))) (Ae (Al (Aa p 2) (AI 30))) (Ae (Al (Aa p 3) (AI 30))) (Ae (Al (Aa p 4) (AI 30))) (Ae (Al (Aa p 5) (AI 30)))) (v6 (d 0) 0 0 (d 1) 0 (d 2)) 2),vI (AF (v6 (Ae (Al (Aa p 0) (AI 30))) (Ae (Al (Aa p 1) (AI 30))) (Ae (Al (Aa p 2) (AI 30))) (Ae (Al (Aa p 3) (AI 30))) (Ae (Al (Aa p 4) (AI 30))) (Ae (Al (Aa p 5) (AI 30)))) (v6 (d 0) 0 0 (d 1) 0 (d 2)) 3),vI (AF (v6 (Ae (Al (Aa p 0) (AI 30))) (Ae (Al (Aa p 1) (AI 30))) (Ae (Al (Aa p 2) (AI 30))) (Ae (Al (Aa p 3) (AI 30))) (Ae (Al (Aa p 4) (AI 30))) (Ae (Al (Aa p 5) (AI 30)))) (v6 (d 0) 0 0 (d 1) 0 (d 2)) 4),vI (AF (v6 (Ae (Al (Aa p 0) (AI 30))) (Ae (Al (Aa p 1) (AI 30))) (Ae (Al (Aa p 2) (AI 30))) (Ae (Al (Aa p 3) (AI 30))) (Ae (Al (Aa p 4) (AI 30))) (Ae (Al (Aa p 5) (AI 30)))) (v6 (d 0) 0 0 (d 1) 0 (d 2)) 5)],vI (BD (v6 (Ae (Al (Aa p 0) (AI 30))) (Ae (Al (Aa p 1) (AI 30))) (Ae (Al (Aa p 2) (AI 30))) (Ae (Al (Aa p 3) (AI 30))) (Ae (Al (Aa p 4) (AI 30))) (Ae (Al (Aa p 5) (AI 30)))) (v6 (d 0) 0 0 (d 1) 0 (d 2)))]),.at 4 false,.v,.at 5 false,.v,.at 6 true,.put 2] (.s [.at 7 false,.v,.c] (.ret [2]))))))))))))))))))))))))))))))))))))))))))))))))))))))))))))))))))))))
  el (Sx.refl w _) ExX.nil Tryz.func98 el el (Eq.mp el (λ(r1:Nat)=>let e3:Nat×List Value:=(r1,[vI (p 0),vI (p 1),vI (p 2),vI (p 3),vI (p 4),vI (p 5)]); λ(r5:Nat)=>let e7:Nat×List Value:=(r5,[vI (d 0),vI (d 1),vI (d 2)]); λ(r9:Nat)=>let e11:Nat×List Value:=(r9,[vI 0,vI 0,vI 0,vI 0,vI 0,vI 0]);let bs10:AD:=[e3,e7,e11];let rs12:Aw:=[(0,45,6),(1,23,3),(2,45,6)];aI (Eq.refl r1) (aI (cv B bs10 [] rs12 [] λW hS=>Nl p W (hg.below hS.bl) (hp.below hS.bl) (hgr.below hS.bl)) (λ(r13:Nat)=>let rs16:Aw:=[(0,45,6),(1,23,3),(2,45,6),(3,197,12)];aI (Uu r13) (aI trivial (let e18:Nat×List Value:=(r13,[vI (AW (Aa p 0)),vU (AY (Aa p 0)),vI (AW (Aa p 1)),vU (AY (Aa p 1)),vI (AW (Aa p 2)),vU (AY (Aa p 2)),vI (AW (Aa p 3)),vU (AY (Aa p 3)),vI (AW (Aa p 4)),vU (AY (Aa p 4)),vI (AW (Aa p 5)),vU (AY (Aa p 5))]);let bs17:AD:=[e3,e7,e11,e18];And.intro (λ(h19:((IV p)!=0)=true)=>hv (show¬((IV p)=0)from(by simpa using h19)) (λh19p=>hv (Q_ h19p) (λF6=>aI (FN r9) (aI trivial (aI (A_ r9) ((show AO B R bs17 [] rs16 [] (.tuple #[.agg #[vI 0,vI 0,vI 0,vI 0,vI 0,vI 0],vI 1])from by
     have F:=V3 (d:=d) (by rw[F6];rfl)
     exactλW hS=>⟨by simp only[F.1,F.2],hS.bl⟩))))))) (λ(h20:((IV p)!=0)=false)=>hv (show(IV p)=0 from(by simpa using h20)) (λh20p=>hv (SC h20p) (λF6=>aI (Eq.refl r5) (aI (cv B bs17 [] rs16 [] λW hS=>DY d hd W) (And.intro (λ(h210:(!(Ab d))=true)=>hv (show(Ab d)=false from(by simpa using h210)) (λh21=>aI (FN r9) (aI trivial (aI (A_ r9) ((show AO B R bs17 [] rs16 [] (.tuple #[.agg #[vI 0,vI 0,vI 0,vI 0,vI 0,vI 0],vI 1])from by
     have F:=V3 (p:=p) (d:=d) (by rw[h21,Bool.and_false])
     exactλW hS=>⟨by simp only[F.1,F.2],hS.bl⟩)))))) (λ(h220:(!(Ab d))=false)=>hv (show(Ab d)=true from(by simpa using h220)) (λh22=> λ(r23:Nat)=>let e25:Nat×List Value:=(r23,[vI 0,vI 0,vI 0,vI 0,vI 0,vI 0]);aI (Eq.refl r13) (λ(r27:Nat)=>let rs30:Aw:=[(0,45,6),(1,23,3),(2,45,6),(3,197,12),(4,45,6),(5,165,2)];aI (DR r27) (aI trivial (let e32:Nat×List Value:=(r27,[vI (AW (Aa p 0)),vU (AY (Aa p 0))]);let bs31:AD:=[e3,e7,e11,e18,e25,e32];aI (Eq.refl r27) (aI (cv B bs31 [] rs30 [] λW hS=>Bg (Aa p 0) 30 eo (KO F6 0) W) (λ(r33:Nat)=>let rs36:Aw:=[(0,45,6),(1,23,3),(2,45,6),(3,197,12),(4,45,6),(5,165,2),(6,165,2)];aI (DR r33) (aI trivial (let e38:Nat×List Value:=(r33,[vI (AW (Al (Aa p 0) (AI 30))),vU (AY (Al (Aa p 0) (AI 30)))]);let bs37:AD:=[e3,e7,e11,e18,e25,e32,e38];aI (Eq.refl r33) (aI (cv B bs37 [] rs36 [] λW hS=>Cn (Al (Aa p 0) (AI 30)) W) (aI (vB (a:=((CN (Al (Aa p 0) (AI 30)))!=0)) (b:=false) (by rw[(BL F6 0).2];rfl)) (aI (cw B bs37 [] rs36 [] λW hS=>As (Ae (Al (Aa p 0) (AI 30))) W) (And.intro (λ(h390:(!(AL (Ae (Al (Aa p 0) (AI 30)))))=true)=>hv (show(AL (Ae (Al (Aa p 0) (AI 30))))=false from(by simpa using h390)) (λh39=>aI (FN r9) (aI trivial (aI (A_ r9) ((show AO B R bs37 [] rs36 [] (.tuple #[.agg #[vI 0,vI 0,vI 0,vI 0,vI 0,vI 0],vI 3])from by
     have X0:=h39
     rw[(BL F6 0).1]at X0
     have F:=PN F6 h22 (Ca (k:=0) eo (show AL (OE p 0)=false from X0))
     exactλW hS=>⟨by simp only[F.1,F.2],hS.bl⟩)))))) (λ(h400:(!(AL (Ae (Al (Aa p 0) (AI 30)))))=false)=>hv (show(AL (Ae (Al (Aa p 0) (AI 30))))=true from(by simpa using h400)) (λh40=>aI (A_ r23) (aI trivial (let e42:Nat×List Value:=(r23,[vI (Ae (Al (Aa p 0) (AI 30))),vI 0,vI 0,vI 0,vI 0,vI 0]); λ(r43:Nat)=>let rs46:Aw:=[(0,45,6),(1,23,3),(2,45,6),(3,197,12),(4,45,6),(5,165,2),(6,165,2),(7,165,2)];aI (DR r43) (aI trivial (let e48:Nat×List Value:=(r43,[vI (AW (Aa p 1)),vU (AY (Aa p 1))]);let bs47:AD:=[e3,e7,e11,e18,e42,e32,e38,e48];aI (Eq.refl r43) (aI (cv B bs47 [] rs46 [] λW hS=>Bg (Aa p 1) 30 eo (KO F6 1) W) (λ(r49:Nat)=>let rs52:Aw:=[(0,45,6),(1,23,3),(2,45,6),(3,197,12),(4,45,6),(5,165,2),(6,165,2),(7,165,2),(8,165,2)];aI (DR r49) (aI trivial (let e54:Nat×List Value:=(r49,[vI (AW (Al (Aa p 1) (AI 30))),vU (AY (Al (Aa p 1) (AI 30)))]);let bs53:AD:=[e3,e7,e11,e18,e42,e32,e38,e48,e54];aI (Eq.refl r49) (aI (cv B bs53 [] rs52 [] λW hS=>Cn (Al (Aa p 1) (AI 30)) W) (aI (vB (a:=((CN (Al (Aa p 1) (AI 30)))!=0)) (b:=false) (by rw[(BL F6 1).2];rfl)) (aI (cw B bs53 [] rs52 [] λW hS=>As (Ae (Al (Aa p 1) (AI 30))) W) (And.intro (λ(h550:(!(AL (Ae (Al (Aa p 1) (AI 30)))))=true)=>hv (show(AL (Ae (Al (Aa p 1) (AI 30))))=false from(by simpa using h550)) (λh55=>aI (FN r9) (aI trivial (aI (A_ r9) ((show AO B R bs53 [] rs52 [] (.tuple #[.agg #[vI 0,vI 0,vI 0,vI 0,vI 0,vI 0],vI 3])from by
     have X0:=h40
     rw[(BL F6 0).1]at X0
     have X1:=h55
     rw[(BL F6 1).1]at X1
     have F:=PN F6 h22 (Ca (k:=1) eo (show AL (OE p 1)=false from X1))
     exactλW hS=>⟨by simp only[F.1,F.2],hS.bl⟩)))))) (λ(h560:(!(AL (Ae (Al (Aa p 1) (AI 30)))))=false)=>hv (show(AL (Ae (Al (Aa p 1) (AI 30))))=true from(by simpa using h560)) (λh56=>aI (A_ r23) (aI trivial (let e58:Nat×List Value:=(r23,[vI (Ae (Al (Aa p 0) (AI 30))),vI (Ae (Al (Aa p 1) (AI 30))),vI 0,vI 0,vI 0,vI 0]); λ(r59:Nat)=>let rs62:Aw:=[(0,45,6),(1,23,3),(2,45,6),(3,197,12),(4,45,6),(5,165,2),(6,165,2),(7,165,2),(8,165,2),(9,165,2)];aI (DR r59) (aI trivial (let e64:Nat×List Value:=(r59,[vI (AW (Aa p 2)),vU (AY (Aa p 2))]);let bs63:AD:=[e3,e7,e11,e18,e58,e32,e38,e48,e54,e64];aI (Eq.refl r59) (aI (cv B bs63 [] rs62 [] λW hS=>Bg (Aa p 2) 30 eo (KO F6 2) W) (λ(r65:Nat)=>let rs68:Aw:=[(0,45,6),(1,23,3),(2,45,6),(3,197,12),(4,45,6),(5,165,2),(6,165,2),(7,165,2),(8,165,2),(9,165,2),(10,165,2)];aI (DR r65) (aI trivial (let e70:Nat×List Value:=(r65,[vI (AW (Al (Aa p 2) (AI 30))),vU (AY (Al (Aa p 2) (AI 30)))]);let bs69:AD:=[e3,e7,e11,e18,e58,e32,e38,e48,e54,e64,e70];aI (Eq.refl r65) (aI (cv B bs69 [] rs68 [] λW hS=>Cn (Al (Aa p 2) (AI 30)) W) (aI (vB (a:=((CN (Al (Aa p 2) (AI 30)))!=0)) (b:=false) (by rw[(BL F6 2).2];rfl)) (aI (cw B bs69 [] rs68 [] λW hS=>As (Ae (Al (Aa p 2) (AI 30))) W) (And.intro (λ(h710:(!(AL (Ae (Al (Aa p 2) (AI 30)))))=true)=>hv (show(AL (Ae (Al (Aa p 2) (AI 30))))=false from(by simpa using h710)) (λh71=>aI (FN r9) (aI trivial (aI (A_ r9) ((show AO B R bs69 [] rs68 [] (.tuple #[.agg #[vI 0,vI 0,vI 0,vI 0,vI 0,vI 0],vI 3])from by
     have X0:=h40
     rw[(BL F6 0).1]at X0
     have X1:=h56
     rw[(BL F6 1).1]at X1
     have X2:=h71
     rw[(BL F6 2).1]at X2
     have F:=PN F6 h22 (Ca (k:=2) eo (show AL (OE p 2)=false from X2))
     exactλW hS=>⟨by simp only[F.1,F.2],hS.bl⟩)))))) (λ(h720:(!(AL (Ae (Al (Aa p 2) (AI 30)))))=false)=>hv (show(AL (Ae (Al (Aa p 2) (AI 30))))=true from(by simpa using h720)) (λh72=>aI (A_ r23) (aI trivial (let e74:Nat×List Value:=(r23,[vI (Ae (Al (Aa p 0) (AI 30))),vI (Ae (Al (Aa p 1) (AI 30))),vI (Ae (Al (Aa p 2) (AI 30))),vI 0,vI 0,vI 0]); λ(r75:Nat)=>let rs78:Aw:=[(0,45,6),(1,23,3),(2,45,6),(3,197,12),(4,45,6),(5,165,2),(6,165,2),(7,165,2),(8,165,2),(9,165,2),(10,165,2),(11,165,2)];aI (DR r75) (aI trivial (let e80:Nat×List Value:=(r75,[vI (AW (Aa p 3)),vU (AY (Aa p 3))]);let bs79:AD:=[e3,e7,e11,e18,e74,e32,e38,e48,e54,e64,e70,e80];aI (Eq.refl r75) (aI (cv B bs79 [] rs78 [] λW hS=>Bg (Aa p 3) 30 eo (KO F6 3) W) (λ(r81:Nat)=>let rs84:Aw:=[(0,45,6),(1,23,3),(2,45,6),(3,197,12),(4,45,6),(5,165,2),(6,165,2),(7,165,2),(8,165,2),(9,165,2),(10,165,2),(11,165,2),(12,165,2)];aI (DR r81) (aI trivial (let e86:Nat×List Value:=(r81,[vI (AW (Al (Aa p 3) (AI 30))),vU (AY (Al (Aa p 3) (AI 30)))]);let bs85:AD:=[e3,e7,e11,e18,e74,e32,e38,e48,e54,e64,e70,e80,e86];aI (Eq.refl r81) (aI (cv B bs85 [] rs84 [] λW hS=>Cn (Al (Aa p 3) (AI 30)) W) (aI (vB (a:=((CN (Al (Aa p 3) (AI 30)))!=0)) (b:=false) (by rw[(BL F6 3).2];rfl)) (aI (cw B bs85 [] rs84 [] λW hS=>As (Ae (Al (Aa p 3) (AI 30))) W) (And.intro (λ(h870:(!(AL (Ae (Al (Aa p 3) (AI 30)))))=true)=>hv (show(AL (Ae (Al (Aa p 3) (AI 30))))=false from(by simpa using h870)) (λh87=>aI (FN r9) (aI trivial (aI (A_ r9) ((show AO B R bs85 [] rs84 [] (.tuple #[.agg #[vI 0,vI 0,vI 0,vI 0,vI 0,vI 0],vI 3])from by
     have X0:=h40
     rw[(BL F6 0).1]at X0
     have X1:=h56
     rw[(BL F6 1).1]at X1
     have X2:=h72
     rw[(BL F6 2).1]at X2
     have X3:=h87
     rw[(BL F6 3).1]at X3
     have F:=PN F6 h22 (Ca (k:=3) eo (show AL (OE p 3)=false from X3))
     exactλW hS=>⟨by simp only[F.1,F.2],hS.bl⟩)))))) (λ(h880:(!(AL (Ae (Al (Aa p 3) (AI 30)))))=false)=>hv (show(AL (Ae (Al (Aa p 3) (AI 30))))=true from(by simpa using h880)) (λh88=>aI (A_ r23) (aI trivial (let e90:Nat×List Value:=(r23,[vI (Ae (Al (Aa p 0) (AI 30))),vI (Ae (Al (Aa p 1) (AI 30))),vI (Ae (Al (Aa p 2) (AI 30))),vI (Ae (Al (Aa p 3) (AI 30))),vI 0,vI 0]); λ(r91:Nat)=>let rs94:Aw:=[(0,45,6),(1,23,3),(2,45,6),(3,197,12),(4,45,6),(5,165,2),(6,165,2),(7,165,2),(8,165,2),(9,165,2),(10,165,2),(11,165,2),(12,165,2),(13,165,2)];aI (DR r91) (aI trivial (let e96:Nat×List Value:=(r91,[vI (AW (Aa p 4)),vU (AY (Aa p 4))]);let bs95:AD:=[e3,e7,e11,e18,e90,e32,e38,e48,e54,e64,e70,e80,e86,e96];aI (Eq.refl r91) (aI (cv B bs95 [] rs94 [] λW hS=>Bg (Aa p 4) 30 eo (KO F6 4) W) (λ(r97:Nat)=>let rs100:Aw:=[(0,45,6),(1,23,3),(2,45,6),(3,197,12),(4,45,6),(5,165,2),(6,165,2),(7,165,2),(8,165,2),(9,165,2),(10,165,2),(11,165,2),(12,165,2),(13,165,2),(14,165,2)];aI (DR r97) (aI trivial (let e102:Nat×List Value:=(r97,[vI (AW (Al (Aa p 4) (AI 30))),vU (AY (Al (Aa p 4) (AI 30)))]);let bs101:AD:=[e3,e7,e11,e18,e90,e32,e38,e48,e54,e64,e70,e80,e86,e96,e102];aI (Eq.refl r97) (aI (cv B bs101 [] rs100 [] λW hS=>Cn (Al (Aa p 4) (AI 30)) W) (aI (vB (a:=((CN (Al (Aa p 4) (AI 30)))!=0)) (b:=false) (by rw[(BL F6 4).2];rfl)) (aI (cw B bs101 [] rs100 [] λW hS=>As (Ae (Al (Aa p 4) (AI 30))) W) (And.intro (λ(h1030:(!(AL (Ae (Al (Aa p 4) (AI 30)))))=true)=>hv (show(AL (Ae (Al (Aa p 4) (AI 30))))=false from(by simpa using h1030)) (λh103=>aI (FN r9) (aI trivial (aI (A_ r9) ((show AO B R bs101 [] rs100 [] (.tuple #[.agg #[vI 0,vI 0,vI 0,vI 0,vI 0,vI 0],vI 3])from by
     have X0:=h40
     rw[(BL F6 0).1]at X0
     have X1:=h56
     rw[(BL F6 1).1]at X1
     have X2:=h72
     rw[(BL F6 2).1]at X2
     have X3:=h88
     rw[(BL F6 3).1]at X3
     have X4:=h103
     rw[(BL F6 4).1]at X4
     have F:=PN F6 h22 (Ca (k:=4) eo (show AL (OE p 4)=false from X4))
     exactλW hS=>⟨by simp only[F.1,F.2],hS.bl⟩)))))) (λ(h1040:(!(AL (Ae (Al (Aa p 4) (AI 30)))))=false)=>hv (show(AL (Ae (Al (Aa p 4) (AI 30))))=true from(by simpa using h1040)) (λh104=>aI (A_ r23) (aI trivial (let e106:Nat×List Value:=(r23,[vI (Ae (Al (Aa p 0) (AI 30))),vI (Ae (Al (Aa p 1) (AI 30))),vI (Ae (Al (Aa p 2) (AI 30))),vI (Ae (Al (Aa p 3) (AI 30))),vI (Ae (Al (Aa p 4) (AI 30))),vI 0]); λ(r107:Nat)=>let rs110:Aw:=[(0,45,6),(1,23,3),(2,45,6),(3,197,12),(4,45,6),(5,165,2),(6,165,2),(7,165,2),(8,165,2),(9,165,2),(10,165,2),(11,165,2),(12,165,2),(13,165,2),(14,165,2),(15,165,2)];aI (DR r107) (aI trivial (let e112:Nat×List Value:=(r107,[vI (AW (Aa p 5)),vU (AY (Aa p 5))]);let bs111:AD:=[e3,e7,e11,e18,e106,e32,e38,e48,e54,e64,e70,e80,e86,e96,e102,e112];aI (Eq.refl r107) (aI (cv B bs111 [] rs110 [] λW hS=>Bg (Aa p 5) 30 eo (KO F6 5) W) (λ(r113:Nat)=>let rs116:Aw:=[(0,45,6),(1,23,3),(2,45,6),(3,197,12),(4,45,6),(5,165,2),(6,165,2),(7,165,2),(8,165,2),(9,165,2),(10,165,2),(11,165,2),(12,165,2),(13,165,2),(14,165,2),(15,165,2),(16,165,2)];aI (DR r113) (aI trivial (let e118:Nat×List Value:=(r113,[vI (AW (Al (Aa p 5) (AI 30))),vU (AY (Al (Aa p 5) (AI 30)))]);let bs117:AD:=[e3,e7,e11,e18,e106,e32,e38,e48,e54,e64,e70,e80,e86,e96,e102,e112,e118];aI (Eq.refl r113) (aI (cv B bs117 [] rs116 [] λW hS=>Cn (Al (Aa p 5) (AI 30)) W) (aI (vB (a:=((CN (Al (Aa p 5) (AI 30)))!=0)) (b:=false) (by rw[(BL F6 5).2];rfl)) (aI (cw B bs117 [] rs116 [] λW hS=>As (Ae (Al (Aa p 5) (AI 30))) W) (And.intro (λ(h1190:(!(AL (Ae (Al (Aa p 5) (AI 30)))))=true)=>hv (show(AL (Ae (Al (Aa p 5) (AI 30))))=false from(by simpa using h1190)) (λh119=>aI (FN r9) (aI trivial (aI (A_ r9) ((show AO B R bs117 [] rs116 [] (.tuple #[.agg #[vI 0,vI 0,vI 0,vI 0,vI 0,vI 0],vI 3])from by
     have X0:=h40
     rw[(BL F6 0).1]at X0
     have X1:=h56
     rw[(BL F6 1).1]at X1
     have X2:=h72
     rw[(BL F6 2).1]at X2
     have X3:=h88
     rw[(BL F6 3).1]at X3
     have X4:=h104
     rw[(BL F6 4).1]at X4
     have X5:=h119
     rw[(BL F6 5).1]at X5
     have F:=PN F6 h22 (Ca (k:=5) eo (show AL (OE p 5)=false from X5))
     exactλW hS=>⟨by simp only[F.1,F.2],hS.bl⟩)))))) (λ(h1200:(!(AL (Ae (Al (Aa p 5) (AI 30)))))=false)=>hv (show(AL (Ae (Al (Aa p 5) (AI 30))))=true from(by simpa using h1200)) (λh120=>aI (A_ r23) (aI trivial (let e122:Nat×List Value:=(r23,[vI (Ae (Al (Aa p 0) (AI 30))),vI (Ae (Al (Aa p 1) (AI 30))),vI (Ae (Al (Aa p 2) (AI 30))),vI (Ae (Al (Aa p 3) (AI 30))),vI (Ae (Al (Aa p 4) (AI 30))),vI (Ae (Al (Aa p 5) (AI 30)))]);let bs121:AD:=[e3,e7,e11,e18,e122,e32,e38,e48,e54,e64,e70,e80,e86,e96,e102,e112,e118];aI (Eq.refl r23) (aI (Eq.refl r5) (aI (cv B bs121 [] rs116 [] λW hS=>Gy d W) (aI (cv B bs121 [] rs116 [] λW hS=>HQ (v6 (Ae (Al (Aa p 0) (AI 30))) (Ae (Al (Aa p 1) (AI 30))) (Ae (Al (Aa p 2) (AI 30))) (Ae (Al (Aa p 3) (AI 30))) (Ae (Al (Aa p 4) (AI 30))) (Ae (Al (Aa p 5) (AI 30)))) (v6 (d 0) 0 0 (d 1) 0 (d 2)) W) (aI (FN r9) (aI trivial (let e124:Nat×List Value:=(r9,[vI (AF (v6 (Ae (Al (Aa p 0) (AI 30))) (Ae (Al (Aa p 1) (AI 30))) (Ae (Al (Aa p 2) (AI 30))) (Ae (Al (Aa p 3) (AI 30))) (Ae (Al (Aa p 4) (AI 30))) (Ae (Al (Aa p 5) (AI 30)))) (v6 (d 0) 0 0 (d 1) 0 (d 2)) 0),vI (AF (v6 (Ae (Al (Aa p 0) (AI 30))) (Ae (Al (Aa p 1) (AI 30))) (Ae (Al (Aa p 2) (AI 30))) (Ae (Al (Aa p 3) (AI 30))) (Ae (Al (Aa p 4) (AI 30))) (Ae (Al (Aa p 5) (AI 30)))) (v6 (d 0) 0 0 (d 1) 0 (d 2)) 1),vI (AF (v6 (Ae (Al (Aa p 0) (AI 30))) (Ae (Al (Aa p 1) (AI 30))) (Ae (Al (Aa p 2) (AI 30))) (Ae (Al (Aa p 3) (AI 30))) (Ae (Al (Aa p 4) (AI 30))) (Ae (Al (Aa p 5) (AI 30)))) (v6 (d 0) 0 0 (d 1) 0 (d 2)) 2),vI (AF (v6 (Ae (Al (Aa p 0) (AI 30))) (Ae (Al (Aa p 1) (AI 30))) (Ae (Al (Aa p 2) (AI 30))) (Ae (Al (Aa p 3) (AI 30))) (Ae (Al (Aa p 4) (AI 30))) (Ae (Al (Aa p 5) (AI 30)))) (v6 (d 0) 0 0 (d 1) 0 (d 2)) 3),vI (AF (v6 (Ae (Al (Aa p 0) (AI 30))) (Ae (Al (Aa p 1) (AI 30))) (Ae (Al (Aa p 2) (AI 30))) (Ae (Al (Aa p 3) (AI 30))) (Ae (Al (Aa p 4) (AI 30))) (Ae (Al (Aa p 5) (AI 30)))) (v6 (d 0) 0 0 (d 1) 0 (d 2)) 4),vI (AF (v6 (Ae (Al (Aa p 0) (AI 30))) (Ae (Al (Aa p 1) (AI 30))) (Ae (Al (Aa p 2) (AI 30))) (Ae (Al (Aa p 3) (AI 30))) (Ae (Al (Aa p 4) (AI 30))) (Ae (Al (Aa p 5) (AI 30)))) (v6 (d 0) 0 0 (d 1) 0 (d 2)) 5)]);let bs123:AD:=[e3,e7,e124,e18,e122,e32,e38,e48,e54,e64,e70,e80,e86,e96,e102,e112,e118];aI (A_ r9) ((show AO B R bs123 [] rs116 [] (.tuple #[.agg #[vI (AF (v6 (Ae (Al (Aa p 0) (AI 30))) (Ae (Al (Aa p 1) (AI 30))) (Ae (Al (Aa p 2) (AI 30))) (Ae (Al (Aa p 3) (AI 30))) (Ae (Al (Aa p 4) (AI 30))) (Ae (Al (Aa p 5) (AI 30)))) (v6 (d 0) 0 0 (d 1) 0 (d 2)) 0),vI (AF (v6 (Ae (Al (Aa p 0) (AI 30))) (Ae (Al (Aa p 1) (AI 30))) (Ae (Al (Aa p 2) (AI 30))) (Ae (Al (Aa p 3) (AI 30))) (Ae (Al (Aa p 4) (AI 30))) (Ae (Al (Aa p 5) (AI 30)))) (v6 (d 0) 0 0 (d 1) 0 (d 2)) 1),vI (AF (v6 (Ae (Al (Aa p 0) (AI 30))) (Ae (Al (Aa p 1) (AI 30))) (Ae (Al (Aa p 2) (AI 30))) (Ae (Al (Aa p 3) (AI 30))) (Ae (Al (Aa p 4) (AI 30))) (Ae (Al (Aa p 5) (AI 30)))) (v6 (d 0) 0 0 (d 1) 0 (d 2)) 2),vI (AF (v6 (Ae (Al (Aa p 0) (AI 30))) (Ae (Al (Aa p 1) (AI 30))) (Ae (Al (Aa p 2) (AI 30))) (Ae (Al (Aa p 3) (AI 30))) (Ae (Al (Aa p 4) (AI 30))) (Ae (Al (Aa p 5) (AI 30)))) (v6 (d 0) 0 0 (d 1) 0 (d 2)) 3),vI (AF (v6 (Ae (Al (Aa p 0) (AI 30))) (Ae (Al (Aa p 1) (AI 30))) (Ae (Al (Aa p 2) (AI 30))) (Ae (Al (Aa p 3) (AI 30))) (Ae (Al (Aa p 4) (AI 30))) (Ae (Al (Aa p 5) (AI 30)))) (v6 (d 0) 0 0 (d 1) 0 (d 2)) 4),vI (AF (v6 (Ae (Al (Aa p 0) (AI 30))) (Ae (Al (Aa p 1) (AI 30))) (Ae (Al (Aa p 2) (AI 30))) (Ae (Al (Aa p 3) (AI 30))) (Ae (Al (Aa p 4) (AI 30))) (Ae (Al (Aa p 5) (AI 30)))) (v6 (d 0) 0 0 (d 1) 0 (d 2)) 5)],vI (BD (v6 (Ae (Al (Aa p 0) (AI 30))) (Ae (Al (Aa p 1) (AI 30))) (Ae (Al (Aa p 2) (AI 30))) (Ae (Al (Aa p 3) (AI 30))) (Ae (Al (Aa p 4) (AI 30))) (Ae (Al (Aa p 5) (AI 30)))) (v6 (d 0) 0 0 (d 1) 0 (d 2)))])from by
     have X0:=h40
     rw[(BL F6 0).1]at X0
     have X1:=h56
     rw[(BL F6 1).1]at X1
     have X2:=h72
     rw[(BL F6 2).1]at X2
     have X3:=h88
     rw[(BL F6 3).1]at X3
     have X4:=h104
     rw[(BL F6 4).1]at X4
     have X5:=h120
     rw[(BL F6 5).1]at X5
     have F:=WG F6 h22 (Vw (m:=OE p) X0 X1 X2 X3 X4 X5)
     exactλW hS=>⟨by simp only[F.1,F.2,(BL F6 0).1,(BL F6 1).1,(BL F6 2).1,(BL F6 3).1,(BL F6 4).1,(BL F6 5).1];rfl,hS.bl⟩)))))))))))))))))))))))))))))))))))))))))))))))))))))))))))))))))))))))))))))))))))))))))))))))))))))))))))
end
section
structure GA (w:World):Prop where
 gn:GN w
 gp:GP w
 gl:GL w
 gr:GR w
 gt:GT w
structure NA (X:Nat->Prop):Prop where
 n: ¬X 1
 p: ¬X 2
 l: ¬X 4
 r: ¬X 3
 t: ¬X 0
theorem NA.nf:NA (λ_=>False):=⟨id,id,id,id,id⟩
theorem GL.of{w W:World}{X:Nat->Prop}{bs:AD}{gs:BN}{rs:Aw}{os:DV}(h:GL w)(hS:Sx ⟨w,X⟩ W bs gs rs os)(hn: ¬X 4):GL W:=⟨hS.oldc hn h.1,hS.oldc hn h.2⟩
theorem GL.lt{w:World}(h:GL w):4<w.heap.size:=World.block_lt_of_cell? w ⟨_,0,none⟩ h.1
theorem GA.of{w W:World}{X:Nat->Prop}{bs:AD}{gs:BN}{rs:Aw}{os:DV}(h:GA w)(hS:Sx ⟨w,X⟩ W bs gs rs os)(hn:NA X):GA W:=
 ⟨h.gn.of hS hn.n,h.gp.of hS hn.p,h.gl.of hS hn.l,h.gr.of hS hn.r,h.gt.of hS hn.t⟩
theorem GA.below{w W:World}(h:GA w)(hb:Below w.heap.size w W):GA W:=⟨h.gn.below hb,h.gp.below hb,h.gl.below hb,h.gr.below hb,h.gt.below hb⟩
theorem Sx.freshA{w W:World}{X:Nat->Prop}{bs:AD}{gs:BN}{rs:Aw}{os:DV}(h:Sx ⟨w,X⟩ W bs gs rs os)(hA:GA w)(hn:NA X){ks:List Nat}{bs0:AD}{os0:DV}(hks:bs0=ks.filterMap λi=>bs[i]?)(hos:os0.Sublist os):NA (AH W bs0 os0).X:=
 ⟨h.fresh hA.gn.lt hn.n hks hos,h.fresh hA.gp.lt hn.p hks hos,h.fresh hA.gl.lt hn.l hks hos,h.fresh hA.gr.lt hn.r hks hos,h.fresh hA.gt.1 hn.t hks hos⟩
theorem Sx.apart{B:Base}{W:World}{bs:AD}{gs:BN}{rs:Aw}{os:DV}(h:Sx B W bs gs rs os){ks:List Nat}{bs0:AD}(hks:bs0=ks.filterMap λi=>bs[i]?){i b:Nat}{cs:List Value}(hi:bs[i]? =some (b,cs))(hn:ks.contains i=false): ¬(AH W bs0 []).X b:=by
 rintro(⟨x,hx,e⟩|⟨y,hy,_⟩)
 ·rw[hks]at hx
  obtain⟨j,hj,hx⟩:=List.mem_filterMap.1 hx
  have h1:(bs.map (·.1))[i]? =some b:=by rw[List.getElem?_map,hi];rfl
  have h2:(bs.map (·.1))[j]? =some b:=by rw[List.getElem?_map,hx,<-e];rfl
  have:=(List.getElem?_inj (List.getElem?_eq_some_iff.1 h1).1 h.nd).1 (h1.trans h2.symm)
  subst this
  rw[List.contains_iff_mem.2 hj]at hn;cases hn
 cases hy
theorem Sx.ltk{B:Base}{W:World}{bs:AD}{gs:BN}{rs:Aw}{os:DV}(h:Sx B W bs gs rs os)(k:Nat){b:Nat}{cs:List Value}(hk:bs[k]? =some (b,cs)):b<W.heap.size:=h.lt (List.mem_of_getElem? hk)
def cF(c:Nat->Int)(i:Nat):Int:=c (11+i)
def cC(c:Nat->Int)(i:Nat):Int:=c (14+i)
def cB(c:Nat->Int)(i:Nat):Int:=c (17+i)
def cT(c:Nat->Int)(i:Nat):Int:=c (21+i)
def cQ(held:Bool)(c:Nat->Int)(i:Nat):Int:=c ((if held then 3 else 0)+i)
def DZ(x b:Nat->Int)(i:Nat):Int:=Ac (x i) (b i)
def Af(x p c:Nat->Int)(f g:Nat)(v:Value)(m s:Int):List Value:=.int .i64 (x 0)::.int .i64 (x 1)::.int .i64 (x 2)::.int .i64 (p 0)::.int .i64 (p 1)::.int .i64 (p 2)::.int .i64 (p 3)::.int .i64 (p 4)::.int .i64 (p 5)::(cL c++[.pointer (some ⟨f,0,none⟩),v,.pointer (some ⟨g,0,none⟩),.int .i64 m,.int .i64 s])
def Ak(c:Nat->Int)(gc:Int)(kn:Bool):List Value:=[.int .i64 (max (c 30) 0),.int .i64 (c 6),.int .i64 (c 7),.int .i64 gc,.bool kn]
theorem Oz{x b:Nat->Int}(hx: ∀i,Ai (x i))(hb: ∀i,Ai (b i)): ∀i,Ai (DZ x b i):= λi=>FE (hx i) (hb i)
theorem K9{x:Nat->Int}(hx: ∀i,Ai (x i))(t:Int): ∀i,Ai (B9 x t i):=by
 intro i
 unfold B9
 split
 ·rename_i h
  simp only[Bool.and_eq_true,Jr]at h
  exact Hj (p:=Ai) (BX h.2.2.1) (BX h.2.2.2) (hx 2) i
 decide
theorem RF(a b:Nat->Int): ∀i,i<6->Ai (AF a b i):=by
 intro i hi
 unfold AF
 split
 ·split
  ·rename_i h
   obtain⟨h0,h1,h2,h3,h4,h5⟩:=Kb h
   rcases(show i=0∨i=1∨i=2∨i=3∨i=4∨i=5 by omega)with rfl|rfl|rfl|rfl|rfl|rfl<;>(apply BX;assumption)
  decide
 decide
theorem E_(p d:Nat->Int): ∀i,i<6->Ai (B0 p d i):=by
 intro i hi
 unfold B0
 split
 ·split
  ·exact RF _ _ i hi
  decide
 decide
theorem LP(p d:Nat->Int): ∀i,Ai (B0 p d i)
 |0=>E_ p d 0 eo
 |1=>E_ p d 1 eo
 |2=>E_ p d 2 eo
 |3=>E_ p d 3 eo
 |4=>E_ p d 4 eo
 |n+5=>E_ p d 5 eo
theorem OS(x k:Nat->Int)(y:Int): ∀i,Ai (Gp x k y i):=by
 intro i;unfold Gp;split
 ·exact P0 _ _ _
 decide
theorem OM(p:Nat->Int)(s:Int)(b:Bool){t:Nat->Int}(ht: ∀i,Ai (t i)): ∀i,Ai (RP p s b t i):=by
 intro i;unfold RP;split
 ·split
  ·exact ht i
  decide
 unfold Bw;split
 ·exact Nm _ _ _ (OO _)
 decide
theorem H5{p k:Nat->Int}{s:Int}{i j m:Nat}(h:jo p k s i j m=true):AL (jv p k s i j m)=true:=by
 unfold jo at h
 simp only[Bool.and_eq_true,beq_iff_eq]at h
 exact(UJ h.2.2).2.2
theorem OK(p k:Nat->Int)(s:Int): ∀i,Ai (FZ p k s i):=by
 intro i;unfold FZ;split
 ·rename_i h
  simp only[Bool.and_eq_true,Im]at h
  obtain⟨_,h0,h1,h2,h3,h4,h5⟩:=h
  exact OA (p:=Ai) (BX (H5 h0)) (BX (H5 h1)) (BX (H5 h2)) (BX (H5 h3)) (BX (H5 h4)) (BX (H5 h5)) i
 decide
theorem KJ(x p:Nat->Int)(q n:Int):Ai (Fb x p q n):=by
 unfold Fb;split
 ·rename_i h;simp only[Bool.and_eq_true,GO]at h;exact BX h.2.1
 decide
theorem H4(x p:Nat->Int)(q n:Int):Ai (Fo x p q n):=by
 unfold Fo;split
 ·rename_i h;simp only[Bool.and_eq_true,GO]at h;exact BX h.2.2
 decide
end
end Go.Proofs.YtikajapjkdloaaaGreatDoor
