/- Walks of the reference of layer 2 (fix). -/
import Derived.Test.YtikajapjkdloaaaGreatDoor922
import Derived.Test.YtikajapjkdloaaaGreatDoor915
namespace Go.Proofs.YtikajapjkdloaaaGreatDoor
set_option linter.unusedVariables false
set_option linter.unusedSimpArgs false
set_option maxRecDepth 1000000
set_option maxHeartbeats 8000000
open Go.RowKit
section
attribute [local go_sem] CE CA CF CG B_ CB CD CC Be Bc Ba
attribute [local go_sem] Gq
theorem fit_err{z:Int}:(AL z=true->Ae z=z/\CN z=0)/\(AL z=false->Ai z->Ae z=z/\CN z=0)/\(¬Ai z->Ae z=0/\CN z=3):=
 ⟨λh=>by have:=BX h;simp[Ae,CN,this],λ_ h=>by simp[Ae,CN,h],λh=>by simp[Ae,CN,h]⟩
theorem VF{z:Int}(h: ¬CN z=0):Au z=0/\BK z=3:=by
 refine Cr ?_
 cases hf:AL z
 ·rfl
 exact absurd (fit_err.1 hf).2 h
theorem VO{z:Int}(h:CN z=0)(h2:AL (Ae z)=false):Au z=0/\BK z=3:=by
 refine Cr ?_
 cases hf:AL z
 ·rfl
 rw[(fit_err.1 hf).1,hf]at h2;cases h2
theorem Ui{z:Int}(h:CN z=0)(h2:AL (Ae z)=true):Au z=Ae z/\BK z=0:=by
 have hi:Ai z:=by unfold CN at h;split at h;assumption;cases h
 have e:Ae z=z:=by simp[Ae,hi]
 rw[e]at h2⊢;exact Cw h2
theorem cg(x:Int){b:Int}(hb:b≠0):nd (ev x b)<=nd x+1:=by
 have hk:(ev x b).natAbs<=x.natAbs+1:=by
  have key: ∀y d:Int,0<d->(Al y d).natAbs<=y.natAbs+1:=by
   intro y d hd
   have h1:=ap (a:=y) hd
   unfold Al;split<;>omega
  unfold ev
  split
  ·have:=key (-x) (-b) en;omega
  exact key x b en
 have h2:=Zr (x.natAbs:Int) 1
 have h3:nd (ev x b)<=nd ((x.natAbs:Int)+1):=Yw en
 have h4:nd (x.natAbs:Int)=nd x:=by unfold nd dg;rw[Int.natAbs_natCast]
 have h5:nd 1<=1:=Yu eo
 by_cases hx:nd x=0
 ·have:=(LM x).1 hx
  subst this
  have:(ev 0 b).natAbs<=1:=by simpa using hk
  have h6:nd (ev 0 b)<=nd 1:=Yw en
  omega
 omega
end
section
theorem M8(x:Int)(w:World):Calls Tryz.prog 192 #[.int .i64 x] w (λe w'=>e=.returned (.tuple #[.int .i64 x,.int .i64 0])/\Below w.heap.size w w'):=by
 exact(let B:Base:=(⟨w,λ_=>False⟩:Base);let R:Ending->World->Prop:=(λe w'=>e=.returned (.tuple #[.int .i64 x,.int .i64 0])/\Below w.heap.size w w');AC (f:=192) (B:=B) (R:=R) (es:=[]) (c:=Tryz.f192.body.getD .skip) (tmps:=#[vI x,vN,vN,vN,vN])
  (.s [.c,.c,.v,.v,.c,.c,.c,.v,.v,.v,.c] (.ret []))
  el (Sx.refl w _) ExX.nil Tryz.func192 el el (Eq.mp el (aI trivial ((show AO B R [] [] [] [] (.tuple #[vI x,vI 0])from by
     exactλW hS=>⟨rfl,hS.bl⟩)))))
theorem Qk(a b:Int)(h:AL a=true)(h2:AL b=true)(w:World):Calls Tryz.prog 200 #[.int .i64 a,.int .i64 b] w (λe w'=>e=.returned (.tuple #[.int .i64 (a+b),.int .i64 0])/\Below w.heap.size w w'):=by
 have k1:=fitB_true.1 h;have k2:=fitB_true.1 h2
 exact(let B:Base:=(⟨w,λ_=>False⟩:Base);let R:Ending->World->Prop:=(λe w'=>e=.returned (.tuple #[.int .i64 (a+b),.int .i64 0])/\Below w.heap.size w w');AC (f:=200) (B:=B) (R:=R) (es:=[]) (c:=Tryz.f200.body.getD .skip) (tmps:=#[vI a,vI b,vN,vN,vN,vN,vN,vN,vN])
  (.s [.c,.c,.v,.v,.c,.c,.c,.v,.v,.v,.setv 8 (vI (a+b)),.v,.v,.c] (.ret []))
  el (Sx.refl w _) ExX.nil Tryz.func200 el el (Eq.mp el (aI (vE (a:=(IntKind.i64.wrap (a+b))) (b:=(a+b)) (BE en)) (aI trivial ((show AO B R [] [] [] [] (.tuple #[vI (a+b),vI 0])from by
     exactλW hS=>⟨rfl,hS.bl⟩))))))
theorem Rg(a b:Int)(h:AL a=true)(h2:AL b=true)(w:World):Calls Tryz.prog 191 #[.int .i64 a,.int .i64 b] w (λe w'=>e=.returned (.tuple #[.int .i64 (a-b),.int .i64 0])/\Below w.heap.size w w'):=by
 have k1:=fitB_true.1 h;have k2:=fitB_true.1 h2
 exact(let B:Base:=(⟨w,λ_=>False⟩:Base);let R:Ending->World->Prop:=(λe w'=>e=.returned (.tuple #[.int .i64 (a-b),.int .i64 0])/\Below w.heap.size w w');AC (f:=191) (B:=B) (R:=R) (es:=[]) (c:=Tryz.f191.body.getD .skip) (tmps:=#[vI a,vI b,vN,vN,vN,vN,vN,vN,vN])
  (.s [.c,.c,.v,.v,.c,.c,.c,.v,.v,.v,.setv 8 (vI (a-b)),.v,.v,.c] (.ret []))
  el (Sx.refl w _) ExX.nil Tryz.func191 el el (Eq.mp el (aI (vE (a:=(IntKind.i64.wrap (a-b))) (b:=(a-b)) (BE en)) (aI trivial ((show AO B R [] [] [] [] (.tuple #[vI (a-b),vI 0])from by
     exactλW hS=>⟨rfl,hS.bl⟩))))))
theorem Q8(a b:Int)(h:AL a=true)(h2:AL b=true)(w:World)(hg:GN w):Calls Tryz.prog 207 #[.int .i64 a,.int .i64 b] w (λe w'=>e=.returned (.tuple #[.agg #[.int .i64 (AW (AV a b)),.int .u64 (AY (AV a b))],.int .i64 0])/\Below w.heap.size w w'):=by
 exact(let B:Base:=(⟨w,λ_=>False⟩:Base);let R:Ending->World->Prop:=(λe w'=>e=.returned (.tuple #[.agg #[.int .i64 (AW (AV a b)),.int .u64 (AY (AV a b))],.int .i64 0])/\Below w.heap.size w w');AC (f:=207) (B:=B) (R:=R) (es:=[]) (c:=Tryz.f207.body.getD .skip) (tmps:=#[vI a,vI b,vN,vN,vN,vN,vN,vN,vN,vN,vN,vN])
  (.s [.c,.c] (.new (λr1=>.s [.v,.c,.c,.c,.v,.v,.call (.agg #[vI (AW (a*b)),vU (AY (a*b))]),.call (.tuple #[.agg #[vI (AW (Al (a*b) (AI 40))),vU (AY (Al (a*b) (AI 40)))],vI 0]),.v,.v,.put 0] (.s [.v,.c] (.ret [0])))))
  el (Sx.refl w _) ExX.nil Tryz.func207 el el (Eq.mp el (λ(r1:Nat)=>let e3:Nat×List Value:=(r1,[vI 0,vU 0]);let bs2:AD:=[e3];let rs4:Aw:=[(0,165,2)];aI (cv B bs2 [] rs4 [] λW hS=>Ah a b (BX h) (BX h2) W (hg.below hS.bl)) (aI (cv B bs2 [] rs4 [] λW hS=>Bg (a*b) 40 eo (F5 (BX h) (BX h2)) W) (aI (DR r1) (aI trivial (let e6:Nat×List Value:=(r1,[vI (AW (Al (a*b) (AI 40))),vU (AY (Al (a*b) (AI 40)))]);let bs5:AD:=[e6];aI (A_ r1) ((show AO B R bs5 [] rs4 [] (.tuple #[.agg #[vI (AW (Al (a*b) (AI 40))),vU (AY (Al (a*b) (AI 40)))],vI 0])from by
     exactλW hS=>⟨rfl,hS.bl⟩)))))))))
theorem MW(a b:Int)(w:World):Calls Tryz.prog 190 #[.int .i64 a,.int .i64 b,.func (.func 200) #[] #[],.func (.func 192) #[] #[]] w (λe w'=>e=.returned (.tuple #[.int .i64 (AR a b (a+b)),.int .i64 (AX a b (a+b))])/\Below w.heap.size w w'):=by
 exact(let B:Base:=(⟨w,λ_=>False⟩:Base);let R:Ending->World->Prop:=(λe w'=>e=.returned (.tuple #[.int .i64 (AR a b (a+b)),.int .i64 (AX a b (a+b))])/\Below w.heap.size w w');AC (f:=190) (B:=B) (R:=R) (es:=[]) (c:=Tryz.f190.body.getD .skip) (tmps:=#[vI a,vI b,.func (.func 200) #[] #[],.func (.func 192) #[] #[],vN,vN,vN,vN,vN,vN,vN,vN,vN,vN,vN,vN,vN,vN,vN,vN,vN,vN,vN,vN,vN,vN,vN,vN,vN,vN,vN,vN,vN,vN,vN,vN,vN,vN,vN,vN,vN,vN,vN,vN,vN])
  (.s [.c,.c,.v,.v,.c,.c,.c,.c,.v,.call (.bool (AL a)),.v,.v] (.split 16 (.s [.u,.u,.u,.v,.c,.c,.c,.c,.v,.v,.c] (.ret [])) (.s [.v,.call (.bool (AL b)),.v,.v,.c] (.split 20 (.s [.c,.c,.c,.v,.v,.c] (.ret [])) (.s [.c,.c,.c,.c,.v,.v,.v,.call (.tuple #[vI (a+b),vI 0]),.v,.v,.v,.v,.v,.c,.c,.c,.c,.v,.v,.c,.c,.c,.c,.c,.v,.v,.call (.tuple #[vI (a+b),vI 0]),.v,.v,.v,.v,.v,.c,.c,.c,.c,.v,.v,.v,.v,.call (.bool (AL (a+b))),.v,.v,.c] (.split 43 (.s [.c,.c,.c,.v,.v,.c] (.ret [])) (.s [.c,.c,.c,.c,.v,.v,.v,.c] (.ret []))))))))
  el (Sx.refl w _) ExX.nil Tryz.func190 el el (Eq.mp el (aI (cw B [] [] [] [] λW hS=>As a W) (And.intro (λ(h10:(!(AL a))=true)=>hv (show(AL a)=false from(by simpa using h10)) (λh1=>aI trivial ((show AO B R [] [] [] [] (.tuple #[vI 0,vI 1])from by
     have F:=JY (b:=b) (z:=a+b) h1
     exactλW hS=>⟨by rw[F.1,F.2],hS.bl⟩)))) (λ(h20:(!(AL a))=false)=>hv (show(AL a)=true from(by simpa using h20)) (λh2=>aI (cw B [] [] [] [] λW hS=>As b W) (And.intro (λ(h30:(!(AL b))=true)=>hv (show(AL b)=false from(by simpa using h30)) (λh3=>aI trivial ((show AO B R [] [] [] [] (.tuple #[vI 0,vI 1])from by
     have F:=Js (a:=a) (z:=a+b) h3
     exactλW hS=>⟨by rw[F.1,F.2],hS.bl⟩)))) (λ(h40:(!(AL b))=false)=>hv (show(AL b)=true from(by simpa using h40)) (λh4=>aI (cv B [] [] [] [] λW hS=>Qk a b h2 h4 W) (aI (cv B [] [] [] [] λW hS=>M8 (a+b) W) (aI (cw B [] [] [] [] λW hS=>As (a+b) W) (And.intro (λ(h50:(!(AL (a+b)))=true)=>hv (show(AL (a+b))=false from(by simpa using h50)) (λh5=>aI trivial ((show AO B R [] [] [] [] (.tuple #[vI 0,vI 3])from by
     have F:=B8 (z:=a+b) h2 h4
     have G:=Cr (z:=a+b) h5
     exactλW hS=>⟨by rw[F.1,F.2,G.1,G.2],hS.bl⟩)))) (λ(h60:(!(AL (a+b)))=false)=>hv (show(AL (a+b))=true from(by simpa using h60)) (λh6=>aI trivial ((show AO B R [] [] [] [] (.tuple #[vI (a+b),vI 0])from by
     have F:=B8 (z:=a+b) h2 h4
     have G:=Cw (z:=a+b) h6
     exactλW hS=>⟨by rw[F.1,F.2,G.1,G.2],hS.bl⟩))))))))))))))))
theorem Gu(a b:Int)(w:World):Calls Tryz.prog 154 #[.int .i64 a,.int .i64 b] w (λe w'=>e=.returned (.tuple #[.int .i64 (AR a b (a+b)),.int .i64 (AX a b (a+b))])/\Below w.heap.size w w'):=by
 exact(let B:Base:=(⟨w,λ_=>False⟩:Base);let R:Ending->World->Prop:=(λe w'=>e=.returned (.tuple #[.int .i64 (AR a b (a+b)),.int .i64 (AX a b (a+b))])/\Below w.heap.size w w');AC (f:=154) (B:=B) (R:=R) (es:=[]) (c:=Tryz.f154.body.getD .skip) (tmps:=#[vI a,vI b,vN,vN,vN,vN,vN,vN,vN,vN,vN])
  (.s [.c,.c,.v,.v,.c,.c,.c,.v,.v,.call (.tuple #[vI (AR a b (a+b)),vI (AX a b (a+b))]),.v,.v,.v,.v,.c] (.ret []))
  el (Sx.refl w _) ExX.nil Tryz.func154 el el (Eq.mp el (aI (cv B [] [] [] [] λW hS=>MW a b W) (aI trivial ((show AO B R [] [] [] [] (.tuple #[vI (AR a b (a+b)),vI (AX a b (a+b))])from by
     exactλW hS=>⟨rfl,hS.bl⟩))))))
theorem Mj(a b:Int)(w:World):Calls Tryz.prog 190 #[.int .i64 a,.int .i64 b,.func (.func 191) #[] #[],.func (.func 192) #[] #[]] w (λe w'=>e=.returned (.tuple #[.int .i64 (AR a b (a-b)),.int .i64 (AX a b (a-b))])/\Below w.heap.size w w'):=by
 exact(let B:Base:=(⟨w,λ_=>False⟩:Base);let R:Ending->World->Prop:=(λe w'=>e=.returned (.tuple #[.int .i64 (AR a b (a-b)),.int .i64 (AX a b (a-b))])/\Below w.heap.size w w');AC (f:=190) (B:=B) (R:=R) (es:=[]) (c:=Tryz.f190.body.getD .skip) (tmps:=#[vI a,vI b,.func (.func 191) #[] #[],.func (.func 192) #[] #[],vN,vN,vN,vN,vN,vN,vN,vN,vN,vN,vN,vN,vN,vN,vN,vN,vN,vN,vN,vN,vN,vN,vN,vN,vN,vN,vN,vN,vN,vN,vN,vN,vN,vN,vN,vN,vN,vN,vN,vN,vN])
  (.s [.c,.c,.v,.v,.c,.c,.c,.c,.v,.call (.bool (AL a)),.v,.v] (.split 16 (.s [.u,.u,.u,.v,.c,.c,.c,.c,.v,.v,.c] (.ret [])) (.s [.v,.call (.bool (AL b)),.v,.v,.c] (.split 20 (.s [.c,.c,.c,.v,.v,.c] (.ret [])) (.s [.c,.c,.c,.c,.v,.v,.v,.call (.tuple #[vI (a-b),vI 0]),.v,.v,.v,.v,.v,.c,.c,.c,.c,.v,.v,.c,.c,.c,.c,.c,.v,.v,.call (.tuple #[vI (a-b),vI 0]),.v,.v,.v,.v,.v,.c,.c,.c,.c,.v,.v,.v,.v,.call (.bool (AL (a-b))),.v,.v,.c] (.split 43 (.s [.c,.c,.c,.v,.v,.c] (.ret [])) (.s [.c,.c,.c,.c,.v,.v,.v,.c] (.ret []))))))))
  el (Sx.refl w _) ExX.nil Tryz.func190 el el (Eq.mp el (aI (cw B [] [] [] [] λW hS=>As a W) (And.intro (λ(h10:(!(AL a))=true)=>hv (show(AL a)=false from(by simpa using h10)) (λh1=>aI trivial ((show AO B R [] [] [] [] (.tuple #[vI 0,vI 1])from by
     have F:=JY (b:=b) (z:=a-b) h1
     exactλW hS=>⟨by rw[F.1,F.2],hS.bl⟩)))) (λ(h20:(!(AL a))=false)=>hv (show(AL a)=true from(by simpa using h20)) (λh2=>aI (cw B [] [] [] [] λW hS=>As b W) (And.intro (λ(h30:(!(AL b))=true)=>hv (show(AL b)=false from(by simpa using h30)) (λh3=>aI trivial ((show AO B R [] [] [] [] (.tuple #[vI 0,vI 1])from by
     have F:=Js (a:=a) (z:=a-b) h3
     exactλW hS=>⟨by rw[F.1,F.2],hS.bl⟩)))) (λ(h40:(!(AL b))=false)=>hv (show(AL b)=true from(by simpa using h40)) (λh4=>aI (cv B [] [] [] [] λW hS=>Rg a b h2 h4 W) (aI (cv B [] [] [] [] λW hS=>M8 (a-b) W) (aI (cw B [] [] [] [] λW hS=>As (a-b) W) (And.intro (λ(h50:(!(AL (a-b)))=true)=>hv (show(AL (a-b))=false from(by simpa using h50)) (λh5=>aI trivial ((show AO B R [] [] [] [] (.tuple #[vI 0,vI 3])from by
     have F:=B8 (z:=a-b) h2 h4
     have G:=Cr (z:=a-b) h5
     exactλW hS=>⟨by rw[F.1,F.2,G.1,G.2],hS.bl⟩)))) (λ(h60:(!(AL (a-b)))=false)=>hv (show(AL (a-b))=true from(by simpa using h60)) (λh6=>aI trivial ((show AO B R [] [] [] [] (.tuple #[vI (a-b),vI 0])from by
     have F:=B8 (z:=a-b) h2 h4
     have G:=Cw (z:=a-b) h6
     exactλW hS=>⟨by rw[F.1,F.2,G.1,G.2],hS.bl⟩))))))))))))))))
theorem K8(a b:Int)(w:World):Calls Tryz.prog 145 #[.int .i64 a,.int .i64 b] w (λe w'=>e=.returned (.tuple #[.int .i64 (AR a b (a-b)),.int .i64 (AX a b (a-b))])/\Below w.heap.size w w'):=by
 exact(let B:Base:=(⟨w,λ_=>False⟩:Base);let R:Ending->World->Prop:=(λe w'=>e=.returned (.tuple #[.int .i64 (AR a b (a-b)),.int .i64 (AX a b (a-b))])/\Below w.heap.size w w');AC (f:=145) (B:=B) (R:=R) (es:=[]) (c:=Tryz.f145.body.getD .skip) (tmps:=#[vI a,vI b,vN,vN,vN,vN,vN,vN,vN,vN,vN])
  (.s [.c,.c,.v,.v,.c,.c,.c,.v,.v,.call (.tuple #[vI (AR a b (a-b)),vI (AX a b (a-b))]),.v,.v,.v,.v,.c] (.ret []))
  el (Sx.refl w _) ExX.nil Tryz.func145 el el (Eq.mp el (aI (cv B [] [] [] [] λW hS=>Mj a b W) (aI trivial ((show AO B R [] [] [] [] (.tuple #[vI (AR a b (a-b)),vI (AX a b (a-b))])from by
     exactλW hS=>⟨rfl,hS.bl⟩))))))
theorem Mn(a b:Int)(w:World)(hg:GN w):Calls Tryz.prog 206 #[.int .i64 a,.int .i64 b,.func (.func 207) #[] #[],.func (.func 110) #[] #[]] w (λe w'=>e=.returned (.tuple #[.int .i64 (AR a b (AV a b)),.int .i64 (AX a b (AV a b))])/\Below w.heap.size w w'):=by
 exact(let B:Base:=(⟨w,λ_=>False⟩:Base);let R:Ending->World->Prop:=(λe w'=>e=.returned (.tuple #[.int .i64 (AR a b (AV a b)),.int .i64 (AX a b (AV a b))])/\Below w.heap.size w w');AC (f:=206) (B:=B) (R:=R) (es:=[]) (c:=Tryz.f206.body.getD .skip) (tmps:=#[vI a,vI b,.func (.func 207) #[] #[],.func (.func 110) #[] #[],vN,vN,vN,vN,vN,vN,vN,vN,vN,vN,vN,vN,vN,vN,vN,vN,vN,vN,vN,vN,vN,vN,vN,vN,vN,vN,vN,vN,vN,vN,vN,vN,vN,vN,vN,vN,vN,vN,vN,vN,vN])
  (.s [.c,.c,.v,.v,.c,.c,.c,.c,.v,.call (.bool (AL a)),.v,.v] (.split 16 (.s [.u,.u,.u,.v,.c,.c,.c,.c,.v,.v,.c] (.ret [])) (.s [.v,.call (.bool (AL b)),.v,.v,.c] (.split 20 (.s [.c,.c,.c,.v,.v,.c] (.ret [])) (.s [.c,.c,.c,.c,.v,.v,.v,.call (.tuple #[.agg #[vI (AW (AV a b)),vU (AY (AV a b))],vI 0]),.v,.v,.v] (.new (λr5=>.s [.put 0] (.s [.v,.c,.c,.c,.c,.v,.v,.c,.c,.c,.c,.c,.v,.own 0,.call (.tuple #[vI (Ae (AV a b)),vI (CN (AV a b))]),.v,.v,.v,.v,.v,.c,.c,.c,.c,.v,.v,.v] (.split 39 (.s [.u,.u,.u,.v,.c,.c,.c,.c,.v,.v,.c] (.ret [])) (.s [.v,.call (.bool (AL (Ae (AV a b)))),.v,.v,.c] (.split 43 (.s [.c,.c,.c,.v,.v,.c] (.ret [])) (.s [.c,.c,.c,.c,.v,.v,.v,.c] (.ret [])))))))))))))
  el (Sx.refl w _) ExX.nil Tryz.func206 el el (Eq.mp el (aI (cw B [] [] [] [] λW hS=>As a W) (And.intro (λ(h10:(!(AL a))=true)=>hv (show(AL a)=false from(by simpa using h10)) (λh1=>aI trivial ((show AO B R [] [] [] [] (.tuple #[vI 0,vI 1])from by
     have F:=JY (b:=b) (z:=AV a b) h1
     exactλW hS=>⟨by rw[F.1,F.2],hS.bl⟩)))) (λ(h20:(!(AL a))=false)=>hv (show(AL a)=true from(by simpa using h20)) (λh2=>aI (cw B [] [] [] [] λW hS=>As b W) (And.intro (λ(h30:(!(AL b))=true)=>hv (show(AL b)=false from(by simpa using h30)) (λh3=>aI trivial ((show AO B R [] [] [] [] (.tuple #[vI 0,vI 1])from by
     have F:=Js (a:=a) (z:=AV a b) h3
     exactλW hS=>⟨by rw[F.1,F.2],hS.bl⟩)))) (λ(h40:(!(AL b))=false)=>hv (show(AL b)=true from(by simpa using h40)) (λh4=>aI (cv B [] [] [] [] λW hS=>Q8 a b h2 h4 W (hg.below hS.bl)) (λ(r5:Nat)=>let rs8:Aw:=[(0,165,2)];aI (DR r5) (aI trivial (let e10:Nat×List Value:=(r5,[vI (AW (AV a b)),vU (AY (AV a b))]);let bs9:AD:=[e10];aI (Eq.refl r5) (aI (cv B bs9 [] rs8 [] λW hS=>Cn (AV a b) W) (And.intro (λ(h11:((CN (AV a b))!=0)=true)=>hv (show¬((CN (AV a b))=0)from(by simpa using h11)) (λh11p=>aI trivial ((show AO B R bs9 [] rs8 [] (.tuple #[vI 0,vI 3])from by
     have F:=B8 (z:=AV a b) h2 h4
     have G:=VF (z:=AV a b) h11p
     exactλW hS=>⟨by rw[F.1,F.2,G.1,G.2],hS.bl⟩)))) (λ(h12:((CN (AV a b))!=0)=false)=>hv (show(CN (AV a b))=0 from(by simpa using h12)) (λh12p=>aI (cw B bs9 [] rs8 [] λW hS=>As (Ae (AV a b)) W) (And.intro (λ(h130:(!(AL (Ae (AV a b))))=true)=>hv (show(AL (Ae (AV a b)))=false from(by simpa using h130)) (λh13=>aI trivial ((show AO B R bs9 [] rs8 [] (.tuple #[vI 0,vI 3])from by
     have F:=B8 (z:=AV a b) h2 h4
     have G:=VO (z:=AV a b) h12p h13
     exactλW hS=>⟨by rw[F.1,F.2,G.1,G.2],hS.bl⟩)))) (λ(h140:(!(AL (Ae (AV a b))))=false)=>hv (show(AL (Ae (AV a b)))=true from(by simpa using h140)) (λh14=>aI trivial ((show AO B R bs9 [] rs8 [] (.tuple #[vI (Ae (AV a b)),vI 0])from by
     have F:=B8 (z:=AV a b) h2 h4
     have G:=Ui (z:=AV a b) h12p h14
     exactλW hS=>⟨by rw[F.1,F.2,G.1,G.2],hS.bl⟩)))))))))))))))))))))
theorem Hd(a b:Int)(w:World)(hg:GN w):Calls Tryz.prog 165 #[.int .i64 a,.int .i64 b] w (λe w'=>e=.returned (.tuple #[.int .i64 (AR a b (AV a b)),.int .i64 (AX a b (AV a b))])/\Below w.heap.size w w'):=by
 exact(let B:Base:=(⟨w,λ_=>False⟩:Base);let R:Ending->World->Prop:=(λe w'=>e=.returned (.tuple #[.int .i64 (AR a b (AV a b)),.int .i64 (AX a b (AV a b))])/\Below w.heap.size w w');AC (f:=165) (B:=B) (R:=R) (es:=[]) (c:=Tryz.f165.body.getD .skip) (tmps:=#[vI a,vI b,vN,vN,vN,vN,vN,vN,vN,vN,vN])
  (.s [.c,.c,.v,.v,.c,.c,.c,.v,.v,.call (.tuple #[vI (AR a b (AV a b)),vI (AX a b (AV a b))]),.v,.v,.v,.v,.c] (.ret []))
  el (Sx.refl w _) ExX.nil Tryz.func165 el el (Eq.mp el (aI (cv B [] [] [] [] λW hS=>Mn a b W (hg.below hS.bl)) (aI trivial ((show AO B R [] [] [] [] (.tuple #[vI (AR a b (AV a b)),vI (AX a b (AV a b))])from by
     exactλW hS=>⟨rfl,hS.bl⟩))))))
end
section
def DT(y s:Int):Bool:=AL y&&(AL s&&decide (1<=s))
def Ej(y s g:Int):Bool:=DT y s&&(decide (0<=g)&&(decide (g<=1000)&&decide (y*y<=g*s*AI 40)))
theorem NS{y s:Int}(h:DT y s=true):AL y=true/\AL s=true/\1<=s:=by
 unfold DT at h;simp only[Bool.and_eq_true,decide_eq_true_eq]at h;exact h
theorem Up{g s:Int}(h0:0<=g)(h1:g<=1000)(hs:AL s=true)(h2:1<=s):AS (g*s*AI 40):=by
 have k:=fitB_true.1 hs
 have a:=Int.mul_nonneg h0 (show 0<=s by omega)
 have b:=Int.mul_le_mul h1 k.2 en en
 rw[Lx];unfold AS;omega
theorem ND(z:Int)(hz:AS z)(h:AS (z*AI 40))(w:World)(hg:GN w):Calls Tryz.prog 156 #[.agg #[.int .i64 (AW z),.int .u64 (AY z)],.int .i64 40] w λe w'=>e=.returned (.tuple #[.agg #[.int .i64 (AW (z*AI 40)),.int .u64 (AY (z*AI 40))],.int .i64 0])/\Below w.heap.size w w':=by
 have k:=Hf z 40 eo hz w hg
 have e:up z 40=z*AI 40:=rfl
 rw[e,(C9 h).1,(C9 h).2]at k;exact k
theorem TX(a b:Int):decide (En a b<=0)=decide (a<=b):=by
 unfold En;(repeat' split)<;>simp<;>omega
theorem LA(s:Int):decide (s>0)=decide (1<=s):=by
 by_cases h:1<=s
 ·rw[decide_eq_true h,decide_eq_true en]
 rw[decide_eq_false h,decide_eq_false en]
theorem R7{y s g:Int}(h:DT y s=true)(h0:0<=g)(h1:g<=1000):Ej y s g=decide (y*y<=g*s*AI 40):=by
 unfold Ej;rw[h,decide_eq_true h0,decide_eq_true h1];rfl
theorem Rx{y s g:Int}(h:DT y s=false):Ej y s g=false:=by unfold Ej;rw[h];rfl
theorem RD{y s g:Int}(h:g<0):Ej y s g=false:=by unfold Ej;rw[decide_eq_false (show¬0<=g by omega)];simp
theorem Rc{y s g:Int}(h:g>1000):Ej y s g=false:=by unfold Ej;rw[decide_eq_false (show¬g<=1000 by omega)];simp
theorem ek(x:Int){b:Int}(hb:b≠0):nd (fl x b)<=nd x+1:=by
 have hk:(fl x b).natAbs<=x.natAbs:=by
  unfold fl
  split
  ·have:=ap (a:= -x) (b:= -b) en;rwa[Int.natAbs_neg]at this
  exact ap en
 have:=Yw hk
 omega
theorem IS(y s:Int)(w:World)(R:Ending->World->Prop)(hG:St w w [] [])(hE:Ex w [])
 (h:CallV Tryz.prog w [] [] 140 #[.int .i64 y] (.bool (AL y))/\(((AL y)=true->CallV Tryz.prog w [] [] 140 #[.int .i64 s] (.bool (AL s))/\(((AL s)=true->(True)/\(Bh R w [] [] (.bool (decide (s>=1)))))/\((AL s)=false->(True)/\(Bh R w [] [] (.bool false)))))/\((AL y)=false->(True)/\(Bh R w [] [] (.bool false))))):Calls Tryz.prog 155 #[.int .i64 y,.int .i64 s] w R:=
 B2 (f:=155) (es:=[]) (c:=Tryz.f155.body.getD .skip) (tmps:=#[.int .i64 y,.int .i64 s,undef,undef,undef,undef,undef,undef,undef,undef,undef,undef,undef,undef,undef])
  (.s [.c,.c,.v,.c,.c,.c,.v,.call (.bool (AL y)),.v] (.split 7 (.s [.v,.call (.bool (AL s)),.v,.v] (.split 11 (.s [.v,.v,.v,.v,.c] (.ret [])) (.s [.u,.u,.v,.v,.c] (.ret [])))) (.s [.u,.u,.v,.v,.u,.u,.v,.v,.c] (.ret []))))
  el hG hE Tryz.func155 el el (Eq.mpr el h)
theorem Nh(y s:Int)(w:World):Calls Tryz.prog 155 #[.int .i64 y,.int .i64 s] w (λe w'=>e=.returned (.bool (DT y s))/\Below w.heap.size w w'):=by
 refine IS y s w _ (St.refl w) Ex.nil ?_
 refine⟨(CallV.of λW hS=>As y W),?_⟩
 refine⟨?_,?_⟩
 ·intro h1
  refine⟨(CallV.of λW hS=>As s W),?_⟩
  refine⟨?_,?_⟩
  ·intro h2
   refine⟨trivial,?_⟩
   exactλW hS=>⟨by simp only[DT,h1,h2,LA,ge_iff_le,Bool.true_and,Bool.false_and,Bool.and_false],hS.bl⟩
  intro h3
  refine⟨trivial,?_⟩
  exactλW hS=>⟨by simp only[DT,h1,h3,LA,ge_iff_le,Bool.true_and,Bool.false_and,Bool.and_false],hS.bl⟩
 intro h4
 refine⟨trivial,?_⟩
 exactλW hS=>⟨by simp only[DT,h4,LA,ge_iff_le,Bool.true_and,Bool.false_and,Bool.and_false],hS.bl⟩
theorem JI(y s g:Int)(w:World)(R:Ending->World->Prop)(hG:St w w [] [])(hE:Ex w [])
 (h:CallV Tryz.prog w [] [] 155 #[.int .i64 y,.int .i64 s] (.bool (DT y s))/\(((!(DT y s))=true->(True)/\(Bh R w [] [] (.bool false)))/\((!(DT y s))=false->((decide (g<0))=true->(True)/\(Bh R w [] [] (.bool false)))/\((decide (g<0))=false->((decide (g>1000))=true->(True)/\(Bh R w [] [] (.bool false)))/\((decide (g>1000))=false->CallV Tryz.prog w [] [] 148 #[.int .i64 g,.int .i64 s] (.agg #[.int .i64 (AW (g*s)),.int .u64 (AY (g*s))])/\CallV Tryz.prog w [] [] 156 #[.agg #[.int .i64 (AW (g*s)),.int .u64 (AY (g*s))],.int .i64 40] (.tuple #[.agg #[.int .i64 (AW ((g*s)*AI 40)),.int .u64 (AY ((g*s)*AI 40))],.int .i64 0])/\(∀r7:Nat,(r7=r7/\(r7=r7/\(True)))/\r7=r7/\CallV Tryz.prog w [(r7,[.int .i64 (AW ((g*s)*AI 40)),.int .u64 (AY ((g*s)*AI 40))])] [] 148 #[.int .i64 y,.int .i64 y] (.agg #[.int .i64 (AW (y*y)),.int .u64 (AY (y*y))])/\CallV Tryz.prog w [(r7,[.int .i64 (AW ((g*s)*AI 40)),.int .u64 (AY ((g*s)*AI 40))])] [] 157 #[.agg #[.int .i64 (AW (y*y)),.int .u64 (AY (y*y))],.agg #[.int .i64 (AW ((g*s)*AI 40)),.int .u64 (AY ((g*s)*AI 40))]] (.int .i64 (En (y*y) ((g*s)*AI 40)))/\(True)/\(Bh R w [(r7,[.int .i64 (AW ((g*s)*AI 40)),.int .u64 (AY ((g*s)*AI 40))])] [] (.bool (decide ((En (y*y) ((g*s)*AI 40))<=0)))))))))):Calls Tryz.prog 103 #[.int .i64 y,.int .i64 s,.int .i64 g] w R:=
 B2 (f:=103) (es:=[]) (c:=Tryz.f103.body.getD .skip) (tmps:=#[.int .i64 y,.int .i64 s,.int .i64 g,undef,undef,undef,undef,undef,undef,undef,undef,undef,undef,undef,undef,undef,undef,undef,undef,undef,undef,undef,undef,undef,undef,undef,undef,undef,undef,undef,undef,undef,undef,undef])
  (.s [.c,.c,.v,.c,.c,.c,.c,.v,.v,.call (.bool (DT y s)),.v,.v] (.split 13 (.s [.u,.u,.v,.v,.u,.u,.v,.c,.c,.c,.c,.v,.c] (.ret [])) (.s [.v,.v,.v,.v] (.split 17 (.s [.u,.u,.v,.c,.c,.c,.c,.v,.c] (.ret [])) (.s [.v,.v,.v,.c] (.split 20 (.s [.c,.c,.c,.v,.c] (.ret [])) (.s [.c,.c,.c,.c,.v,.v,.call (.agg #[.int .i64 (AW (g*s)),.int .u64 (AY (g*s))]),.call (.tuple #[.agg #[.int .i64 (AW ((g*s)*AI 40)),.int .u64 (AY ((g*s)*AI 40))],.int .i64 0]),.v,.v,.v] (.new (λr7=>.s [.put 0,.v,.c,.c,.d [],.at 0 false,.v,.at 1 false,.v,.at 3 false,.own 0,.at 2 true,.call (.agg #[.int .i64 (AW (y*y)),.int .u64 (AY (y*y))]),.at 4 true,.call (.int .i64 (En (y*y) ((g*s)*AI 40))),.at 5 false,.v,.at 6 false,.v,.c] (.ret []))))))))))
  el hG hE Tryz.func103 el el (Eq.mpr el h)
theorem Pw(y s g:Int)(hy:Ai y)(hs:Ai s)(ht:Ai g)(w:World)(hg:GN w):Calls Tryz.prog 103 #[.int .i64 y,.int .i64 s,.int .i64 g] w (λe w'=>e=.returned (.bool (Ej y s g))/\Below w.heap.size w w'):=by
 refine JI y s g w _ (St.refl w) Ex.nil ?_
 refine⟨(CallV.be λW hS=>Nh y s W),?_⟩
 refine⟨?_,?_⟩
 ·intro h10
  have h1:(DT y s)=false:=by simpa using h10
  refine⟨trivial,?_⟩
  exactλW hS=>⟨congrArg (λq=>Ending.returned (Value.bool q)) (Rx h1).symm,hS.bl⟩
 intro h20
 have h2:(DT y s)=true:=by simpa using h20
 obtain⟨hr1,hr2,hr3⟩:=NS h2
 refine⟨?_,?_⟩
 ·intro h3
  have h3p:g<0:=by simpa using h3
  refine⟨trivial,?_⟩
  exactλW hS=>⟨congrArg (λq=>Ending.returned (Value.bool q)) (RD h3p).symm,hS.bl⟩
 intro h4
 have h4p: ¬(g<0):=by simpa using h4
 refine⟨?_,?_⟩
 ·intro h5
  have h5p:g>1000:=by simpa using h5
  refine⟨trivial,?_⟩
  exactλW hS=>⟨congrArg (λq=>Ending.returned (Value.bool q)) (Rc h5p).symm,hS.bl⟩
 intro h6
 have h6p: ¬(g>1000):=by simpa using h6
 refine⟨(CallV.be λW hS=>Ah g s ht hs W (hg.below hS.bl)),(CallV.be λW hS=>ND (g*s) (F5 ht hs) (Up en en hr2 hr3) W (hg.below hS.bl)),?_⟩
 intro r7
 refine⟨⟨rfl,rfl,trivial⟩,rfl,(CallV.be λW hS=>Ah y y hy hy W (hg.below hS.bl)),(CallV.be λW hS=>Qf (y*y) ((g*s)*AI 40) W),trivial,?_⟩
 exactλW hS=>⟨congrArg (λq=>Ending.returned (Value.bool q)) ((TX _ _).trans (R7 h2 en en).symm),hS.bl⟩
end
section
end
end Go.Proofs.YtikajapjkdloaaaGreatDoor
