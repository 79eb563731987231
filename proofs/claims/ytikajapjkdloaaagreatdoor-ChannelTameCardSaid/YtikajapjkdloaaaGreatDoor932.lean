/- Walks of layer 2 (fix), by plans: Div. -/
import Derived.Test.YtikajapjkdloaaaGreatDoor931
import Derived.Test.YtikajapjkdloaaaGreatDoor927
namespace Go.Proofs.YtikajapjkdloaaaGreatDoor
set_option linter.unusedVariables false
set_option linter.unusedSimpArgs false
section
set_option maxRecDepth 1000000
set_option maxHeartbeats 8000000
open Go.RowKit
theorem Iu(a:Int)(h:AL a=true)(w:World)(hg:GN w):Calls Tryz.prog 156 #[.agg #[.int .i64 (AW a),.int .u64 (AY a)],.int .i64 40] w λe w'=>e=.returned (.tuple #[.agg #[.int .i64 (AW (a*AI 40)),.int .u64 (AY (a*AI 40))],.int .i64 0])/\Below w.heap.size w w':=by
 have k:=Hf a 40 (by decide) (M9 (BX h)) w hg
 have e:up a 40=a*AI 40:=rfl
 rw[e,(C9 (Ol h)).1,(C9 (Ol h)).2]at k;exact k
theorem J0(a b:Int)(h:AL a=true)(hb:Ai b)(h0:b≠0)(w:World)(hg:GN w)(hl:GL w):
 Calls Tryz.prog 217 #[.agg #[.int .i64 (AW (a*AI 40)),.int .u64 (AY (a*AI 40))],.int .i64 b] w λe w'=>e=.returned (.tuple #[.agg #[.int .i64 (AW (Ay a b)),.int .u64 (AY (Ay a b))],.int .i64 0])/\Below w.heap.size w w':=by
 have k:=KZ (a*AI 40) b (Ol h) hb w hg hl
 have hk:=fitB_true.1 h
 have hn: ¬(a*AI 40=LW/\b= -1):=by rw[Lx];unfold LW;omega
 have e:Ht (ev (a*AI 40) b) (a*AI 40) b=Ay a b/\JH (a*AI 40) b=0:=by unfold Ht JH;rw[if_neg h0,if_neg hn,if_neg h0,if_neg hn];exact⟨rfl,rfl⟩
 rw[e.1,e.2]at k;exact k
theorem Jt(a:Int)(h:AL a=true)(w:World)(hg:GN w)(hl:GL w):
 Calls Tryz.prog 217 #[.agg #[.int .i64 (AW (a*AI 40)),.int .u64 (AY (a*AI 40))],.int .i64 0] w λe w'=>e=.returned (.tuple #[.agg #[.int .i64 (AW 0),.int .u64 (AY 0)],.int .i64 4])/\Below w.heap.size w w':=by
 have k:=KZ (a*AI 40) 0 (Ol h) (by decide) w hg hl
 simp only[Ht,JH,if_true]at k;exact k
theorem Qq(a b:Int)(h:AL a=true)(hb:Ai b)(h0:b≠0)(w:World)(hg:GN w)(hl:GL w):Calls Tryz.prog 216 #[.int .i64 a,.int .i64 b] w (λe w'=>e=.returned (.tuple #[.agg #[.int .i64 (AW (Ay a b)),.int .u64 (AY (Ay a b))],.int .i64 0])/\Below w.heap.size w w'):=by
 exact(let B:Base:=(⟨w,λ_=>False⟩:Base);let R:Ending->World->Prop:=(λe w'=>e=.returned (.tuple #[.agg #[.int .i64 (AW (Ay a b)),.int .u64 (AY (Ay a b))],.int .i64 0])/\Below w.heap.size w w');AC (f:=216) (B:=B) (R:=R) (es:=[]) (c:=Tryz.f216.body.getD .skip) (tmps:=#[vI a,vI b,vN,vN,vN,vN,vN,vN,vN,vN,vN,vN,vN,vN,vN,vN,vN,vN,vN])
  (.s [.c,.c] (.new (λr1=>.s [.v,.c,.c,.c,.v,.call (.agg #[vI (AW a),vU (AY a)]),.call (.tuple #[.agg #[vI (AW (a*AI 40)),vU (AY (a*AI 40))],vI 0]),.v,.v,.v] (.new (λr5=>.s [.put 1] (.s [.v,.c,.c,.c,.own 1,.v,.call (.tuple #[.agg #[vI (AW (Ay a b)),vU (AY (Ay a b))],vI 0]),.v,.v,.put 0] (.s [.v,.c] (.ret [0]))))))))
  (by kernel_rfl) (Sx.refl w _) ExX.nil Tryz.func216 (by kernel_rfl) (by kernel_rfl) (Eq.mp (by kernel_rfl) (λ(r1:Nat)=>let e3:Nat×List Value:=(r1,[vI 0,vU 0]);let bs2:AD:=[e3];let rs4:Aw:=[(0,165,2)];aI (cv B bs2 [] rs4 [] λW hS=>Cg a (BX h) W) (aI (cv B bs2 [] rs4 [] λW hS=>Iu a h W (hg.below hS.bl)) (λ(r5:Nat)=>let rs8:Aw:=[(0,165,2),(1,165,2)];aI (DR r5) (aI trivial (let e10:Nat×List Value:=(r5,[vI (AW (a*AI 40)),vU (AY (a*AI 40))]);let bs9:AD:=[e3,e10];aI (Eq.refl r5) (aI (cv B bs9 [] rs8 [] λW hS=>J0 a b h hb h0 W (hg.below hS.bl) (hl.below hS.bl)) (aI (DR r1) (aI trivial (let e12:Nat×List Value:=(r1,[vI (AW (Ay a b)),vU (AY (Ay a b))]);let bs11:AD:=[e12,e10];aI (A_ r1) ((show AO B R bs11 [] rs8 [] (.tuple #[.agg #[vI (AW (Ay a b)),vU (AY (Ay a b))],vI 0])from by
      exactλW hS=>⟨rfl,hS.bl⟩)))))))))))))
theorem Pe(a:Int)(h:AL a=true)(w:World)(hg:GN w)(hl:GL w):Calls Tryz.prog 216 #[.int .i64 a,.int .i64 0] w (λe w'=>e=.returned (.tuple #[.agg #[.int .i64 (AW 0),.int .u64 (AY 0)],.int .i64 4])/\Below w.heap.size w w'):=by
 exact(let B:Base:=(⟨w,λ_=>False⟩:Base);let R:Ending->World->Prop:=(λe w'=>e=.returned (.tuple #[.agg #[.int .i64 (AW 0),.int .u64 (AY 0)],.int .i64 4])/\Below w.heap.size w w');AC (f:=216) (B:=B) (R:=R) (es:=[]) (c:=Tryz.f216.body.getD .skip) (tmps:=#[vI a,vI 0,vN,vN,vN,vN,vN,vN,vN,vN,vN,vN,vN,vN,vN,vN,vN,vN,vN])
  (.s [.c,.c] (.new (λr1=>.s [.v,.c,.c,.c,.v,.call (.agg #[vI (AW a),vU (AY a)]),.call (.tuple #[.agg #[vI (AW (a*AI 40)),vU (AY (a*AI 40))],vI 0]),.v,.v,.v] (.new (λr5=>.s [.put 1] (.s [.v,.c,.c,.c,.own 1,.v,.call (.tuple #[.agg #[vI (AW 0),vU (AY 0)],vI 4]),.v,.v,.put 0] (.s [.v,.c] (.ret [0]))))))))
  (by kernel_rfl) (Sx.refl w _) ExX.nil Tryz.func216 (by kernel_rfl) (by kernel_rfl) (Eq.mp (by kernel_rfl) (λ(r1:Nat)=>let e3:Nat×List Value:=(r1,[vI 0,vU 0]);let bs2:AD:=[e3];let rs4:Aw:=[(0,165,2)];aI (cv B bs2 [] rs4 [] λW hS=>Cg a (BX h) W) (aI (cv B bs2 [] rs4 [] λW hS=>Iu a h W (hg.below hS.bl)) (λ(r5:Nat)=>let rs8:Aw:=[(0,165,2),(1,165,2)];aI (DR r5) (aI trivial (let e10:Nat×List Value:=(r5,[vI (AW (a*AI 40)),vU (AY (a*AI 40))]);let bs9:AD:=[e3,e10];aI (Eq.refl r5) (aI (cv B bs9 [] rs8 [] λW hS=>Jt a h W (hg.below hS.bl) (hl.below hS.bl)) (aI (DR r1) (aI trivial (let e12:Nat×List Value:=(r1,[vI (AW 0),vU (AY 0)]);let bs11:AD:=[e12,e10];aI (A_ r1) ((show AO B R bs11 [] rs8 [] (.tuple #[.agg #[vI (AW 0),vU (AY 0)],vI 4])from by
      exactλW hS=>⟨rfl,hS.bl⟩)))))))))))))
theorem Le(a b:Int)(h0:b≠0)(w:World)(hg:GN w)(hl:GL w):Calls Tryz.prog 206 #[.int .i64 a,.int .i64 b,.func (.func 216) #[] #[],.func (.func 110) #[] #[]] w (λe w'=>e=.returned (.tuple #[.int .i64 (DK a b (Ay a b)),.int .i64 (Cz a b (Ay a b))])/\Below w.heap.size w w'):=by
 exact(let B:Base:=(⟨w,λ_=>False⟩:Base);let R:Ending->World->Prop:=(λe w'=>e=.returned (.tuple #[.int .i64 (DK a b (Ay a b)),.int .i64 (Cz a b (Ay a b))])/\Below w.heap.size w w');AC (f:=206) (B:=B) (R:=R) (es:=[]) (c:=Tryz.f206.body.getD .skip) (tmps:=#[vI a,vI b,.func (.func 216) #[] #[],.func (.func 110) #[] #[],vN,vN,vN,vN,vN,vN,vN,vN,vN,vN,vN,vN,vN,vN,vN,vN,vN,vN,vN,vN,vN,vN,vN,vN,vN,vN,vN,vN,vN,vN,vN,vN,vN,vN,vN,vN,vN,vN,vN,vN,vN])
  (.s [.c,.c,.v,.v,.c,.c,.c,.c,.v,.call (.bool (AL a)),.v,.v] (.split 16 (.s [.u,.u,.u,.v,.c,.c,.c,.c,.v,.v,.c] (.ret [])) (.s [.v,.call (.bool (AL b)),.v,.v,.c] (.split 20 (.s [.c,.c,.c,.v,.v,.c] (.ret [])) (.s [.c,.c,.c,.c,.v,.v,.v,.call (.tuple #[.agg #[vI (AW (Ay a b)),vU (AY (Ay a b))],vI 0]),.v,.v,.v] (.new (λr5=>.s [.put 0] (.s [.v,.c,.c,.c,.c,.v,.v,.c,.c,.c,.c,.c,.v,.own 0,.call (.tuple #[vI (Ae (Ay a b)),vI (CN (Ay a b))]),.v,.v,.v,.v,.v,.c,.c,.c,.c,.v,.v,.v] (.split 39 (.s [.u,.u,.u,.v,.c,.c,.c,.c,.v,.v,.c] (.ret [])) (.s [.v,.call (.bool (AL (Ae (Ay a b)))),.v,.v,.c] (.split 43 (.s [.c,.c,.c,.v,.v,.c] (.ret [])) (.s [.c,.c,.c,.c,.v,.v,.v,.c] (.ret [])))))))))))))
  (by kernel_rfl) (Sx.refl w _) ExX.nil Tryz.func206 (by kernel_rfl) (by kernel_rfl) (Eq.mp (by kernel_rfl) (aI (cw B [] [] [] [] λW hS=>As a W) (And.intro (λ(h10:(!(AL a))=true)=>hv (show(AL a)=false from(by simpa using h10)) (λh1=>aI trivial ((show AO B R [] [] [] [] (.tuple #[vI 0,vI 1])from by
      have F:=OQ (b:=b) (z:=(Ay a b)) h1
      exactλW hS=>⟨by rw[F.1,F.2],hS.bl⟩)))) (λ(h20:(!(AL a))=false)=>hv (show(AL a)=true from(by simpa using h20)) (λh2=>aI (cw B [] [] [] [] λW hS=>As b W) (And.intro (λ(h30:(!(AL b))=true)=>hv (show(AL b)=false from(by simpa using h30)) (λh3=>aI trivial ((show AO B R [] [] [] [] (.tuple #[vI 0,vI 1])from by
      have F:=S_ (a:=a) (z:=(Ay a b)) h3
      exactλW hS=>⟨by rw[F.1,F.2],hS.bl⟩)))) (λ(h40:(!(AL b))=false)=>hv (show(AL b)=true from(by simpa using h40)) (λh4=>aI (cv B [] [] [] [] λW hS=>Qq a b h2 (BX h4) h0 W (hg.below hS.bl) (hl.below hS.bl)) (λ(r5:Nat)=>let rs8:Aw:=[(0,165,2)];aI (DR r5) (aI trivial (let e10:Nat×List Value:=(r5,[vI (AW (Ay a b)),vU (AY (Ay a b))]);let bs9:AD:=[e10];aI (Eq.refl r5) (aI (cv B bs9 [] rs8 [] λW hS=>Cn (Ay a b) W) (And.intro (λ(h11:((CN (Ay a b))!=0)=true)=>hv (show¬((CN (Ay a b))=0)from(by simpa using h11)) (λh11p=>aI trivial ((show AO B R bs9 [] rs8 [] (.tuple #[vI 0,vI 3])from by
      have F:=Cf (z:=(Ay a b)) h2 h4 h0
      have G:=VF (z:=(Ay a b)) h11p
      exactλW hS=>⟨by rw[F.1,F.2,G.1,G.2],hS.bl⟩)))) (λ(h12:((CN (Ay a b))!=0)=false)=>hv (show(CN (Ay a b))=0 from(by simpa using h12)) (λh12p=>aI (cw B bs9 [] rs8 [] λW hS=>As (Ae (Ay a b)) W) (And.intro (λ(h130:(!(AL (Ae (Ay a b))))=true)=>hv (show(AL (Ae (Ay a b)))=false from(by simpa using h130)) (λh13=>aI trivial ((show AO B R bs9 [] rs8 [] (.tuple #[vI 0,vI 3])from by
      have F:=Cf (z:=(Ay a b)) h2 h4 h0
      have G:=VO (z:=(Ay a b)) h12p h13
      exactλW hS=>⟨by rw[F.1,F.2,G.1,G.2],hS.bl⟩)))) (λ(h140:(!(AL (Ae (Ay a b))))=false)=>hv (show(AL (Ae (Ay a b)))=true from(by simpa using h140)) (λh14=>aI trivial ((show AO B R bs9 [] rs8 [] (.tuple #[vI (Ae (Ay a b)),vI 0])from by
      have F:=Cf (z:=(Ay a b)) h2 h4 h0
      have G:=Ui (z:=(Ay a b)) h12p h14
      exactλW hS=>⟨by rw[F.1,F.2,G.1,G.2],hS.bl⟩)))))))))))))))))))))
theorem LX(a:Int)(w:World)(hg:GN w)(hl:GL w):Calls Tryz.prog 206 #[.int .i64 a,.int .i64 0,.func (.func 216) #[] #[],.func (.func 110) #[] #[]] w (λe w'=>e=.returned (.tuple #[.int .i64 (DK a 0 (Ay a 0)),.int .i64 (Cz a 0 (Ay a 0))])/\Below w.heap.size w w'):=by
 exact(let B:Base:=(⟨w,λ_=>False⟩:Base);let R:Ending->World->Prop:=(λe w'=>e=.returned (.tuple #[.int .i64 (DK a 0 (Ay a 0)),.int .i64 (Cz a 0 (Ay a 0))])/\Below w.heap.size w w');AC (f:=206) (B:=B) (R:=R) (es:=[]) (c:=Tryz.f206.body.getD .skip) (tmps:=#[vI a,vI 0,.func (.func 216) #[] #[],.func (.func 110) #[] #[],vN,vN,vN,vN,vN,vN,vN,vN,vN,vN,vN,vN,vN,vN,vN,vN,vN,vN,vN,vN,vN,vN,vN,vN,vN,vN,vN,vN,vN,vN,vN,vN,vN,vN,vN,vN,vN,vN,vN,vN,vN])
  (.s [.c,.c,.v,.v,.c,.c,.c,.c,.v,.call (.bool (AL a)),.v,.v] (.split 16 (.s [.u,.u,.u,.v,.c,.c,.c,.c,.v,.v,.c] (.ret [])) (.s [.v,.call (.bool (AL 0)),.v,.v,.c,.setv 20 (vF),.c,.c,.c,.c,.v,.v,.v,.call (.tuple #[.agg #[vI (AW 0),vU (AY 0)],vI 4]),.v,.v,.v] (.new (λr3=>.s [.put 0] (.s [.v,.c,.c,.c,.c,.v,.v,.c,.c,.c,.c,.v,.v,.v,.c] (.ret [])))))))
  (by kernel_rfl) (Sx.refl w _) ExX.nil Tryz.func206 (by kernel_rfl) (by kernel_rfl) (Eq.mp (by kernel_rfl) (aI (cw B [] [] [] [] λW hS=>As a W) (And.intro (λ(h10:(!(AL a))=true)=>hv (show(AL a)=false from(by simpa using h10)) (λh1=>aI trivial ((show AO B R [] [] [] [] (.tuple #[vI 0,vI 1])from by
      have F:=OQ (b:=0) (z:=Ay a 0) h1
      exactλW hS=>⟨by rw[F.1,F.2],hS.bl⟩)))) (λ(h20:(!(AL a))=false)=>hv (show(AL a)=true from(by simpa using h20)) (λh2=>aI (cw B [] [] [] [] λW hS=>As 0 W) (aI (show Value.bool (!(AL 0))=vF from(by rw[((by decide):(AL 0)=true)];rfl)) (aI (cv B [] [] [] [] λW hS=>Pe a h2 W (hg.below hS.bl) (hl.below hS.bl)) (λ(r3:Nat)=>let rs6:Aw:=[(0,165,2)];aI (DR r3) (aI trivial (let e8:Nat×List Value:=(r3,[vI (AW 0),vU (AY 0)]);let bs7:AD:=[e8];aI trivial ((show AO B R bs7 [] rs6 [] (.tuple #[vI 0,vI 4])from by
      have F:=SG (z:=Ay a 0) h2
      exactλW hS=>⟨by rw[F.1,F.2],hS.bl⟩)))))))))))))
theorem L8(a b:Int)(w:World)(hg:GN w)(hl:GL w):Calls Tryz.prog 206 #[.int .i64 a,.int .i64 b,.func (.func 216) #[] #[],.func (.func 110) #[] #[]] w λe w'=>e=.returned (.tuple #[.int .i64 (DK a b (Ay a b)),.int .i64 (Cz a b (Ay a b))])/\Below w.heap.size w w':=by
 by_cases h0:b=0
 ·subst h0;exact LX a w hg hl
 exact Le a b h0 w hg hl
theorem Ks(a b:Int)(w:World)(hg:GN w)(hl:GL w):Calls Tryz.prog 204 #[.int .i64 a,.int .i64 b] w (λe w'=>e=.returned (.tuple #[.int .i64 (DK a b (Ay a b)),.int .i64 (Cz a b (Ay a b))])/\Below w.heap.size w w'):=by
 exact(let B:Base:=(⟨w,λ_=>False⟩:Base);let R:Ending->World->Prop:=(λe w'=>e=.returned (.tuple #[.int .i64 (DK a b (Ay a b)),.int .i64 (Cz a b (Ay a b))])/\Below w.heap.size w w');AC (f:=204) (B:=B) (R:=R) (es:=[]) (c:=Tryz.f204.body.getD .skip) (tmps:=#[vI a,vI b,vN,vN,vN,vN,vN,vN,vN,vN,vN])
  (.s [.c,.c,.v,.v,.c,.c,.c,.v,.v,.call (.tuple #[vI (DK a b (Ay a b)),vI (Cz a b (Ay a b))]),.v,.v,.v,.v,.c] (.ret []))
  (by kernel_rfl) (Sx.refl w _) ExX.nil Tryz.func204 (by kernel_rfl) (by kernel_rfl) (Eq.mp (by kernel_rfl) (aI (cv B [] [] [] [] λW hS=>L8 a b W (hg.below hS.bl) (hl.below hS.bl)) (aI trivial ((show AO B R [] [] [] [] (.tuple #[vI (DK a b (Ay a b)),vI (Cz a b (Ay a b))])from by
      exactλW hS=>⟨rfl,hS.bl⟩))))))
end
section
open Go.RowKit
def EY(p:Nat->Int)(s:Int):Bool:=Ap p&&(AL s&&decide (1<=s))
def Eo(p:Nat->Int)(s:Int):Int:=if EY p s then eE (BK (Ay (p 0) s)) (BK (Ay (p 1) s)) (BK (Ay (p 2) s))else 1
def Bw(p:Nat->Int)(s:Int)(i:Nat):Int:=if EY p s then eV (BK (Ay (p 0) s)) (BK (Ay (p 1) s)) (BK (Ay (p 2) s)) (Au (Ay (p i) s))else 0
theorem LQ{p:Nat->Int}{s:Int}(h:EY p s=false):Eo p s=1/\ ∀i,Bw p s i=0:=⟨by unfold Eo;rw[h];rfl,λi=>by unfold Bw;rw[h];rfl⟩
theorem Hh{p:Nat->Int}{s:Int}(h:EY p s=true):Eo p s=eE (BK (Ay (p 0) s)) (BK (Ay (p 1) s)) (BK (Ay (p 2) s))/\ ∀i,Bw p s i=eV (BK (Ay (p 0) s)) (BK (Ay (p 1) s)) (BK (Ay (p 2) s)) (Au (Ay (p i) s)):=
 ⟨by unfold Eo;rw[h];rfl,λi=>by unfold Bw;rw[h];rfl⟩
theorem JV{p:Nat->Int}:BD p (v6 0 0 0 0 0 0)=if Ap p then 0 else 1:=by
 have h0:Ap (v6 0 0 0 0 0 0)=true:=by decide
 unfold BD
 rw[h0,Bool.and_true]
 cases h:Ap p
 ·rfl
 have e:Ap (λj=>p j+v6 0 0 0 0 0 0 j)=true:=by
  rw[<-h];unfold Ap;simp only[Fl,v6,Int.add_zero]
 rw[e];rfl
theorem Sj{p:Nat->Int}(h:BD p (v6 0 0 0 0 0 0)=0):Ap p=true:=by
 rw[JV]at h
 cases q:Ap p
 ·rw[q]at h;cases h
 rfl
theorem So{p:Nat->Int}(h: ¬BD p (v6 0 0 0 0 0 0)=0):Ap p=false:=by
 rw[JV]at h
 cases q:Ap p
 ·rfl
 rw[q]at h;exact absurd rfl h
theorem DP{p:Nat->Int}(h:Ap p=true):AL (p 0)=true/\AL (p 1)=true/\AL (p 2)=true:=by
 unfold Ap at h;simp only[Fl,Bool.true_and,Bool.and_eq_true]at h;simp only[h,and_self]
abbrev Ws:Nat->Int:=(v6 0 0 0 0 0 0)
set_option maxRecDepth 1000000 in
set_option maxHeartbeats 8000000 in
theorem QI(p:Nat->Int)(s:Int)(hp6: ∀i,Ai (p i))(hs:Ai s)(w:World)(hg:GN w)(hl:GL w):Calls Tryz.prog 159 #[.agg #[.int .i64 (p 0),.int .i64 (p 1),.int .i64 (p 2),.int .i64 (p 3),.int .i64 (p 4),.int .i64 (p 5)],.int .i64 s] w (λe w'=>e=.returned (.tuple #[.agg #[.int .i64 (Bw p s 0),.int .i64 (Bw p s 1),.int .i64 (Bw p s 2)],.int .i64 (Eo p s)])/\Below w.heap.size w w'):=by
 exact(let B:Base:=(⟨w,λ_=>False⟩:Base);let R:Ending->World->Prop:=(λe w'=>e=.returned (.tuple #[.agg #[.int .i64 (Bw p s 0),.int .i64 (Bw p s 1),.int .i64 (Bw p s 2)],.int .i64 (Eo p s)])/\Below w.heap.size w w');AC (f:=159) (B:=B) (R:=R) (es:=[]) (c:=Tryz.f159.body.getD .skip) (tmps:=#[.agg #[vI (p 0),vI (p 1),vI (p 2),vI (p 3),vI (p 4),vI (p 5)],vI s,vN,vN,vN,vN,vN,vN,vN,vN,vN,vN,vN,vN,vN,vN,vN,vN,vN,vN,vN,vN,vN,vN,vN,vN,vN,vN,vN,vN,vN,vN,vN,vN,vN,vN,vN,vN,vN,vN,vN,vN,vN,vN,vN,vN,vN])
  (.s [.c,.c] (.new (λr1=>.new (λr5=>.s [.v,.c,.c,.c,.own 0,.v,.call (.tuple #[.agg #[vI (AF p Ws 0),vI (AF p Ws 1),vI (AF p Ws 2),vI (AF p Ws 3),vI (AF p Ws 4),vI (AF p Ws 5)],vI (BD p Ws)]),.v,.v,.v] (.new (λr9=>.s [.put 2] (.s [.v,.c,.c,.c,.c,.v,.v,.v] (.split 18 (.s [.u,.u,.u,.v,.v,.u,.u,.v,.c,.c,.c,.c,.v,.put 1,.v,.c] (.ret [1])) (.s [.v,.call (.bool (AL s)),.v,.v,.v] (.split 23 (.s [.u,.u,.v,.c,.c,.c,.c,.v,.put 1,.v,.c] (.ret [1])) (.s [.v,.v,.v,.c] (.split 26 (.s [.c,.c,.c,.v,.put 1,.v,.c] (.ret [1])) (.s [.c,.c,.c,.c] (.new (λr21=>.s [.c,.c,.c,.c,.v,.c,.c,.c,.c,.c,.v,.c,.c,.c,.c,.c,.c,.c,.c,.v,.v,.c,.c,.c,.v,.v,.v,.own 0,.v,.call (.tuple #[vI (DK (p 0) s (Ay (p 0) s)),vI (Cz (p 0) s (Ay (p 0) s))]),.v,.v,.v,.v,.put 3] (.s [.v,.c,.c,.c,.v,.v,.c] (.split 42 (.s [.c,.c,.c,.v,.v,.put 1,.v,.c] (.ret [1])) (.s [.c,.c,.c,.c,.v,.v,.c,.c,.c,.c,.v,.c,.c,.c,.c,.c,.c,.c,.c,.v,.v,.c,.c,.c,.v,.v,.v,.own 0,.v,.call (.tuple #[vI (DK (p 1) s (Ay (p 1) s)),vI (Cz (p 1) s (Ay (p 1) s))]),.v,.v,.v,.v,.put 3] (.s [.v,.c,.c,.c,.v,.v,.c] (.split 42 (.s [.c,.c,.c,.v,.v,.put 1,.v,.c] (.ret [1])) (.s [.c,.c,.c,.c,.v,.v,.c,.c,.c,.c,.v,.c,.c,.c,.c,.c,.c,.c,.c,.v,.v,.c,.c,.c,.v,.v,.v,.own 0,.v,.call (.tuple #[vI (DK (p 2) s (Ay (p 2) s)),vI (Cz (p 2) s (Ay (p 2) s))]),.v,.v,.v,.v,.put 3] (.s [.v,.c,.c,.c,.v,.v,.c] (.split 42 (.s [.c,.c,.c,.v,.v,.put 1,.v,.c] (.ret [1])) (.s [.c,.c,.c,.c,.v,.v,.c,.c,.c,.c,.v,.c,.c,.c,.c,.c,.c,.own 3,.put 1] (.s [.v,.c] (.ret [1]))))))))))))))))))))))))))
  (by kernel_rfl) (Sx.refl w _) ExX.nil Tryz.func159 (by kernel_rfl) (by kernel_rfl) (Eq.mp (by kernel_rfl) (λ(r1:Nat)=>let e3:Nat×List Value:=(r1,[vI (p 0),vI (p 1),vI (p 2),vI (p 3),vI (p 4),vI (p 5)]); λ(r5:Nat)=>let e7:Nat×List Value:=(r5,[vI 0,vI 0,vI 0]);let bs6:AD:=[e3,e7];let rs8:Aw:=[(0,45,6),(1,23,3)];aI (Eq.refl r1) (aI (cv B bs6 [] rs8 [] λW hS=>HQ p Ws W) (λ(r9:Nat)=>let rs12:Aw:=[(0,45,6),(1,23,3),(2,45,6)];aI (FN r9) (aI trivial (let e14:Nat×List Value:=(r9,[vI (AF p Ws 0),vI (AF p Ws 1),vI (AF p Ws 2),vI (AF p Ws 3),vI (AF p Ws 4),vI (AF p Ws 5)]);let bs13:AD:=[e3,e7,e14];And.intro (λ(h15:((BD p Ws)!=0)=true)=>hv (show¬((BD p Ws)=0)from(by simpa using h15)) (λh15p=>hv (So h15p) (λF6=>aI (Dm r5) (aI trivial (aI (A_ r5) ((show AO B R bs13 [] rs12 [] (.tuple #[.agg #[vI 0,vI 0,vI 0],vI 1])from by
      have F:=LQ (p:=p) (s:=s) (by unfold EY;simp[F6])
      exactλW hS=>⟨by simp only[F.1,F.2],hS.bl⟩))))))) (λ(h16:((BD p Ws)!=0)=false)=>hv (show(BD p Ws)=0 from(by simpa using h16)) (λh16p=>hv (Sj h16p) (λF6=>aI (cw B bs13 [] rs12 [] λW hS=>As s W) (And.intro (λ(h170:(!(AL s))=true)=>hv (show(AL s)=false from(by simpa using h170)) (λh17=>aI (Dm r5) (aI trivial (aI (A_ r5) ((show AO B R bs13 [] rs12 [] (.tuple #[.agg #[vI 0,vI 0,vI 0],vI 1])from by
      have F:=LQ (p:=p) (s:=s) (by unfold EY;simp[h17])
      exactλW hS=>⟨by simp only[F.1,F.2],hS.bl⟩)))))) (λ(h180:(!(AL s))=false)=>hv (show(AL s)=true from(by simpa using h180)) (λh18=>And.intro (λ(h19:(decide (s<1))=true)=>hv (show s<1 from(by simpa using h19)) (λh19p=>aI (Dm r5) (aI trivial (aI (A_ r5) ((show AO B R bs13 [] rs12 [] (.tuple #[.agg #[vI 0,vI 0,vI 0],vI 1])from by
      have z: ¬1<=s:=by omega
      have F:=LQ (p:=p) (s:=s) (by unfold EY;simp[z])
      exactλW hS=>⟨by simp only[F.1,F.2],hS.bl⟩)))))) (λ(h20:(decide (s<1))=false)=>hv (show¬(s<1)from(by simpa using h20)) (λh20p=> λ(r21:Nat)=>let e23:Nat×List Value:=(r21,[vI 0,vI 0,vI 0]);let bs22:AD:=[e3,e7,e14,e23];let rs24:Aw:=[(0,45,6),(1,23,3),(2,45,6),(3,23,3)];aI (Eq.refl r1) (aI (cv B bs22 [] rs24 [] λW hS=>Ks (p 0) s W (hg.below hS.bl) (hl.below hS.bl)) (aI (A_ r21) (aI trivial (let e26:Nat×List Value:=(r21,[vI (DK (p 0) s (Ay (p 0) s)),vI 0,vI 0]);let bs25:AD:=[e3,e7,e14,e26];And.intro (λ(h27:((Cz (p 0) s (Ay (p 0) s))!=0)=true)=>hv (show¬((Cz (p 0) s (Ay (p 0) s))=0)from(by simpa using h27)) (λh27p=>aI (Dm r5) (aI trivial (aI (A_ r5) ((show AO B R bs25 [] rs24 [] (.tuple #[.agg #[vI 0,vI 0,vI 0],vI (Cz (p 0) s (Ay (p 0) s))])from by
      have B:EY p s=true:=by unfold EY;rw[F6,h18,decide_eq_true (show 1<=s by omega)];rfl
      have h0:s≠0:=by omega
      have D0:=Cf (z:=Ay (p 0) s) (DP F6).1 h18 h0
      have D1:=Cf (z:=Ay (p 1) s) (DP F6).2.1 h18 h0
      have D2:=Cf (z:=Ay (p 2) s) (DP F6).2.2 h18 h0
      have q0:=h27p;rw[D0.2]at q0
      have K:=LU (e0:=BK (Ay (p 0) s)) (e1:=BK (Ay (p 1) s)) (e2:=BK (Ay (p 2) s)) q0
      have F:=Hh B
      exactλW hS=>⟨by simp only[F.1,F.2,K.1,K.2,D0.1,D0.2,D1.1,D1.2,D2.1,D2.2],hS.bl⟩)))))) (λ(h28:((Cz (p 0) s (Ay (p 0) s))!=0)=false)=>hv (show(Cz (p 0) s (Ay (p 0) s))=0 from(by simpa using h28)) (λh28p=>aI (Eq.refl r1) (aI (cv B bs25 [] rs24 [] λW hS=>Ks (p 1) s W (hg.below hS.bl) (hl.below hS.bl)) (aI (A_ r21) (aI trivial (let e30:Nat×List Value:=(r21,[vI (DK (p 0) s (Ay (p 0) s)),vI (DK (p 1) s (Ay (p 1) s)),vI 0]);let bs29:AD:=[e3,e7,e14,e30];And.intro (λ(h31:((Cz (p 1) s (Ay (p 1) s))!=0)=true)=>hv (show¬((Cz (p 1) s (Ay (p 1) s))=0)from(by simpa using h31)) (λh31p=>aI (Dm r5) (aI trivial (aI (A_ r5) ((show AO B R bs29 [] rs24 [] (.tuple #[.agg #[vI 0,vI 0,vI 0],vI (Cz (p 1) s (Ay (p 1) s))])from by
      have B:EY p s=true:=by unfold EY;rw[F6,h18,decide_eq_true (show 1<=s by omega)];rfl
      have h0:s≠0:=by omega
      have D0:=Cf (z:=Ay (p 0) s) (DP F6).1 h18 h0
      have D1:=Cf (z:=Ay (p 1) s) (DP F6).2.1 h18 h0
      have D2:=Cf (z:=Ay (p 2) s) (DP F6).2.2 h18 h0
      have q0:=h28p;rw[D0.2]at q0
      have q1:=h31p;rw[D1.2]at q1
      have K:=Lj (e0:=BK (Ay (p 0) s)) (e1:=BK (Ay (p 1) s)) (e2:=BK (Ay (p 2) s)) q0 q1
      have F:=Hh B
      exactλW hS=>⟨by simp only[F.1,F.2,K.1,K.2,D0.1,D0.2,D1.1,D1.2,D2.1,D2.2],hS.bl⟩)))))) (λ(h32:((Cz (p 1) s (Ay (p 1) s))!=0)=false)=>hv (show(Cz (p 1) s (Ay (p 1) s))=0 from(by simpa using h32)) (λh32p=>aI (Eq.refl r1) (aI (cv B bs29 [] rs24 [] λW hS=>Ks (p 2) s W (hg.below hS.bl) (hl.below hS.bl)) (aI (A_ r21) (aI trivial (let e34:Nat×List Value:=(r21,[vI (DK (p 0) s (Ay (p 0) s)),vI (DK (p 1) s (Ay (p 1) s)),vI (DK (p 2) s (Ay (p 2) s))]);let bs33:AD:=[e3,e7,e14,e34];And.intro (λ(h35:((Cz (p 2) s (Ay (p 2) s))!=0)=true)=>hv (show¬((Cz (p 2) s (Ay (p 2) s))=0)from(by simpa using h35)) (λh35p=>aI (Dm r5) (aI trivial (aI (A_ r5) ((show AO B R bs33 [] rs24 [] (.tuple #[.agg #[vI 0,vI 0,vI 0],vI (Cz (p 2) s (Ay (p 2) s))])from by
      have B:EY p s=true:=by unfold EY;rw[F6,h18,decide_eq_true (show 1<=s by omega)];rfl
      have h0:s≠0:=by omega
      have D0:=Cf (z:=Ay (p 0) s) (DP F6).1 h18 h0
      have D1:=Cf (z:=Ay (p 1) s) (DP F6).2.1 h18 h0
      have D2:=Cf (z:=Ay (p 2) s) (DP F6).2.2 h18 h0
      have q0:=h28p;rw[D0.2]at q0
      have q1:=h32p;rw[D1.2]at q1
      have q2:=h35p;rw[D2.2]at q2
      have K:=N1 (e0:=BK (Ay (p 0) s)) (e1:=BK (Ay (p 1) s)) (e2:=BK (Ay (p 2) s)) q0 q1 q2
      have F:=Hh B
      exactλW hS=>⟨by simp only[F.1,F.2,K.1,K.2,D0.1,D0.2,D1.1,D1.2,D2.1,D2.2],hS.bl⟩)))))) (λ(h36:((Cz (p 2) s (Ay (p 2) s))!=0)=false)=>hv (show(Cz (p 2) s (Ay (p 2) s))=0 from(by simpa using h36)) (λh36p=>aI (Eq.refl r21) (aI (Dm r5) (aI trivial (let e38:Nat×List Value:=(r5,[vI (DK (p 0) s (Ay (p 0) s)),vI (DK (p 1) s (Ay (p 1) s)),vI (DK (p 2) s (Ay (p 2) s))]);let bs37:AD:=[e3,e38,e14,e34];aI (A_ r5) ((show AO B R bs37 [] rs24 [] (.tuple #[.agg #[vI (DK (p 0) s (Ay (p 0) s)),vI (DK (p 1) s (Ay (p 1) s)),vI (DK (p 2) s (Ay (p 2) s))],vI 0])from by
      have B:EY p s=true:=by unfold EY;rw[F6,h18,decide_eq_true (show 1<=s by omega)];rfl
      have h0:s≠0:=by omega
      have D0:=Cf (z:=Ay (p 0) s) (DP F6).1 h18 h0
      have D1:=Cf (z:=Ay (p 1) s) (DP F6).2.1 h18 h0
      have D2:=Cf (z:=Ay (p 2) s) (DP F6).2.2 h18 h0
      have q0:=h28p;rw[D0.2]at q0
      have q1:=h32p;rw[D1.2]at q1
      have q2:=h36p;rw[D2.2]at q2
      have K:=Iw (e0:=BK (Ay (p 0) s)) (e1:=BK (Ay (p 1) s)) (e2:=BK (Ay (p 2) s)) q0 q1 q2
      have F:=Hh B
      exactλW hS=>⟨by simp only[F.1,F.2,K.1,K.2,D0.1,D0.2,D1.1,D1.2,D2.1,D2.2],hS.bl⟩))))))))))))))))))))))))))))))))))))))
end
end Go.Proofs.YtikajapjkdloaaaGreatDoor
