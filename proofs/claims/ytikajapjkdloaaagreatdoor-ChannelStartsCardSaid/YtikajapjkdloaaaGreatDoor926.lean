/- Walks of layer 10 (gate), by plans: Look. -/
import Derived.Test.YtikajapjkdloaaaGreatDoor925
import Derived.Test.YtikajapjkdloaaaGreatDoor924
namespace Go.Proofs.YtikajapjkdloaaaGreatDoor
set_option linter.unusedVariables false
set_option linter.unusedSimpArgs false
open Go.RowKit
section
def Dp(x p:Nat->Int)(q n:Int):Bool:=Ap p&&(Ab x&&(AL q&&(AL n&&(decide (1<=n)&&decide (0<=p 0)))))
def GO(x p:Nat->Int)(q n:Int):Bool:=AL (q-x 0)&&AL (p 0+n)
def Er(x p:Nat->Int)(q n:Int):Int:=if Dp x p q n then(if GO x p q n then 0 else 3)else 1
def Fb(x p:Nat->Int)(q n:Int):Int:=if Dp x p q n&&GO x p q n then q-x 0 else 0
def Fo(x p:Nat->Int)(q n:Int):Int:=if Dp x p q n&&GO x p q n then p 0+n else 0
theorem Hw{x p:Nat->Int}{q n:Int}(h:Dp x p q n=false):Er x p q n=1/\Fb x p q n=0/\Fo x p q n=0:=by unfold Er Fb Fo;rw[h];exact⟨rfl,rfl,rfl⟩
theorem Rv{x p:Nat->Int}{q n:Int}(h:Dp x p q n=true)(h2:GO x p q n=false):Er x p q n=3/\Fb x p q n=0/\Fo x p q n=0:=by unfold Er Fb Fo;rw[h,h2];exact⟨rfl,rfl,rfl⟩
theorem UU{x p:Nat->Int}{q n:Int}(h:Dp x p q n=true)(h2:GO x p q n=true):Er x p q n=0/\Fb x p q n=q-x 0/\Fo x p q n=p 0+n:=by unfold Er Fb Fo;rw[h,h2];exact⟨rfl,rfl,rfl⟩
theorem Kp{p:Nat->Int}:BD p (v6 0 0 0 0 0 0)=if Ap p then 0 else 1:=by
 have h0:Ap (v6 0 0 0 0 0 0)=true:=by decide
 unfold BD
 rw[h0,Bool.and_true]
 cases h:Ap p
 ·rfl
 have e:Ap (λj=>p j+v6 0 0 0 0 0 0 j)=true:=by
  rw[<-h];unfold Ap;simp only[Fl,v6,Int.add_zero]
 rw[e];rfl
theorem K1{p:Nat->Int}(h:BD p (v6 0 0 0 0 0 0)=0):Ap p=true:=by
 rw[Kp]at h
 cases q:Ap p
 ·rw[q]at h;cases h
 rfl
theorem K5{p:Nat->Int}(h: ¬BD p (v6 0 0 0 0 0 0)=0):Ap p=false:=by
 rw[Kp]at h
 cases q:Ap p
 ·rfl
 rw[q]at h;exact absurd rfl h
theorem Kh{p:Nat->Int}(h:Ap p=true):AL (p 0)=true:=by
 unfold Ap at h;simp only[Fl,Bool.true_and,Bool.and_eq_true]at h;simp only[h]
theorem R1{a b z:Int}(ha:AL a=true)(hb:AL b=true)(h:AX a b z=0):AR a b z=z/\AL z=true:=by
 obtain⟨h1,h2⟩:=B8 (z:=z) ha hb
 rw[h2]at h
 cases q:AL z
 ·rw[(Cr q).2]at h;cases h
 exact⟨h1.trans (Cw q).1,rfl⟩
theorem Qm{a b z:Int}(ha:AL a=true)(hb:AL b=true)(h: ¬AX a b z=0):AX a b z=3/\AL z=false:=by
 obtain⟨h1,h2⟩:=B8 (z:=z) ha hb
 rw[h2]at h⊢
 cases q:AL z
 ·exact⟨(Cr q).2,rfl⟩
 exact absurd (Cw q).2 h
abbrev P9:Nat->Int:=(v6 0 0 0 0 0 0)
abbrev Xd:Value:=(.tuple #[vI 0,vI 0,vI 1])
set_option maxRecDepth 1000000 in
set_option maxHeartbeats 8000000 in
theorem PO(x p:Nat->Int)(q n:Int)(hx: ∀i,Ai (x i))(hp6: ∀i,Ai (p i))(hq:Ai q)(hn:Ai n)(w:World):Calls Tryz.prog 102 #[.agg #[.int .i64 (x 0),.int .i64 (x 1),.int .i64 (x 2)],.agg #[.int .i64 (p 0),.int .i64 (p 1),.int .i64 (p 2),.int .i64 (p 3),.int .i64 (p 4),.int .i64 (p 5)],.int .i64 q,.int .i64 n] w (λe w'=>e=.returned (.tuple #[.int .i64 (Fb x p q n),.int .i64 (Fo x p q n),.int .i64 (Er x p q n)])/\Below w.heap.size w w'):=by
 exact(let B:Base:=(⟨w,λ_=>False⟩:Base);let R:Ending->World->Prop:=(λe w'=>e=.returned (.tuple #[.int .i64 (Fb x p q n),.int .i64 (Fo x p q n),.int .i64 (Er x p q n)])/\Below w.heap.size w w');AC (f:=102) (B:=B) (R:=R) (es:=[]) (c:=Tryz.f102.body.getD .skip) (tmps:=#[.agg #[vI (x 0),vI (x 1),vI (x 2)],.agg #[vI (p 0),vI (p 1),vI (p 2),vI (p 3),vI (p 4),vI (p 5)],vI q,vI n,vN,vN,vN,vN,vN,vN,vN,vN,vN,vN,vN,vN,vN,vN,vN,vN,vN,vN,vN,vN,vN,vN,vN,vN,vN,vN,vN,vN,vN,vN,vN,vN,vN,vN,vN,vN,vN,vN,vN,vN,vN,vN,vN,vN,vN,vN,vN,vN,vN,vN,vN,vN,vN,vN,vN,vN,vN,vN,vN,vN,vN,vN,vN,vN,vN])
  (.s [.c,.c] (.new (λr1=>.new (λr5=>.s [.v,.v,.v,.c,.c,.c,.own 1,.v,.call (.tuple #[.agg #[vI (AF p P9 0),vI (AF p P9 1),vI (AF p P9 2),vI (AF p P9 3),vI (AF p P9 4),vI (AF p P9 5)],vI (BD p P9)]),.v,.v,.v] (.new (λr9=>.s [.put 2] (.s [.v,.c,.c,.c,.c,.v,.v,.v] (.split 23 (.s [.u,.u,.u,.v,.v,.u,.u,.u,.v,.v,.u,.u,.u,.v,.v,.u,.u,.v,.v,.u,.u,.u,.v,.c,.c,.c,.c,.v,.v,.v,.c] (.ret [])) (.s [.own 0,.call (.bool (Ab x)),.v,.v,.v] (.split 28 (.s [.u,.u,.u,.v,.v,.u,.u,.u,.v,.v,.u,.u,.v,.v,.u,.u,.u,.v,.c,.c,.c,.c,.v,.v,.v,.c] (.ret [])) (.s [.v,.call (.bool (AL q)),.v,.v,.v] (.split 33 (.s [.u,.u,.u,.v,.v,.u,.u,.v,.v,.u,.u,.u,.v,.c,.c,.c,.c,.v,.v,.v,.c] (.ret [])) (.s [.v,.call (.bool (AL n)),.v,.v,.v] (.split 38 (.s [.u,.u,.v,.v,.u,.u,.u,.v,.c,.c,.c,.c,.v,.v,.v,.c] (.ret [])) (.s [.v,.v,.v,.v] (.split 42 (.s [.u,.u,.u,.v,.c,.c,.c,.c,.v,.v,.v,.c] (.ret [])) (.s [.v,.own 1,.v,.v,.c] (.split 46 (.s [.c,.c,.c,.v,.v,.v,.c] (.ret [])) (.s [.c,.c,.c,.c,.v,.v,.own 0,.call (.tuple #[vI (AR q (x 0) (q-(x 0))),vI (AX q (x 0) (q-(x 0)))]),.v,.v,.v,.v,.v,.c,.c,.c,.c,.v,.v,.c] (.split 55 (.s [.c,.c,.c,.v,.v,.v,.v,.c] (.ret [])) (.s [.c,.c,.c,.c,.v,.own 1,.v,.call (.tuple #[vI (AR (p 0) n ((p 0)+n)),vI (AX (p 0) n ((p 0)+n))]),.v,.v,.v,.v,.v,.c,.c,.c,.c,.v,.v,.c] (.split 65 (.s [.c,.c,.c,.v,.v,.v,.v,.c] (.ret [])) (.s [.c,.c,.c,.c,.v,.v,.v,.v,.v,.c] (.ret []))))))))))))))))))))))))
  el (Sx.refl w _) ExX.nil Tryz.func102 el el (Eq.mp el (λ(r1:Nat)=>let e3:Nat×List Value:=(r1,[vI (x 0),vI (x 1),vI (x 2)]); λ(r5:Nat)=>let e7:Nat×List Value:=(r5,[vI (p 0),vI (p 1),vI (p 2),vI (p 3),vI (p 4),vI (p 5)]);let bs6:AD:=[e3,e7];let rs8:Aw:=[(0,23,3),(1,45,6)];aI (Eq.refl r5) (aI (cv B bs6 [] rs8 [] λW hS=>HQ p P9 W) (λ(r9:Nat)=>let rs12:Aw:=[(0,23,3),(1,45,6),(2,45,6)];aI (FN r9) (aI trivial (let e14:Nat×List Value:=(r9,[vI (AF p P9 0),vI (AF p P9 1),vI (AF p P9 2),vI (AF p P9 3),vI (AF p P9 4),vI (AF p P9 5)]);let bs13:AD:=[e3,e7,e14];And.intro (λ(h15:((BD p P9)!=0)=true)=>hv (show¬((BD p P9)=0)from(by simpa using h15)) (λh15p=>hv (K5 h15p) (λF6=>aI trivial ((show AO B R bs13 [] rs12 [] Xd from by
     have F:=Hw (x:=x) (p:=p) (q:=q) (n:=n) (by unfold Dp;simp[F6])
     exactλW hS=>⟨by rw[F.1,F.2.1,F.2.2],hS.bl⟩))))) (λ(h16:((BD p P9)!=0)=false)=>hv (show(BD p P9)=0 from(by simpa using h16)) (λh16p=>hv (K1 h16p) (λF6=>aI (Eq.refl r1) (aI (cv B bs13 [] rs12 [] λW hS=>DY x hx W) (And.intro (λ(h170:(!(Ab x))=true)=>hv (show(Ab x)=false from(by simpa using h170)) (λh17=>aI trivial ((show AO B R bs13 [] rs12 [] Xd from by
     have F:=Hw (x:=x) (p:=p) (q:=q) (n:=n) (by unfold Dp;simp[h17])
     exactλW hS=>⟨by rw[F.1,F.2.1,F.2.2],hS.bl⟩)))) (λ(h180:(!(Ab x))=false)=>hv (show(Ab x)=true from(by simpa using h180)) (λh18=>aI (cw B bs13 [] rs12 [] λW hS=>As q W) (And.intro (λ(h190:(!(AL q))=true)=>hv (show(AL q)=false from(by simpa using h190)) (λh19=>aI trivial ((show AO B R bs13 [] rs12 [] Xd from by
     have F:=Hw (x:=x) (p:=p) (q:=q) (n:=n) (by unfold Dp;simp[h19])
     exactλW hS=>⟨by rw[F.1,F.2.1,F.2.2],hS.bl⟩)))) (λ(h200:(!(AL q))=false)=>hv (show(AL q)=true from(by simpa using h200)) (λh20=>aI (cw B bs13 [] rs12 [] λW hS=>As n W) (And.intro (λ(h210:(!(AL n))=true)=>hv (show(AL n)=false from(by simpa using h210)) (λh21=>aI trivial ((show AO B R bs13 [] rs12 [] Xd from by
     have F:=Hw (x:=x) (p:=p) (q:=q) (n:=n) (by unfold Dp;simp[h21])
     exactλW hS=>⟨by rw[F.1,F.2.1,F.2.2],hS.bl⟩)))) (λ(h220:(!(AL n))=false)=>hv (show(AL n)=true from(by simpa using h220)) (λh22=>And.intro (λ(h23:(decide (n<1))=true)=>hv (show n<1 from(by simpa using h23)) (λh23p=>aI trivial ((show AO B R bs13 [] rs12 [] Xd from by
     have z: ¬1<=n:=by omega
     have F:=Hw (x:=x) (p:=p) (q:=q) (n:=n) (by unfold Dp;simp[z])
     exactλW hS=>⟨by rw[F.1,F.2.1,F.2.2],hS.bl⟩)))) (λ(h24:(decide (n<1))=false)=>hv (show¬(n<1)from(by simpa using h24)) (λh24p=>aI (Eq.refl r5) (And.intro (λ(h25:(decide ((p 0)<0))=true)=>hv (show(p 0)<0 from(by simpa using h25)) (λh25p=>aI trivial ((show AO B R bs13 [] rs12 [] Xd from by
     have z: ¬0<=p 0:=by omega
     have F:=Hw (x:=x) (p:=p) (q:=q) (n:=n) (by unfold Dp;simp[z])
     exactλW hS=>⟨by rw[F.1,F.2.1,F.2.2],hS.bl⟩)))) (λ(h26:(decide ((p 0)<0))=false)=>hv (show¬((p 0)<0)from(by simpa using h26)) (λh26p=>aI (Eq.refl r1) (aI (cv B bs13 [] rs12 [] λW hS=>K8 q (x 0) W) (And.intro (λ(h27:((AX q (x 0) (q-(x 0)))!=0)=true)=>hv (show¬((AX q (x 0) (q-(x 0)))=0)from(by simpa using h27)) (λh27p=>aI trivial ((show AO B R bs13 [] rs12 [] (.tuple #[vI 0,vI 0,vI (AX q (x 0) (q-(x 0)))])from by
     have B:Dp x p q n=true:=by unfold Dp;rw[F6,h18,h20,h22,decide_eq_true (show 1<=n by omega),decide_eq_true (show 0<=p 0 by omega)];rfl
     have G:=Qm (z:=q-x 0) h20 (Ch h18).1 h27p
     have F:=Rv B (by unfold GO;rw[G.2];rfl)
     exactλW hS=>⟨by rw[G.1,F.1,F.2.1,F.2.2],hS.bl⟩)))) (λ(h28:((AX q (x 0) (q-(x 0)))!=0)=false)=>hv (show(AX q (x 0) (q-(x 0)))=0 from(by simpa using h28)) (λh28p=>aI (Eq.refl r5) (aI (cv B bs13 [] rs12 [] λW hS=>Gu (p 0) n W) (And.intro (λ(h29:((AX (p 0) n ((p 0)+n))!=0)=true)=>hv (show¬((AX (p 0) n ((p 0)+n))=0)from(by simpa using h29)) (λh29p=>aI trivial ((show AO B R bs13 [] rs12 [] (.tuple #[vI 0,vI 0,vI (AX (p 0) n ((p 0)+n))])from by
     have B:Dp x p q n=true:=by unfold Dp;rw[F6,h18,h20,h22,decide_eq_true (show 1<=n by omega),decide_eq_true (show 0<=p 0 by omega)];rfl
     have G:=R1 (z:=q-x 0) h20 (Ch h18).1 h28p
     have G2:=Qm (z:=p 0+n) (Kh F6) h22 h29p
     have F:=Rv B (by unfold GO;rw[G2.2,Bool.and_false])
     exactλW hS=>⟨by rw[G2.1,F.1,F.2.1,F.2.2],hS.bl⟩)))) (λ(h30:((AX (p 0) n ((p 0)+n))!=0)=false)=>hv (show(AX (p 0) n ((p 0)+n))=0 from(by simpa using h30)) (λh30p=>aI trivial ((show AO B R bs13 [] rs12 [] (.tuple #[vI (AR q (x 0) (q-(x 0))),vI (AR (p 0) n ((p 0)+n)),vI 0])from by
     have B:Dp x p q n=true:=by unfold Dp;rw[F6,h18,h20,h22,decide_eq_true (show 1<=n by omega),decide_eq_true (show 0<=p 0 by omega)];rfl
     have G:=R1 (z:=q-x 0) h20 (Ch h18).1 h28p
     have G2:=R1 (z:=p 0+n) (Kh F6) h22 h30p
     have F:=UU B (by unfold GO;rw[G.2,G2.2];rfl)
     exactλW hS=>⟨by rw[G.1,G2.1,F.1,F.2.1,F.2.2],hS.bl⟩)))))))))))))))))))))))))))))))))))
end
section
def QQ(x k:Nat->Int)(y:Int):Bool:=Ab x&&(Ab k&&AL y)
def Ok(x k:Nat->Int)(y:Int):Int:=if QQ x k y then(if FD k y==0 then Eb x (DA k y)else 3)else 1
def Gp(x k:Nat->Int)(y:Int)(i:Nat):Int:=if QQ x k y&&FD k y==0 then Bi x (DA k y) i else 0
theorem VJ{x k:Nat->Int}{y:Int}(h:QQ x k y=false):Ok x k y=1/\ ∀i,Gp x k y i=0:=⟨by unfold Ok;rw[h];rfl,λi=>by unfold Gp;rw[h];rfl⟩
theorem WI{x k:Nat->Int}{y:Int}(h:QQ x k y=true)(h2: ¬FD k y=0):Ok x k y=3/\ ∀i,Gp x k y i=0:=by
 have e:(FD k y==0)=false:=by simpa using h2
 exact⟨by unfold Ok;rw[h,e];rfl,λi=>by unfold Gp;rw[h,e];rfl⟩
theorem WL{x k:Nat->Int}{y:Int}(h:QQ x k y=true)(h2:FD k y=0):Ok x k y=Eb x (DA k y)/\ ∀i,Gp x k y i=Bi x (DA k y) i:=by
 have e:(FD k y==0)=true:=by simpa using h2
 exact⟨by unfold Ok;rw[h,e];rfl,λi=>by unfold Gp;rw[h,e];rfl⟩
theorem NV(z:Int):BK z=0∨BK z=3:=by unfold BK;split<;>simp
theorem UY{k:Nat->Int}{y:Int}(h:Ab k=true)(h2:AL y=true)(h3: ¬FD k y=0):FD k y=3:=by
 obtain⟨f0,f1,f2⟩:=Ch h
 have e:=(O4 h h2).1
 have a: ∀i,AL (k i)=true->BW k y i=BK (AV (k i) y):= λi q=>(B8 q h2).2
 rw[a 0 f0,a 1 f1,a 2 f2]at e
 rw[e]at h3⊢
 have t0:=NV (AV (k 0) y)
 have t1:=NV (AV (k 1) y)
 have t2:=NV (AV (k 2) y)
 unfold eE at h3⊢
 (repeat' split)<;>simp_all
set_option maxRecDepth 1000000 in
set_option maxHeartbeats 8000000 in
theorem K7(x k:Nat->Int)(y:Int)(hx: ∀i,Ai (x i))(hk: ∀i,Ai (k i))(hy:Ai y)(w:World)(hg:GN w):Calls Tryz.prog 105 #[.agg #[.int .i64 (x 0),.int .i64 (x 1),.int .i64 (x 2)],.agg #[.int .i64 (k 0),.int .i64 (k 1),.int .i64 (k 2)],.int .i64 y] w (λe w'=>e=.returned (.tuple #[.agg #[.int .i64 (Gp x k y 0),.int .i64 (Gp x k y 1),.int .i64 (Gp x k y 2)],.int .i64 (Ok x k y)])/\Below w.heap.size w w'):=by
 exact(let B:Base:=(⟨w,λ_=>False⟩:Base);let R:Ending->World->Prop:=(λe w'=>e=.returned (.tuple #[.agg #[.int .i64 (Gp x k y 0),.int .i64 (Gp x k y 1),.int .i64 (Gp x k y 2)],.int .i64 (Ok x k y)])/\Below w.heap.size w w');AC (f:=105) (B:=B) (R:=R) (es:=[]) (c:=Tryz.f105.body.getD .skip) (tmps:=(Gn [.agg #[vI (x 0),vI (x 1),vI (x 2)],.agg #[vI (k 0),vI (k 1),vI (k 2)],vI y] 36))
  (.s [.c,.c] (.new (λr1=>.new (λr5=>.new (λr9=>.s [.v,.c,.c,.c,.c,.own 0,.call (.bool (Ab x)),.v,.v] (.split 13 (.s [.u,.u,.u,.v,.v,.u,.u,.u,.v,.c,.c,.c,.c,.v,.put 2,.v,.c] (.ret [2])) (.s [.own 1,.call (.bool (Ab k)),.v,.v,.v] (.split 18 (.s [.u,.u,.u,.v,.c,.c,.c,.c,.v,.put 2,.v,.c] (.ret [2])) (.s [.v,.call (.bool (AL y)),.v,.v,.c] (.split 22 (.s [.c,.c,.c,.v,.put 2,.v,.c] (.ret [2])) (.s [.c,.c,.c,.c,.own 1,.v,.call (.tuple #[.agg #[vI (DA k y 0),vI (DA k y 1),vI (DA k y 2)],vI (FD k y)]),.v,.v,.v] (.new (λr19=>.s [.put 3] (.s [.v,.c,.c,.c,.c,.v,.v,.c] (.split 31 (.s [.c,.c,.c,.v,.v,.put 2,.v,.c] (.ret [2])) (.s [.c,.c,.c,.c,.own 0,.own 3,.call (.tuple #[.agg #[vI (Bi x (DA k y) 0),vI (Bi x (DA k y) 1),vI (Bi x (DA k y) 2)],vI (Eb x (DA k y))]),.v,.v,.put 2] (.s [.v,.c] (.ret [2]))))))))))))))))))
  el (Sx.refl w _) ExX.nil Tryz.func105 el el (Eq.mp el (λ(r1:Nat)=>let e3:Nat×List Value:=(r1,[vI (x 0),vI (x 1),vI (x 2)]); λ(r5:Nat)=>let e7:Nat×List Value:=(r5,[vI (k 0),vI (k 1),vI (k 2)]); λ(r9:Nat)=>let e11:Nat×List Value:=(r9,[vI 0,vI 0,vI 0]);let bs10:AD:=[e3,e7,e11];let rs12:Aw:=[(0,23,3),(1,23,3),(2,23,3)];aI (Eq.refl r1) (aI (cv B bs10 [] rs12 [] λW hS=>DY x hx W) (And.intro (λ(h130:(!(Ab x))=true)=>hv (show(Ab x)=false from(by simpa using h130)) (λh13=>aI (Dm r9) (aI trivial (aI (A_ r9) ((show AO B R bs10 [] rs12 [] (.tuple #[.agg #[vI 0,vI 0,vI 0],vI 1])from by
     have F:=VJ (x:=x) (k:=k) (y:=y) (by unfold QQ;simp[h13])
     exactλW hS=>⟨by simp only[F.1,F.2],hS.bl⟩)))))) (λ(h140:(!(Ab x))=false)=>hv (show(Ab x)=true from(by simpa using h140)) (λh14=>aI (Eq.refl r5) (aI (cv B bs10 [] rs12 [] λW hS=>DY k hk W) (And.intro (λ(h150:(!(Ab k))=true)=>hv (show(Ab k)=false from(by simpa using h150)) (λh15=>aI (Dm r9) (aI trivial (aI (A_ r9) ((show AO B R bs10 [] rs12 [] (.tuple #[.agg #[vI 0,vI 0,vI 0],vI 1])from by
     have F:=VJ (x:=x) (k:=k) (y:=y) (by unfold QQ;simp[h15])
     exactλW hS=>⟨by simp only[F.1,F.2],hS.bl⟩)))))) (λ(h160:(!(Ab k))=false)=>hv (show(Ab k)=true from(by simpa using h160)) (λh16=>aI (cw B bs10 [] rs12 [] λW hS=>As y W) (And.intro (λ(h170:(!(AL y))=true)=>hv (show(AL y)=false from(by simpa using h170)) (λh17=>aI (Dm r9) (aI trivial (aI (A_ r9) ((show AO B R bs10 [] rs12 [] (.tuple #[.agg #[vI 0,vI 0,vI 0],vI 1])from by
     have F:=VJ (x:=x) (k:=k) (y:=y) (by unfold QQ;simp[h17])
     exactλW hS=>⟨by simp only[F.1,F.2],hS.bl⟩)))))) (λ(h180:(!(AL y))=false)=>hv (show(AL y)=true from(by simpa using h180)) (λh18=>aI (Eq.refl r5) (aI (cv B bs10 [] rs12 [] λW hS=>P_ k y hk W (hg.below hS.bl)) (λ(r19:Nat)=>let rs22:Aw:=[(0,23,3),(1,23,3),(2,23,3),(3,23,3)];aI (Dm r19) (aI trivial (let e24:Nat×List Value:=(r19,[vI (DA k y 0),vI (DA k y 1),vI (DA k y 2)]);let bs23:AD:=[e3,e7,e11,e24];And.intro (λ(h25:((FD k y)!=0)=true)=>hv (show¬((FD k y)=0)from(by simpa using h25)) (λh25p=>aI (Dm r9) (aI trivial (aI (A_ r9) ((show AO B R bs23 [] rs22 [] (.tuple #[.agg #[vI 0,vI 0,vI 0],vI (FD k y)])from by
     have B:QQ x k y=true:=by unfold QQ;rw[h14,h16,h18];rfl
     have F:=WI B h25p
     have G:=UY h16 h18 h25p
     exactλW hS=>⟨by simp only[F.1,F.2,G],hS.bl⟩)))))) (λ(h26:((FD k y)!=0)=false)=>hv (show(FD k y)=0 from(by simpa using h26)) (λh26p=>aI (Eq.refl r1) (aI (Eq.refl r19) (aI (cv B bs23 [] rs22 [] λW hS=>LL x (DA k y) hx (Rn _ _) W) (aI (Dm r9) (aI trivial (let e28:Nat×List Value:=(r9,[vI (Bi x (DA k y) 0),vI (Bi x (DA k y) 1),vI (Bi x (DA k y) 2)]);let bs27:AD:=[e3,e7,e28,e24];aI (A_ r9) ((show AO B R bs27 [] rs22 [] (.tuple #[.agg #[vI (Bi x (DA k y) 0),vI (Bi x (DA k y) 1),vI (Bi x (DA k y) 2)],vI (Eb x (DA k y))])from by
     have B:QQ x k y=true:=by unfold QQ;rw[h14,h16,h18];rfl
     have F:=WL B h26p
     exactλW hS=>⟨by simp only[F.1,F.2],hS.bl⟩)))))))))))))))))))))))))))
end
section
attribute [local go_sem] CE CA CF CG B_ CB CD CC Be Bc Ba
theorem VT(h:3<Tryz.prog.types.size):(Tryz.prog.types[3]'h).size=1:=by kernel_rfl
theorem VZ(h:2<Tryz.prog.types.size):(Tryz.prog.types[2]'h).size=1:=by kernel_rfl
theorem Va(a b c:Value)(w:World):(Instr.index 241 (.agg #[a,b,c]) (.int .i64 0)).run Tryz.prog w=.ok a w:=by kernel_rfl
theorem Vh(a b c:Value)(w:World):(Instr.index 241 (.agg #[a,b,c]) (.int .i64 1)).run Tryz.prog w=.ok b w:=by kernel_rfl
theorem Vn(a b c:Value)(w:World):(Instr.index 241 (.agg #[a,b,c]) (.int .i64 2)).run Tryz.prog w=.ok c w:=by kernel_rfl
attribute [local go_sem] VT VZ Va Vh Vn
end
section
attribute [local go_sem] CE CA CF CG B_ CB CD CC Be Bc Ba
attribute [local go_sem] Km NF
end
end Go.Proofs.YtikajapjkdloaaaGreatDoor
