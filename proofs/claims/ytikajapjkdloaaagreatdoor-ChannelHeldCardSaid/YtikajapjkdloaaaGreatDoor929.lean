/- Walks of layer 11 (gain) and of its reference, by plans; the laws GainMild and GainLess. -/
import Derived.Test.YtikajapjkdloaaaGreatDoor928
import Derived.Test.YtikajapjkdloaaaGreatDoor923
namespace Go.Proofs.YtikajapjkdloaaaGreatDoor
open Go.RowKit
set_option linter.unusedSimpArgs false
set_option linter.unusedVariables false
def EY(p:Nat->Int)(s:Int):Bool:=Ap p&&(AL s&&decide (1<=s))
def Eo(p:Nat->Int)(s:Int):Int:=if EY p s then eE (BK (Ay (p 0) s)) (BK (Ay (p 1) s)) (BK (Ay (p 2) s))else 1
def Bw(p:Nat->Int)(s:Int)(i:Nat):Int:=if EY p s then eV (BK (Ay (p 0) s)) (BK (Ay (p 1) s)) (BK (Ay (p 2) s)) (Au (Ay (p i) s))else 0
theorem LQ{p:Nat->Int}{s:Int}(h:EY p s=false):Eo p s=1/\ ∀i,Bw p s i=0:=⟨by unfold Eo;rw[h];rfl,λi=>by unfold Bw;rw[h];rfl⟩
theorem Hh{p:Nat->Int}{s:Int}(h:EY p s=true):Eo p s=eE (BK (Ay (p 0) s)) (BK (Ay (p 1) s)) (BK (Ay (p 2) s))/\ ∀i,Bw p s i=eV (BK (Ay (p 0) s)) (BK (Ay (p 1) s)) (BK (Ay (p 2) s)) (Au (Ay (p i) s)):=
 ⟨by unfold Eo;rw[h];rfl,λi=>by unfold Bw;rw[h];rfl⟩
theorem JV{p:Nat->Int}:BD p (v6 0 0 0 0 0 0)=if Ap p then 0 else 1:=by
 have h0:Ap (v6 0 0 0 0 0 0)=true:=by decide
 unfold BD
 rw[h0,Bool.and_true]
 cases h:Ap p
 ·rfl
 have e:Ap (λj=>p j+v6 0 0 0 0 0 0 j)=true:=by
  rw[<-h];unfold Ap;simp only[Fl,v6,Int.add_zero]
 rw[e];rfl
theorem Sj{p:Nat->Int}(h:BD p (v6 0 0 0 0 0 0)=0):Ap p=true:=by
 rw[JV]at h
 cases q:Ap p
 ·rw[q]at h;cases h
 rfl
theorem So{p:Nat->Int}(h: ¬BD p (v6 0 0 0 0 0 0)=0):Ap p=false:=by
 rw[JV]at h
 cases q:Ap p
 ·rfl
 rw[q]at h;exact absurd rfl h
theorem DP{p:Nat->Int}(h:Ap p=true):AL (p 0)=true/\AL (p 1)=true/\AL (p 2)=true:=by
 unfold Ap at h;simp only[Fl,Bool.true_and,Bool.and_eq_true]at h;simp only[h,and_self]
abbrev Ws:Nat->Int:=(v6 0 0 0 0 0 0)
set_option maxRecDepth 1000000 in
set_option maxHeartbeats 8000000 in
theorem QI(p:Nat->Int)(s:Int)(hp6: ∀i,Ai (p i))(hs:Ai s)(w:World)(hg:GN w)(hl:GL w):Calls Tryz.prog 159 #[.agg #[.int .i64 (p 0),.int .i64 (p 1),.int .i64 (p 2),.int .i64 (p 3),.int .i64 (p 4),.int .i64 (p 5)],.int .i64 s] w (λe w'=>e=.returned (.tuple #[.agg #[.int .i64 (Bw p s 0),.int .i64 (Bw p s 1),.int .i64 (Bw p s 2)],.int .i64 (Eo p s)])/\Below w.heap.size w w'):=by
 exact(let B:Base:=(⟨w,λ_=>False⟩:Base);let R:Ending->World->Prop:=(λe w'=>e=.returned (.tuple #[.agg #[.int .i64 (Bw p s 0),.int .i64 (Bw p s 1),.int .i64 (Bw p s 2)],.int .i64 (Eo p s)])/\Below w.heap.size w w');AC (f:=159) (B:=B) (R:=R) (es:=[]) (c:=Tryz.f159.body.getD .skip) (tmps:=#[.agg #[vI (p 0),vI (p 1),vI (p 2),vI (p 3),vI (p 4),vI (p 5)],vI s,vN,vN,vN,vN,vN,vN,vN,vN,vN,vN,vN,vN,vN,vN,vN,vN,vN,vN,vN,vN,vN,vN,vN,vN,vN,vN,vN,vN,vN,vN,vN,vN,vN,vN,vN,vN,vN,vN,vN,vN,vN,vN,vN,vN,vN])
  (.s [.c,.c] (.new (λr1=>.new (λr5=>.s [.v,.c,.c,.c,.own 0,.v,.call (.tuple #[.agg #[vI (AF p Ws 0),vI (AF p Ws 1),vI (AF p Ws 2),vI (AF p Ws 3),vI (AF p Ws 4),vI (AF p Ws 5)],vI (BD p Ws)]),.v,.v,.v] (.new (λr9=>.s [.put 2] (.s [.v,.c,.c,.c,.c,.v,.v,.v] (.split 18 (.s [.u,.u,.u,.v,.v,.u,.u,.v,.c,.c,.c,.c,.v,.put 1,.v,.c] (.ret [1])) (.s [.v,.call (.bool (AL s)),.v,.v,.v] (.split 23 (.s [.u,.u,.v,.c,.c,.c,.c,.v,.put 1,.v,.c] (.ret [1])) (.s [.v,.v,.v,.c] (.split 26 (.s [.c,.c,.c,.v,.put 1,.v,.c] (.ret [1])) (.s [.c,.c,.c,.c] (.new (λr21=>.s [.c,.c,.c,.c,.v,.c,.c,.c,.c,.c,.v,.c,.c,.c,.c,.c,.c,.c,.c,.v,.v,.c,.c,.c,.v,.v,.v,.own 0,.v,.call (.tuple #[vI (DK (p 0) s (Ay (p 0) s)),vI (Cz (p 0) s (Ay (p 0) s))]),.v,.v,.v,.v,.put 3] (.s [.v,.c,.c,.c,.v,.v,.c] (.split 42 (.s [.c,.c,.c,.v,.v,.put 1,.v,.c] (.ret [1])) (.s [.c,.c,.c,.c,.v,.v,.c,.c,.c,.c,.v,.c,.c,.c,.c,.c,.c,.c,.c,.v,.v,.c,.c,.c,.v,.v,.v,.own 0,.v,.call (.tuple #[vI (DK (p 1) s (Ay (p 1) s)),vI (Cz (p 1) s (Ay (p 1) s))]),.v,.v,.v,.v,.put 3] (.s [.v,.c,.c,.c,.v,.v,.c] (.split 42 (.s [.c,.c,.c,.v,.v,.put 1,.v,.c] (.ret [1])) (.s [.c,.c,.c,.c,.v,.v,.c,.c,.c,.c,.v,.c,.c,.c,.c,.c,.c,.c,.c,.v,.v,.c,.c,.c,.v,.v,.v,.own 0,.v,.call (.tuple #[vI (DK (p 2) s (Ay (p 2) s)),vI (Cz (p 2) s (Ay (p 2) s))]),.v,.v,.v,.v,.put 3] (.s [.v,.c,.c,.c,.v,.v,.c] (.split 42 (.s [.c,.c,.c,.v,.v,.put 1,.v,.c] (.ret [1])) (.s [.c,.c,.c,.c,.v,.v,.c,.c,.c,.c,.v,.c,.c,.c,.c,.c,.c,.own 3,.put 1] (.s [.v,.c] (.ret [1]))))))))))))))))))))))))))
  (by kernel_rfl) (Sx.refl w _) ExX.nil Tryz.func159 (by kernel_rfl) (by kernel_rfl) (Eq.mp (by kernel_rfl) (λ(r1:Nat)=>let e3:Nat×List Value:=(r1,[vI (p 0),vI (p 1),vI (p 2),vI (p 3),vI (p 4),vI (p 5)]); λ(r5:Nat)=>let e7:Nat×List Value:=(r5,[vI 0,vI 0,vI 0]);let bs6:AD:=[e3,e7];let rs8:Aw:=[(0,45,6),(1,23,3)];aI (Eq.refl r1) (aI (cv B bs6 [] rs8 [] λW hS=>HQ p Ws W) (λ(r9:Nat)=>let rs12:Aw:=[(0,45,6),(1,23,3),(2,45,6)];aI (FN r9) (aI trivial (let e14:Nat×List Value:=(r9,[vI (AF p Ws 0),vI (AF p Ws 1),vI (AF p Ws 2),vI (AF p Ws 3),vI (AF p Ws 4),vI (AF p Ws 5)]);let bs13:AD:=[e3,e7,e14];And.intro (λ(h15:((BD p Ws)!=0)=true)=>hv (show¬((BD p Ws)=0)from(by simpa using h15)) (λh15p=>hv (So h15p) (λF6=>aI (Dm r5) (aI trivial (aI (A_ r5) ((show AO B R bs13 [] rs12 [] (.tuple #[.agg #[vI 0,vI 0,vI 0],vI 1])from by
      have F:=LQ (p:=p) (s:=s) (by unfold EY;simp[F6])
      exactλW hS=>⟨by simp only[F.1,F.2],hS.bl⟩))))))) (λ(h16:((BD p Ws)!=0)=false)=>hv (show(BD p Ws)=0 from(by simpa using h16)) (λh16p=>hv (Sj h16p) (λF6=>aI (cw B bs13 [] rs12 [] λW hS=>As s W) (And.intro (λ(h170:(!(AL s))=true)=>hv (show(AL s)=false from(by simpa using h170)) (λh17=>aI (Dm r5) (aI trivial (aI (A_ r5) ((show AO B R bs13 [] rs12 [] (.tuple #[.agg #[vI 0,vI 0,vI 0],vI 1])from by
      have F:=LQ (p:=p) (s:=s) (by unfold EY;simp[h17])
      exactλW hS=>⟨by simp only[F.1,F.2],hS.bl⟩)))))) (λ(h180:(!(AL s))=false)=>hv (show(AL s)=true from(by simpa using h180)) (λh18=>And.intro (λ(h19:(decide (s<1))=true)=>hv (show s<1 from(by simpa using h19)) (λh19p=>aI (Dm r5) (aI trivial (aI (A_ r5) ((show AO B R bs13 [] rs12 [] (.tuple #[.agg #[vI 0,vI 0,vI 0],vI 1])from by
      have z: ¬1<=s:=by omega
      have F:=LQ (p:=p) (s:=s) (by unfold EY;simp[z])
      exactλW hS=>⟨by simp only[F.1,F.2],hS.bl⟩)))))) (λ(h20:(decide (s<1))=false)=>hv (show¬(s<1)from(by simpa using h20)) (λh20p=> λ(r21:Nat)=>let e23:Nat×List Value:=(r21,[vI 0,vI 0,vI 0]);let bs22:AD:=[e3,e7,e14,e23];let rs24:Aw:=[(0,45,6),(1,23,3),(2,45,6),(3,23,3)];aI (Eq.refl r1) (aI (cv B bs22 [] rs24 [] λW hS=>Ks (p 0) s W (hg.below hS.bl) (hl.below hS.bl)) (aI (A_ r21) (aI trivial (let e26:Nat×List Value:=(r21,[vI (DK (p 0) s (Ay (p 0) s)),vI 0,vI 0]);let bs25:AD:=[e3,e7,e14,e26];And.intro (λ(h27:((Cz (p 0) s (Ay (p 0) s))!=0)=true)=>hv (show¬((Cz (p 0) s (Ay (p 0) s))=0)from(by simpa using h27)) (λh27p=>aI (Dm r5) (aI trivial (aI (A_ r5) ((show AO B R bs25 [] rs24 [] (.tuple #[.agg #[vI 0,vI 0,vI 0],vI (Cz (p 0) s (Ay (p 0) s))])from by
      have B:EY p s=true:=by unfold EY;rw[F6,h18,decide_eq_true (show 1<=s by omega)];rfl
      have h0:s≠0:=by omega
      have D0:=Cf (z:=Ay (p 0) s) (DP F6).1 h18 h0
      have D1:=Cf (z:=Ay (p 1) s) (DP F6).2.1 h18 h0
      have D2:=Cf (z:=Ay (p 2) s) (DP F6).2.2 h18 h0
      have q0:=h27p;rw[D0.2]at q0
      have K:=LU (e0:=BK (Ay (p 0) s)) (e1:=BK (Ay (p 1) s)) (e2:=BK (Ay (p 2) s)) q0
      have F:=Hh B
      exactλW hS=>⟨by simp only[F.1,F.2,K.1,K.2,D0.1,D0.2,D1.1,D1.2,D2.1,D2.2],hS.bl⟩)))))) (λ(h28:((Cz (p 0) s (Ay (p 0) s))!=0)=false)=>hv (show(Cz (p 0) s (Ay (p 0) s))=0 from(by simpa using h28)) (λh28p=>aI (Eq.refl r1) (aI (cv B bs25 [] rs24 [] λW hS=>Ks (p 1) s W (hg.below hS.bl) (hl.below hS.bl)) (aI (A_ r21) (aI trivial (let e30:Nat×List Value:=(r21,[vI (DK (p 0) s (Ay (p 0) s)),vI (DK (p 1) s (Ay (p 1) s)),vI 0]);let bs29:AD:=[e3,e7,e14,e30];And.intro (λ(h31:((Cz (p 1) s (Ay (p 1) s))!=0)=true)=>hv (show¬((Cz (p 1) s (Ay (p 1) s))=0)from(by simpa using h31)) (λh31p=>aI (Dm r5) (aI trivial (aI (A_ r5) ((show AO B R bs29 [] rs24 [] (.tuple #[.agg #[vI 0,vI 0,vI 0],vI (Cz (p 1) s (Ay (p 1) s))])from by
      have B:EY p s=true:=by unfold EY;rw[F6,h18,decide_eq_true (show 1<=s by omega)];rfl
      have h0:s≠0:=by omega
      have D0:=Cf (z:=Ay (p 0) s) (DP F6).1 h18 h0
      have D1:=Cf (z:=Ay (p 1) s) (DP F6).2.1 h18 h0
      have D2:=Cf (z:=Ay (p 2) s) (DP F6).2.2 h18 h0
      have q0:=h28p;rw[D0.2]at q0
      have q1:=h31p;rw[D1.2]at q1
      have K:=Lj (e0:=BK (Ay (p 0) s)) (e1:=BK (Ay (p 1) s)) (e2:=BK (Ay (p 2) s)) q0 q1
      have F:=Hh B
      exactλW hS=>⟨by simp only[F.1,F.2,K.1,K.2,D0.1,D0.2,D1.1,D1.2,D2.1,D2.2],hS.bl⟩)))))) (λ(h32:((Cz (p 1) s (Ay (p 1) s))!=0)=false)=>hv (show(Cz (p 1) s (Ay (p 1) s))=0 from(by simpa using h32)) (λh32p=>aI (Eq.refl r1) (aI (cv B bs29 [] rs24 [] λW hS=>Ks (p 2) s W (hg.below hS.bl) (hl.below hS.bl)) (aI (A_ r21) (aI trivial (let e34:Nat×List Value:=(r21,[vI (DK (p 0) s (Ay (p 0) s)),vI (DK (p 1) s (Ay (p 1) s)),vI (DK (p 2) s (Ay (p 2) s))]);let bs33:AD:=[e3,e7,e14,e34];And.intro (λ(h35:((Cz (p 2) s (Ay (p 2) s))!=0)=true)=>hv (show¬((Cz (p 2) s (Ay (p 2) s))=0)from(by simpa using h35)) (λh35p=>aI (Dm r5) (aI trivial (aI (A_ r5) ((show AO B R bs33 [] rs24 [] (.tuple #[.agg #[vI 0,vI 0,vI 0],vI (Cz (p 2) s (Ay (p 2) s))])from by
      have B:EY p s=true:=by unfold EY;rw[F6,h18,decide_eq_true (show 1<=s by omega)];rfl
      have h0:s≠0:=by omega
      have D0:=Cf (z:=Ay (p 0) s) (DP F6).1 h18 h0
      have D1:=Cf (z:=Ay (p 1) s) (DP F6).2.1 h18 h0
      have D2:=Cf (z:=Ay (p 2) s) (DP F6).2.2 h18 h0
      have q0:=h28p;rw[D0.2]at q0
      have q1:=h32p;rw[D1.2]at q1
      have q2:=h35p;rw[D2.2]at q2
      have K:=N1 (e0:=BK (Ay (p 0) s)) (e1:=BK (Ay (p 1) s)) (e2:=BK (Ay (p 2) s)) q0 q1 q2
      have F:=Hh B
      exactλW hS=>⟨by simp only[F.1,F.2,K.1,K.2,D0.1,D0.2,D1.1,D1.2,D2.1,D2.2],hS.bl⟩)))))) (λ(h36:((Cz (p 2) s (Ay (p 2) s))!=0)=false)=>hv (show(Cz (p 2) s (Ay (p 2) s))=0 from(by simpa using h36)) (λh36p=>aI (Eq.refl r21) (aI (Dm r5) (aI trivial (let e38:Nat×List Value:=(r5,[vI (DK (p 0) s (Ay (p 0) s)),vI (DK (p 1) s (Ay (p 1) s)),vI (DK (p 2) s (Ay (p 2) s))]);let bs37:AD:=[e3,e38,e14,e34];aI (A_ r5) ((show AO B R bs37 [] rs24 [] (.tuple #[.agg #[vI (DK (p 0) s (Ay (p 0) s)),vI (DK (p 1) s (Ay (p 1) s)),vI (DK (p 2) s (Ay (p 2) s))],vI 0])from by
      have B:EY p s=true:=by unfold EY;rw[F6,h18,decide_eq_true (show 1<=s by omega)];rfl
      have h0:s≠0:=by omega
      have D0:=Cf (z:=Ay (p 0) s) (DP F6).1 h18 h0
      have D1:=Cf (z:=Ay (p 1) s) (DP F6).2.1 h18 h0
      have D2:=Cf (z:=Ay (p 2) s) (DP F6).2.2 h18 h0
      have q0:=h28p;rw[D0.2]at q0
      have q1:=h32p;rw[D1.2]at q1
      have q2:=h36p;rw[D2.2]at q2
      have K:=Iw (e0:=BK (Ay (p 0) s)) (e1:=BK (Ay (p 1) s)) (e2:=BK (Ay (p 2) s)) q0 q1 q2
      have F:=Hh B
      exactλW hS=>⟨by simp only[F.1,F.2,K.1,K.2,D0.1,D0.2,D1.1,D1.2,D2.1,D2.2],hS.bl⟩))))))))))))))))))))))))))))))))))))))
end Go.Proofs.YtikajapjkdloaaaGreatDoor
namespace Go.Proofs.YtikajapjkdloaaaGreatDoor
set_option maxRecDepth 1000000
set_option maxHeartbeats 8000000
open Go.RowKit
set_option linter.unusedSimpArgs false
set_option linter.unusedVariables false
def SQ(p:Nat->Int)(s:Int)(c:Bool)(t:Nat->Int):Int:=if c then(if Ab t then 0 else 1)else Eo p s
def RP(p:Nat->Int)(s:Int)(c:Bool)(t:Nat->Int)(i:Nat):Int:=if c then(if Ab t then t i else 0)else Bw p s i
theorem Qc{p t:Nat->Int}{s:Int}{c:Bool}(h:c=true):SQ p s c t=(if Ab t then 0 else 1)/\ ∀i,RP p s c t i=(if Ab t then t i else 0):=by subst h;exact⟨rfl,λ_=>rfl⟩
theorem SR{p t:Nat->Int}{s:Int}{c:Bool}(h:c=false):SQ p s c t=Eo p s/\ ∀i,RP p s c t i=Bw p s i:=by subst h;exact⟨rfl,λ_=>rfl⟩
theorem OJ(t:Nat->Int):Eb t (v3 0 0 0)=(if Ab t then 0 else 1)/\Bi t (v3 0 0 0) 0=(if Ab t then t 0 else 0)/\Bi t (v3 0 0 0) 1=(if Ab t then t 1 else 0)/\Bi t (v3 0 0 0) 2=(if Ab t then t 2 else 0):=by
 have hz:Ab (v3 0 0 0)=true:=by decide
 cases h:Ab t
 ·obtain⟨a,b⟩:=LZ (a:=t) (b:=v3 0 0 0) (by rw[h];rfl)
  exact⟨a,b 0,b 1,b 2⟩
 obtain⟨f0,f1,f2⟩:=Ch h
 obtain⟨a,b⟩:=Ix h hz
 have k: ∀z,AL z=true->AX z 0 (z+0)=0/\AR z 0 (z+0)=z:= λz q=>by
  have:=B8 (a:=z) (b:=0) (z:=z+0) q (by decide)
  rw[Int.add_zero]at this⊢
  rw[this.1,this.2];exact⟨(Cw q).2,(Cw q).1⟩
 have Y0:A7 t (v3 0 0 0) 0=0:=(k _ f0).1
 have Y1:A7 t (v3 0 0 0) 1=0:=(k _ f1).1
 have Y2:A7 t (v3 0 0 0) 2=0:=(k _ f2).1
 have E:=Iw (e0:=0) (e1:=0) (e2:=0) rfl rfl rfl
 rw[a,b 0,b 1,b 2,Y0,Y1,Y2,E.1,E.2,E.2,E.2]
 exact⟨rfl,(k _ f0).2,(k _ f1).2,(k _ f2).2⟩
theorem Qo(p:Nat->Int)(s:Int)(b1 b2:Nat)(hp6: ∀i,Ai (p i))(hs:Ai s)(w:World)(hg:GN w)(hl:GL w)(cb10:w.cell? ⟨b1,0,none⟩=some (.int .i64 (p 0)))(cb11:w.cell? ⟨b1,1,none⟩=some (.int .i64 (p 1)))(cb12:w.cell? ⟨b1,2,none⟩=some (.int .i64 (p 2)))(cb13:w.cell? ⟨b1,3,none⟩=some (.int .i64 (p 3)))(cb14:w.cell? ⟨b1,4,none⟩=some (.int .i64 (p 4)))(cb15:w.cell? ⟨b1,5,none⟩=some (.int .i64 (p 5)))(cb20:w.cell? ⟨b2,0,none⟩=some (.int .i64 s)):Calls Tryz.prog 158 #[.pointer (some ⟨b1,0,none⟩),.pointer (some ⟨b2,0,none⟩)] w (λe w'=>e=.returned (.tuple #[.agg #[.int .i64 (Bw p s 0),.int .i64 (Bw p s 1),.int .i64 (Bw p s 2)],.int .i64 (Eo p s)])/\Below w.heap.size w w'):=by
 exact(let B:Base:=(⟨w,λ_=>False⟩:Base);let R:Ending->World->Prop:=(λe w'=>e=.returned (.tuple #[.agg #[.int .i64 (Bw p s 0),.int .i64 (Bw p s 1),.int .i64 (Bw p s 2)],.int .i64 (Eo p s)])/\Below w.heap.size w w');AC (f:=158) (B:=B) (R:=R) (es:=[(b1,[.int .i64 (p 0),.int .i64 (p 1),.int .i64 (p 2),.int .i64 (p 3),.int .i64 (p 4),.int .i64 (p 5)]),(b2,[.int .i64 s])]) (c:=Tryz.f158.body.getD .skip) (tmps:=#[vP b1,vP b2,vN,vN,vN,vN,vN,vN,vN])
  (.s [.c,.c] (.new (λr1=>.s [.v,.c,.c,.c,.ext 0,.ext 1,.call (.tuple #[.agg #[vI (Bw p s 0),vI (Bw p s 1),vI (Bw p s 2)],vI (Eo p s)]),.v,.v,.put 0] (.s [.v,.c] (.ret [0])))))
  (by kernel_rfl) (Sx.refl w _) (by exact ExX.cons (Ib (λh=>h) (show Az w b1 0 [.int .i64 (p 0),.int .i64 (p 1),.int .i64 (p 2),.int .i64 (p 3),.int .i64 (p 4),.int .i64 (p 5)]from by exact⟨cb10,cb11,cb12,cb13,cb14,cb15,trivial⟩)) (ExX.cons (Ib (λh=>h) (show Az w b2 0 [.int .i64 s]from by exact⟨cb20,trivial⟩)) (ExX.nil))) Tryz.func158 (by kernel_rfl) (by kernel_rfl) (Eq.mp (by kernel_rfl) (λ(r1:Nat)=>let e3:Nat×List Value:=(r1,[vI 0,vI 0,vI 0]);let bs2:AD:=[e3];let rs4:Aw:=[(0,23,3)];aI (Eq.refl b1) (aI (Eq.refl b2) (aI (cv B bs2 [] rs4 [] λW hS=>QI p s hp6 hs W (hg.below hS.bl) (hl.below hS.bl)) (aI (Dm r1) (aI trivial (let e6:Nat×List Value:=(r1,[vI (Bw p s 0),vI (Bw p s 1),vI (Bw p s 2)]);let bs5:AD:=[e6];aI (A_ r1) ((show AO B R bs5 [] rs4 [] (.tuple #[.agg #[vI (Bw p s 0),vI (Bw p s 1),vI (Bw p s 2)],vI (Eo p s)])from by
      exactλW hS=>⟨rfl,hS.bl⟩))))))))))
theorem Q4(t:Nat->Int)(b1:Nat)(ht: ∀i,Ai (t i))(w:World)(cb10:w.cell? ⟨b1,0,none⟩=some (.int .i64 (t 0)))(cb11:w.cell? ⟨b1,1,none⟩=some (.int .i64 (t 1)))(cb12:w.cell? ⟨b1,2,none⟩=some (.int .i64 (t 2))):Calls Tryz.prog 160 #[.pointer (some ⟨b1,0,none⟩)] w (λe w'=>e=.returned (.tuple #[.agg #[.int .i64 (if Ab t then t 0 else 0),.int .i64 (if Ab t then t 1 else 0),.int .i64 (if Ab t then t 2 else 0)],.int .i64 (if Ab t then 0 else 1)])/\Below w.heap.size w w'):=by
 exact(let B:Base:=(⟨w,λ_=>False⟩:Base);let R:Ending->World->Prop:=(λe w'=>e=.returned (.tuple #[.agg #[.int .i64 (if Ab t then t 0 else 0),.int .i64 (if Ab t then t 1 else 0),.int .i64 (if Ab t then t 2 else 0)],.int .i64 (if Ab t then 0 else 1)])/\Below w.heap.size w w');AC (f:=160) (B:=B) (R:=R) (es:=[(b1,[.int .i64 (t 0),.int .i64 (t 1),.int .i64 (t 2)])]) (c:=Tryz.f160.body.getD .skip) (tmps:=#[vP b1,vN,vN,vN,vN,vN,vN,vN])
  (.s [.c,.c] (.new (λr1=>.s [.v,.c,.c,.c,.ext 0,.v,.call (.tuple #[.agg #[vI (Bi t (v3 0 0 0) 0),vI (Bi t (v3 0 0 0) 1),vI (Bi t (v3 0 0 0) 2)],vI (Eb t (v3 0 0 0))]),.v,.v,.put 0] (.s [.v,.c] (.ret [0])))))
  (by kernel_rfl) (Sx.refl w _) (by exact ExX.cons (Ib (λh=>h) (show Az w b1 0 [.int .i64 (t 0),.int .i64 (t 1),.int .i64 (t 2)]from by exact⟨cb10,cb11,cb12,trivial⟩)) (ExX.nil)) Tryz.func160 (by kernel_rfl) (by kernel_rfl) (Eq.mp (by kernel_rfl) (λ(r1:Nat)=>let e3:Nat×List Value:=(r1,[vI 0,vI 0,vI 0]);let bs2:AD:=[e3];let rs4:Aw:=[(0,23,3)];aI (Eq.refl b1) (aI (cv B bs2 [] rs4 [] λW hS=>LL t (v3 0 0 0) ht (Hj (p:=Ai) (by decide) (by decide) (by decide)) W) (aI (Dm r1) (aI trivial (let e6:Nat×List Value:=(r1,[vI (Bi t (v3 0 0 0) 0),vI (Bi t (v3 0 0 0) 1),vI (Bi t (v3 0 0 0) 2)]);let bs5:AD:=[e6];aI (A_ r1) ((show AO B R bs5 [] rs4 [] (.tuple #[.agg #[vI (Bi t (v3 0 0 0) 0),vI (Bi t (v3 0 0 0) 1),vI (Bi t (v3 0 0 0) 2)],vI (Eb t (v3 0 0 0))])from by
      have F:=OJ t
      exactλW hS=>⟨by rw[F.1,F.2.1,F.2.2.1,F.2.2.2],hS.bl⟩)))))))))
theorem Tq(p:Nat->Int)(s:Int)(c:Bool)(t:Nat->Int)(hp6: ∀i,Ai (p i))(hs:Ai s)(_hc:True)(ht: ∀i,Ai (t i))(w:World)(hg:GN w)(hl:GL w):Calls Tryz.prog 104 #[.agg #[.int .i64 (p 0),.int .i64 (p 1),.int .i64 (p 2),.int .i64 (p 3),.int .i64 (p 4),.int .i64 (p 5)],.int .i64 s,.bool c,.agg #[.int .i64 (t 0),.int .i64 (t 1),.int .i64 (t 2)]] w (λe w'=>e=.returned (.tuple #[.agg #[.int .i64 (RP p s c t 0),.int .i64 (RP p s c t 1),.int .i64 (RP p s c t 2)],.int .i64 (SQ p s c t)])/\Below w.heap.size w w'):=by
 exact(let B:Base:=(⟨w,λ_=>False⟩:Base);let R:Ending->World->Prop:=(λe w'=>e=.returned (.tuple #[.agg #[.int .i64 (RP p s c t 0),.int .i64 (RP p s c t 1),.int .i64 (RP p s c t 2)],.int .i64 (SQ p s c t)])/\Below w.heap.size w w');AC (f:=104) (B:=B) (R:=R) (es:=[]) (c:=Tryz.f104.body.getD .skip) (tmps:=#[.agg #[vI (p 0),vI (p 1),vI (p 2),vI (p 3),vI (p 4),vI (p 5)],vI s,.bool c,.agg #[vI (t 0),vI (t 1),vI (t 2)],vN,vN,vN,vN,vN,vN,vN,vN,vN,vN,vN,vN,vN,vN,vN,vN,vN])
  (.s [.c,.c] (.new (λr1=>.new (λr5=>.new (λr8=>.new (λr12=>.s [.v,.c,.c,.c,.v,.v] (.new (λr16=>.s [.put 4] (.s [.c,.c,.c,.c,.v,.c] (.split 13 (.s [.c,.c,.v,.v,.put 4] (.s [.c,.c,.c,.v,.own 4,.call (.tuple #[.agg #[vI (if Ab t then t 0 else 0),vI (if Ab t then t 1 else 0),vI (if Ab t then t 2 else 0)],vI (if Ab t then 0 else 1)]),.v,.v,.put 3] (.s [.v,.c] (.ret [3])))) (.s [.c,.c,.c,.c,.v,.own 4,.call (.tuple #[.agg #[vI (Bw p s 0),vI (Bw p s 1),vI (Bw p s 2)],vI (Eo p s)]),.v,.v,.put 3] (.s [.v,.c] (.ret [3])))))))))))))
  (by kernel_rfl) (Sx.refl w _) ExX.nil Tryz.func104 (by kernel_rfl) (by kernel_rfl) (Eq.mp (by kernel_rfl) (λ(r1:Nat)=>let e3:Nat×List Value:=(r1,[vI (p 0),vI (p 1),vI (p 2),vI (p 3),vI (p 4),vI (p 5)]); λ(r5:Nat)=> λ(r8:Nat)=>let e10:Nat×List Value:=(r8,[vI (t 0),vI (t 1),vI (t 2)]); λ(r12:Nat)=>let e14:Nat×List Value:=(r12,[vI 0,vI 0,vI 0]); λ(r16:Nat)=>let rs18:Aw:=[(0,45,6),(1,2,1),(2,23,3),(3,23,3),(4,206,1)];aI (A_ r16) (aI trivial (let e20:Nat×List Value:=(r16,[.func (.func 158) #[] #[vP r1,vP r5]]);let bs19:AD:=[e3,(r5,[vI s]),e10,e14,e20];And.intro (λ(h21:c=true)=>aI (A_ r16) (aI trivial (let e23:Nat×List Value:=(r16,[.func (.func 160) #[] #[vP r8]]);let bs22:AD:=[e3,(r5,[vI s]),e10,e14,e23];aI (Eq.refl r16) (aI (cv B bs22 [] rs18 [] λW hS=>Q4 t r8 ht W (hS.cell 2 0 rfl rfl) (hS.cell 2 1 rfl rfl) (hS.cell 2 2 rfl rfl)) (aI (Dm r12) (aI trivial (let e25:Nat×List Value:=(r12,[vI (if Ab t then t 0 else 0),vI (if Ab t then t 1 else 0),vI (if Ab t then t 2 else 0)]);let bs24:AD:=[e3,(r5,[vI s]),e10,e25,e23];aI (A_ r12) ((show AO B R bs24 [] rs18 [] (.tuple #[.agg #[vI (if Ab t then t 0 else 0),vI (if Ab t then t 1 else 0),vI (if Ab t then t 2 else 0)],vI (if Ab t then 0 else 1)])from by
      have F:=Qc (p:=p) (t:=t) (s:=s) h21
      exactλW hS=>⟨by simp only[F.1,F.2],hS.bl⟩))))))))) (λ(h26:c=false)=>aI (Eq.refl r16) (aI (cv B bs19 [] rs18 [] λW hS=>Qo p s r1 r5 hp6 hs W (hg.below hS.bl) (hl.below hS.bl) (hS.cell 0 0 rfl rfl) (hS.cell 0 1 rfl rfl) (hS.cell 0 2 rfl rfl) (hS.cell 0 3 rfl rfl) (hS.cell 0 4 rfl rfl) (hS.cell 0 5 rfl rfl) (hS.cell 1 0 rfl rfl)) (aI (Dm r12) (aI trivial (let e28:Nat×List Value:=(r12,[vI (Bw p s 0),vI (Bw p s 1),vI (Bw p s 2)]);let bs27:AD:=[e3,(r5,[vI s]),e10,e28,e20];aI (A_ r12) ((show AO B R bs27 [] rs18 [] (.tuple #[.agg #[vI (Bw p s 0),vI (Bw p s 1),vI (Bw p s 2)],vI (Eo p s)])from by
      have F:=SR (p:=p) (t:=t) (s:=s) h26
      exactλW hS=>⟨by simp only[F.1,F.2],hS.bl⟩))))))))))))
end Go.Proofs.YtikajapjkdloaaaGreatDoor
